/- Parts of one proof, one behind the other (put together by wip/merge2.py out of: QuanC, QuanD, Hquan, PQxf12, PQxf31, AwakeP, LawC1, Awake, Hawake). No conditions beyond each theorem's own. -/
import Derived.Shelf.Bits.Mul64
import Derived.Test.YtcgimjoebkeifaaPQx0
import Derived.Test.YtcgimjoebkeifaaPQxf13
import Derived.Test.YtcgimjoebkeifaaPQxq0
import Derived.KernelRfl
import Derived.Test.YtcgimjoebkeifaaPQxf14
import Derived.Test.YtcgimjoebkeifaaQE2
import Derived.Test.YtcgimjoebkeifaaQE3
import Derived.Test.YtcgimjoebkeifaaQE5
import Derived.Test.YtcgimjoebkeifaaQE6
/- math/bits.Div64 at a dividend of one word, and qdigest.rankOf. -/
namespace Go.Proofs.Ytcgimjoebkeifaa.Quan
set_option linter.unusedSimpArgs false
set_option linter.unusedVariables false
open Go.Shelf Go.RowKit Go.Proofs.YtcgimjoebkeifaaW.PrintWords Go.Proofs.Ytcgimjoebkeifaa.PQ Go.Proofs.Ytcgimjoebkeifaa.QComp Go.Proofs.Ytcgimjoebkeifaa.QHeap Go.Proofs.Ytcgimjoebkeifaa.QAdd Go.Sort
set_option maxHeartbeats 4000000
set_option maxRecDepth 100000 in
theorem div0_calls (lo y : Nat) (hlo : lo < 18446744073709551616) (hy0 : 0 < y) (hy : y < 18446744073709551616) (w : World) :
    Calls Try.prog 78 #[.int .u64 0, .int .u64 lo, .int .u64 y] w fun e w' => e = .returned (.tuple #[.int .u64 ((lo / y : Nat) : Int), .int .u64 ((lo % y : Nat) : Int)]) ∧ Grew w w' := by
  have h1 : ¬ ((y : Int) = 0) := by omega
  have h2 : ¬ ((y : Int) ≤ 0) := by omega
  have hq : ((lo / y : Nat) : Int) = (lo : Int) / y := by simp
  have hr : ((lo % y : Nat) : Int) = (lo : Int) % y := by simp
  have hw : IntKind.u64.wrap ((lo : Int) / y) = (lo : Int) / y := by
    have := Nat.div_le_self lo y
    rw [← hq]
    generalize lo / y = q at *
    rw [IntKind.wrap_u64]
    omega
  rw [hq, hr]
  clear hq hr
  go_enter Try.func78, Try.ntmps78
  go_wp2_with fail
  go_region
  go_wp2_with fail
  go_ret2
  exact ⟨rfl, Grew.drew w⟩
/-- max(1, phi * n, rounded up). -/
def rankF (num den n : Int) : Int := max 1 (if 0 < num * n % den then num * n / den + 1 else num * n / den)
set_option maxRecDepth 100000 in
theorem rankOf_calls (num den n : Nat) (hd : 0 < den) (hd2 : den ≤ 1152921504606846976) (hp : num * n ≤ 4611686018427387904) (hn : num ≤ 1152921504606846976) (hn2 : n ≤ 1152921504606846976) (w : World) :
    Calls Try.prog 48 #[.agg #[.int .i64 num, .int .i64 den], .int .i64 n] w fun e w' => e = .returned (.int .i64 (rankF num den n)) ∧ Grew w w' := by
  have hm := fun W => Any.bits_Mul64 Try.lays264 num n (by omega) (by omega) W
  have hdv := fun W => div0_calls (num * n) den (by omega) hd (by omega) W
  rw [Nat.div_eq_of_lt (by omega), Nat.mod_eq_of_lt (by omega)] at hm
  change ∀ W, Calls Try.prog 77 _ _ _ at hm
  have e1 : ((num * n / den : Nat) : Int) = (num : Int) * n / den := by simp
  have e2 : ((num * n % den : Nat) : Int) = (num : Int) * n % den := by simp
  have hle := Nat.div_le_self (num * n) den
  have hRF : Hid (rankF num den n = max 1 (if 0 < ((num * n % den : Nat) : Int) then ((num * n / den : Nat) : Int) + 1 else ((num * n / den : Nat) : Int))) := Lib.hid (by unfold rankF; rw [e1, e2])
  have hw1 : IntKind.u64.wrap (num : Int) = num := by rw [IntKind.wrap_u64]; omega
  have hw2 : IntKind.u64.wrap (n : Int) = n := by rw [IntKind.wrap_u64]; omega
  have hw3 : IntKind.u64.wrap (den : Int) = den := by rw [IntKind.wrap_u64]; omega
  clear e1 e2
  generalize num * n / den = q at *
  generalize num * n % den = r at *
  generalize num * n = p at *
  have hw4 : IntKind.u64.wrap ((q : Int) + 1) = q + 1 := by rw [IntKind.wrap_u64]; omega
  have hw5 : IntKind.i64.wrap ((q : Int) + 1) = q + 1 := by rw [IntKind.wrap_i64]; omega
  have hw6 : IntKind.i64.wrap (q : Int) = q := by rw [IntKind.wrap_i64]; omega
  generalize rankF num den n = R at *
  by_cases hr : 0 < r
  · have hr' : (0 : Int) < (r : Int) := by omega
    rw [if_pos hr'] at hRF
    go_enter Try.func48, Try.ntmps48
    go_wp2_with (first | (go_at_call 77; refine (hm _).mono ?_; rintro e w' ⟨rfl, rfl⟩) | (go_at_call 78; refine (hdv _).mono ?_; rintro e w' ⟨rfl, hg⟩))
    go_ret
    exact ⟨by rw [hRF.out]; rfl, (Grew.alloc w _).trans hg⟩
  · have hr' : ¬ (0 : Int) < (r : Int) := by omega
    rw [if_neg hr'] at hRF
    go_enter Try.func48, Try.ntmps48
    go_wp2_with (first | (go_at_call 77; refine (hm _).mono ?_; rintro e w' ⟨rfl, rfl⟩) | (go_at_call 78; refine (hdv _).mono ?_; rintro e w' ⟨rfl, hg⟩))
    go_ret
    exact ⟨by rw [hRF.out]; rfl, (Grew.alloc w _).trans hg⟩
end Go.Proofs.Ytcgimjoebkeifaa.Quan

/- qdigest.Quantile: the walk. -/
namespace Go.Proofs.Ytcgimjoebkeifaa.Quan
set_option linter.unusedSimpArgs false
set_option linter.unusedVariables false
open Go.RowKit Go.Proofs.YtcgimjoebkeifaaW.PrintWords Go.Proofs.Ytcgimjoebkeifaa.PQ Go.Proofs.Ytcgimjoebkeifaa.QComp Go.Proofs.Ytcgimjoebkeifaa.QHeap Go.Proofs.Ytcgimjoebkeifaa.QAdd Go.Sort
set_option maxHeartbeats 4000000
def QuanOk (bits count : Int) (xs : List S63) (num den : Int) : Prop := (0 ≤ num ∧ num ≤ 1152921504606846976) ∧ (0 < den ∧ den ≤ 1152921504606846976) ∧ (0 ≤ count ∧ count ≤ 1152921504606846976) ∧ num * count ≤ 4611686018427387904 ∧ (∀ x ∈ xs, NodeOk bits x) ∧ xs.length ≤ 1000000 ∧ rankF num den count ≤ tot xs
instance (a b : Int) (xs : List S63) (c d : Int) : Decidable (QuanOk a b xs c d) := by unfold QuanOk; exact inferInstance
def quanF (bits count : Int) (xs : List S63) (num den : Int) : Option (Int × Int × Int) :=
  if num < 0 ∨ den < num then some (0, 0, 2) else if count = 0 then some (0, 0, 28)
  else if QuanOk bits count xs num den then some (reachF (spanLo bits) xs (rankF num den count), reachF (spanHi bits) xs (rankF num den count), 0) else none
def QPost (r1 r2 r3 : Int) (w : World) (e : Ending) (w' : World) : Prop := e = .returned (.tuple #[.int .i64 r1, .int .i64 r2, .int .i64 r3]) ∧ Below w.heap.size w w'
theorem two_below (w : World) (o1 o2 : Obj) : Below w.heap.size w ((w.alloc o1).alloc o2) := ((Below.refl _ _).alloc (Nat.le_refl _) _).alloc (by simp) _
set_option maxRecDepth 100000 in
theorem quan_no (k : Nat) (a0 a1 a2 num den : Int) (A : Option Addr) (c : Nat) (xs : List S63) (t u : Int) (w : World) (hr : Kd.C k63 w A xs.length xs) (hc : xs.length ≤ c) (h : qdigest_Check.f k a0 a1 a2 xs = some t)
    (h2 : ¬ t = 0 ∨ (t = 0 ∧ ratio_Check.f k num den = some u ∧ ¬ u = 0)) :
    Calls Try.prog 25 #[.agg #[.int .i64 a0, .int .i64 a1, .int .i64 a2, .slice A xs.length c], .agg #[.int .i64 num, .int .i64 den]] w (QPost 0 0 1 w) := by
  have hch := fun W hW => qdigest_Check.calls k a0 a1 a2 A c xs t W hW hc h
  have hbe := two_below w (.cells #[.int .i64 a0, .int .i64 a1, .int .i64 a2, .slice A xs.length c] 24) (.cells #[.int .i64 num, .int .i64 den] 54)
  have hrr := fun W hb => Kd.C_below (w1 := W) hr hb
  clear hr
  rcases h2 with h2 | ⟨h2, h3, h4⟩
  · have ht1 : (t != 0) = true := by simpa using h2
    go_enter Try.func25, Try.ntmps25
    go_wp2_with fail
    refine (hch _ (hrr _ hbe)).mono ?_
    rintro e w1 ⟨rfl, hB⟩
    go_wp2_with fail
    go_ret3
    exact ⟨rfl, hbe.trans (hB.mono (by simp; omega))⟩
  · subst h2
    have hu1 : (u != 0) = true := by simpa using h4
    have hrc := fun W => ratio_Check.calls k num den u W h3
    obtain ⟨_, hb2⟩ := two_new w (.cells #[.int .i64 a0, .int .i64 a1, .int .i64 a2, .slice A xs.length c] 24) (.cells #[.int .i64 num, .int .i64 den] 54)
    have hz : w.heap.size + 1 < ((w.alloc (.cells #[.int .i64 a0, .int .i64 a1, .int .i64 a2, .slice A xs.length c] 24)).alloc (.cells #[.int .i64 num, .int .i64 den] 54)).heap.size := by simp
    go_enter Try.func25, Try.ntmps25
    go_wp2_with fail
    refine (hch _ (hrr _ hbe)).mono ?_
    rintro e w1 ⟨rfl, hB⟩
    have b2 := (hB.block _ hz).trans hb2
    have x0 := blk_cell b2 0
    have x1 := blk_cell b2 1
    simp at x0 x1
    have HBE := Lib.hid (hbe.trans (hB.mono (by simp; omega)))
    clear b2 hb2 hz hbe hB hch hrr
    go_wp2_with fail
    refine (hrc _).mono ?_
    rintro e w2 ⟨rfl, hB2⟩
    go_wp2_with fail
    go_ret3
    exact ⟨rfl, HBE.out.trans (hB2.mono HBE.out.size)⟩
set_option maxRecDepth 100000 in
theorem quan_few (k : Nat) (a0 a1 a2 num den r : Int) (A : Option Addr) (c : Nat) (xs : List S63) (w : World) (hr : Kd.C k63 w A xs.length xs) (hc : xs.length ≤ c) (h : qdigest_Check.f k a0 a1 a2 xs = some 0) (h3 : ratio_Check.f k num den = some 0)
    (hq : ((num < 0 ∨ den < num) ∧ r = 2) ∨ (¬ (num < 0 ∨ den < num) ∧ a2 = 0 ∧ r = 28)) :
    Calls Try.prog 25 #[.agg #[.int .i64 a0, .int .i64 a1, .int .i64 a2, .slice A xs.length c], .agg #[.int .i64 num, .int .i64 den]] w (QPost 0 0 r w) := by
  have hch := fun W hW => qdigest_Check.calls k a0 a1 a2 A c xs 0 W hW hc h
  have hbe := two_below w (.cells #[.int .i64 a0, .int .i64 a1, .int .i64 a2, .slice A xs.length c] 24) (.cells #[.int .i64 num, .int .i64 den] 54)
  have hrr := fun W hb => Kd.C_below (w1 := W) hr hb
  clear hr
  have hrc := fun W => ratio_Check.calls k num den 0 W h3
  obtain ⟨hb1, hb2⟩ := two_new w (.cells #[.int .i64 a0, .int .i64 a1, .int .i64 a2, .slice A xs.length c] 24) (.cells #[.int .i64 num, .int .i64 den] 54)
  have hz : w.heap.size + 1 < ((w.alloc (.cells #[.int .i64 a0, .int .i64 a1, .int .i64 a2, .slice A xs.length c] 24)).alloc (.cells #[.int .i64 num, .int .i64 den] 54)).heap.size := by simp
  go_enter Try.func25, Try.ntmps25
  go_wp2_with fail
  refine (hch _ (hrr _ hbe)).mono ?_
  rintro e w1 ⟨rfl, hB⟩
  have B2 := Lib.hid ((hB.block _ hz).trans hb2)
  have B1 := Lib.hid ((hB.block w.heap.size (by omega)).trans hb1)
  have hz1 : w.heap.size + 1 < w1.heap.size := by have := hB.size; omega
  have x0 := blk_cell B2.out 0
  have x1 := blk_cell B2.out 1
  simp at x0 x1
  have HBE := Lib.hid (hbe.trans (hB.mono (by simp; omega)))
  clear hb1 hb2 hz hbe hB hch hrr
  go_wp2_with fail
  refine (hrc _).mono ?_
  rintro e w2 ⟨rfl, hB2⟩
  have x0 := blk_cell ((hB2.block _ hz1).trans B2.out) 0
  have x1 := blk_cell ((hB2.block _ hz1).trans B2.out) 1
  have x2 := blk_cell ((hB2.block w.heap.size (by omega)).trans B1.out) 2
  simp at x0 x1 x2
  have HF := Lib.hid (HBE.out.trans (hB2.mono HBE.out.size))
  clear hB2 B1 B2
  rcases hq with ⟨hq, rfl⟩ | ⟨hq, hq2, rfl⟩
  · by_cases hn : num < 0
    · go_wp2_with fail
      go_ret3
      exact ⟨rfl, HF.out⟩
    · have hn2 : den < num := by rcases hq with h | h; exact absurd h hn; exact h
      go_wp2_with fail
      go_ret3
      exact ⟨rfl, HF.out⟩
  · have hn : ¬ num < 0 := fun h => hq (.inl h)
    have hn2 : ¬ den < num := fun h => hq (.inr h)
    subst hq2
    go_wp2_with fail
    go_ret3
    exact ⟨rfl, HF.out⟩
/-- reach at either end. -/
def reachG (bits : Int) (xs : List S63) (rank : Int) (g : Nat) : Int := if g = 49 then reachF (spanLo bits) xs rank else reachF (spanHi bits) xs rank
theorem reachG_calls (g : Nat) (hg : g = 49 ∨ g = 50) (W : World) (B : Nat) (bits : Int) (A : Option Addr) (c : Nat) (xs : List S63) (rank : Int) (hb : W.cell? ⟨B, 0, none⟩ = some (.int .i64 bits)) (hr : Kd.C k63 W A xs.length xs) (hc : xs.length ≤ c)
    (hok : ∀ x ∈ xs, NodeOk bits x) (hlen : xs.length ≤ 1000000) (hr0 : 0 < rank) (hr1 : rank ≤ tot xs) :
    Calls Try.prog 51 #[.slice A xs.length c, .int .i64 rank, .func (.func g) #[] #[.pointer (some ⟨B, 0, none⟩)]] W fun e w' => e = .returned (.int .i64 (reachG bits xs rank g)) ∧ Below W.heap.size W w' := by
  rcases hg with rfl | rfl
  · exact reach49 W B bits A c xs rank hb hr hc hok hlen hr0 hr1
  · exact reach50 W B bits A c xs rank hb hr hc hok hlen hr0 hr1
set_option maxRecDepth 100000 in
theorem quan_yes (k : Nat) (a0 a1 : Int) (a2 num den : Nat) (A : Option Addr) (c : Nat) (xs : List S63) (w : World) (hr : Kd.C k63 w A xs.length xs) (hc : xs.length ≤ c) (h : qdigest_Check.f k a0 a1 a2 xs = some 0) (h3 : ratio_Check.f k num den = some 0)
    (hn2 : num ≤ den) (ha : a2 ≠ 0) (hok : QuanOk a0 a2 xs num den) :
    Calls Try.prog 25 #[.agg #[.int .i64 a0, .int .i64 a1, .int .i64 a2, .slice A xs.length c], .agg #[.int .i64 num, .int .i64 den]] w (QPost (reachF (spanLo a0) xs (rankF num den a2)) (reachF (spanHi a0) xs (rankF num den a2)) 0 w) := by
  have hch := fun W hW => qdigest_Check.calls k a0 a1 a2 A c xs 0 W hW hc h
  have hbe := two_below w (.cells #[.int .i64 a0, .int .i64 a1, .int .i64 a2, .slice A xs.length c] 24) (.cells #[.int .i64 num, .int .i64 den] 54)
  have HRR := Lib.hid (fun W hb => Kd.C_below (w1 := W) hr hb)
  clear hr
  obtain ⟨⟨g1, g2⟩, ⟨g3, g4⟩, ⟨g5, g6⟩, g7, g8, g9, g10⟩ := hok
  have hrc := fun W => ratio_Check.calls k num den 0 W h3
  have hrk := fun W => rankOf_calls num den a2 (by omega) (by omega) (by rw [← Int.natCast_mul] at g7; omega) (by omega) (by omega) W
  have hpos : 0 < rankF num den a2 := by unfold rankF; exact Int.lt_of_lt_of_le (by decide) (Int.le_max_left _ _)
  have hrg := fun (g : Nat) (hg : g = 49 ∨ g = 50) (W : World) (hb : W.cell? ⟨w.heap.size, 0, none⟩ = some (.int .i64 a0)) (hC : Kd.C k63 W A xs.length xs) => reachG_calls g hg W w.heap.size a0 A c xs (rankF num den a2) hb hC hc g8 g9 hpos g10
  have HR1 : Hid (reachF (spanLo a0) xs (rankF num den a2) = reachG a0 xs (rankF num den a2) 49) := Lib.hid rfl
  have HR2 : Hid (reachF (spanHi a0) xs (rankF num den a2) = reachG a0 xs (rankF num den a2) 50) := Lib.hid rfl
  rw [HR1.out, HR2.out]
  clear HR1 HR2
  generalize reachG a0 xs (rankF num den a2) = R at *
  generalize rankF num den a2 = rank at *
  obtain ⟨hb1, hb2⟩ := two_new w (.cells #[.int .i64 a0, .int .i64 a1, .int .i64 a2, .slice A xs.length c] 24) (.cells #[.int .i64 num, .int .i64 den] 54)
  have hz : w.heap.size + 1 < ((w.alloc (.cells #[.int .i64 a0, .int .i64 a1, .int .i64 a2, .slice A xs.length c] 24)).alloc (.cells #[.int .i64 num, .int .i64 den] 54)).heap.size := by simp
  have hn1 : ¬ ((num : Int) < 0) := by omega
  have hn3 : ¬ ((den : Int) < num) := by omega
  have ha2 : ¬ ((a2 : Int) = 0) := by omega
  clear g8 g9 g10
  generalize hn : xs.length = n at *
  go_enter Try.func25, Try.ntmps25
  go_wp2_with fail
  refine (hch _ (HRR.out _ hbe)).mono ?_
  rintro e w1 ⟨rfl, hB⟩
  have B2 := Lib.hid ((hB.block _ hz).trans hb2)
  have B1 := Lib.hid ((hB.block w.heap.size (by omega)).trans hb1)
  have hz1 : w.heap.size + 1 < w1.heap.size := by have := hB.size; omega
  have x0 := blk_cell B2.out 0
  have x1 := blk_cell B2.out 1
  simp at x0 x1
  have HBE := Lib.hid (hbe.trans (hB.mono (by simp; omega)))
  clear hb1 hb2 hz hbe hB hch
  go_wp2_with fail
  refine (hrc _).mono ?_
  rintro e w2 ⟨rfl, hB2⟩
  have C2 := Lib.hid ((hB2.block _ hz1).trans B2.out)
  have C1 := Lib.hid ((hB2.block w.heap.size (by omega)).trans B1.out)
  have x0 := blk_cell C2.out 0
  have x1 := blk_cell C2.out 1
  have x2 := blk_cell C1.out 2
  simp at x0 x1 x2
  have HF := Lib.hid (HBE.out.trans (hB2.mono HBE.out.size))
  have hz2 : w.heap.size + 1 < w2.heap.size := by have := hB2.size; omega
  clear hB2 B1 B2 HBE hrc
  go_wp2_with (go_at_call 48; refine (hrk _).mono ?_; rintro e w3 ⟨rfl, hg3⟩; have qB := keepc hg3 ((blk_cell C1.out 0).trans (show _ = some (Value.int .i64 a0) from rfl)); have q3 := keepc hg3 ((blk_cell C1.out 3).trans (show _ = some (Value.slice A n c) from rfl)); have HF3 := Lib.hid (HF.out.trans (hg3.below.mono HF.out.size)); have qC := HRR.out _ HF3.out)
  have hzB : w.heap.size < w3.heap.size := cell_lt qB
  go_region_held3 (fun Z => Z.cell? ⟨w.heap.size, 3, none⟩ = some (.slice A n c)) (go_keep) (first | (go_at_call 51; refine (hrg _ (by decide) _ (by first | exact pB | exact qB) (by first | exact pC | exact Kd.C_drew qC)).mono ?_; rintro e w4 ⟨rfl, hb4⟩; have pB := (hb4.cell (p := ⟨w.heap.size, 0, none⟩) (by first | exact cell_lt pB | exact cell_lt qB)).trans (by first | exact pB | exact qB); have p3 := (hb4.cell (p := ⟨w.heap.size, 3, none⟩) (by first | exact cell_lt p3 | exact cell_lt q3)).trans (by first | exact p3 | exact q3); have HF4 := Lib.hid (Below.trans (by first | exact HF4.out | exact HF3.out.drew) (hb4.mono (by first | exact HF4.out.size | exact HF3.out.size))); have pC := HRR.out _ HF4.out))
  go_wp2_with fail
  go_ret3
  exact ⟨rfl, HF4.out⟩
end Go.Proofs.Ytcgimjoebkeifaa.Quan

/- qdigest.Quantile as a Lean function, with a proof that the call answers so. Conditions: the nodes lie in memory as given. -/
namespace Go.Proofs.Ytcgimjoebkeifaa.PQ
set_option linter.unusedSimpArgs false
set_option linter.unusedVariables false
open Go.RowKit Go.Proofs.YtcgimjoebkeifaaW.PrintWords Go.Proofs.Ytcgimjoebkeifaa.Quan Go.Proofs.YtcgimjoebkeifaaW.PrintLast Go.Proofs.YtcgimjoebkeifaaW.PrintMore
def qdigest_Quantile.f (k : Nat) (a0_0 : Int) (a0_1 : Int) (a0_2 : Int) (l0_3 : List (S63)) (a1_0 : Int) (a1_1 : Int) : Option (Int × Int × Int) :=
  (qdigest_Check.f k a0_0 a0_1 a0_2 l0_3).bind fun t => if t = 0 then ((ratio_Check.f k a1_0 a1_1).bind fun u => if u = 0 then quanF a0_0 a0_2 l0_3 a1_0 a1_1 else some (0, 0, 1)) else some (0, 0, 1)
theorem qdigest_Quantile.mono : ∀ a0 a1 a2 a3 a4 a5 k, LeO (qdigest_Quantile.f k a0 a1 a2 a3 a4 a5) (qdigest_Quantile.f (k + 1) a0 a1 a2 a3 a4 a5) := by
  intro a0 a1 a2 a3 a4 a5 k
  unfold qdigest_Quantile.f
  refine LeO.bind (qdigest_Check.mono _ _ _ _ _) (fun t => ?_)
  refine LeO.ite ?_ (LeO.refl _)
  refine LeO.bind (ratio_Check.mono _ _ _) (fun u => ?_)
  exact LeO.refl _
theorem qdigest_Quantile.calls (k : Nat) (a0_0 : Int) (a0_1 : Int) (a0_2 : Int) (A0_3 : Option Addr) (c0_3 : Nat) (l0_3 : List (S63)) (a1_0 : Int) (a1_1 : Int) (r1 : Int) (r2 : Int) (r3 : Int) (w : World) (hr0_3 : Kd.C k63 w A0_3 l0_3.length l0_3) (hc0_3 : l0_3.length ≤ c0_3) (h : qdigest_Quantile.f k a0_0 a0_1 a0_2 l0_3 a1_0 a1_1 = some (r1, r2, r3)) :
    Calls Try.prog 25 #[.agg #[.int .i64 a0_0, .int .i64 a0_1, .int .i64 a0_2, .slice A0_3 l0_3.length c0_3], .agg #[.int .i64 a1_0, .int .i64 a1_1]] w fun e w' => e = .returned (.tuple #[.int .i64 r1, .int .i64 r2, .int .i64 r3]) ∧ Below w.heap.size w w' := by
  unfold qdigest_Quantile.f at h
  obtain ⟨t, ht, h⟩ := Option.bind_eq_some_iff.1 h
  by_cases h0 : t = 0
  · rw [if_pos h0] at h
    subst h0
    obtain ⟨u, hu, h⟩ := Option.bind_eq_some_iff.1 h
    by_cases h1 : u = 0
    · rw [if_pos h1] at h
      subst h1
      unfold quanF at h
      by_cases hq : a1_0 < 0 ∨ a1_1 < a1_0
      · rw [if_pos hq] at h
        simp only [Option.some.injEq, Prod.mk.injEq] at h
        obtain ⟨rfl, rfl, rfl⟩ := h
        exact quan_few k a0_0 a0_1 a0_2 a1_0 a1_1 2 A0_3 c0_3 l0_3 w hr0_3 hc0_3 ht hu (.inl ⟨hq, rfl⟩)
      · rw [if_neg hq] at h
        by_cases hz : a0_2 = 0
        · rw [if_pos hz] at h
          simp only [Option.some.injEq, Prod.mk.injEq] at h
          obtain ⟨rfl, rfl, rfl⟩ := h
          exact quan_few k a0_0 a0_1 a0_2 a1_0 a1_1 28 A0_3 c0_3 l0_3 w hr0_3 hc0_3 ht hu (.inr ⟨hq, hz, rfl⟩)
        · rw [if_neg hz] at h
          by_cases hok : QuanOk a0_0 a0_2 l0_3 a1_0 a1_1
          case neg => rw [if_neg hok] at h; cases h
          rw [if_pos hok] at h
          simp only [Option.some.injEq, Prod.mk.injEq] at h
          obtain ⟨rfl, rfl, rfl⟩ := h
          obtain ⟨n2, rfl⟩ := Int.eq_ofNat_of_zero_le hok.2.2.1.1
          obtain ⟨num, rfl⟩ := Int.eq_ofNat_of_zero_le hok.1.1
          obtain ⟨den, rfl⟩ := Int.eq_ofNat_of_zero_le (Int.le_of_lt hok.2.1.1)
          exact quan_yes k a0_0 a0_1 n2 num den A0_3 c0_3 l0_3 w hr0_3 hc0_3 ht hu (by omega) (by omega) hok
    · rw [if_neg h1] at h
      simp only [Option.some.injEq, Prod.mk.injEq] at h
      obtain ⟨rfl, rfl, rfl⟩ := h
      exact quan_no k a0_0 a0_1 a0_2 a1_0 a1_1 A0_3 c0_3 l0_3 0 u w hr0_3 hc0_3 ht (.inr ⟨rfl, hu, h1⟩)
  · rw [if_neg h0] at h
    simp only [Option.some.injEq, Prod.mk.injEq] at h
    obtain ⟨rfl, rfl, rfl⟩ := h
    exact quan_no k a0_0 a0_1 a0_2 a1_0 a1_1 A0_3 c0_3 l0_3 t 0 w hr0_3 hc0_3 ht (.inl h0)
end Go.Proofs.Ytcgimjoebkeifaa.PQ

/- Written by a program of this session (wip/patch_print.py): Go functions as Lean functions, each with a proof that the call does what its function says. No conditions beyond each theorem's own. -/
namespace Go.Proofs.Ytcgimjoebkeifaa.PQ
open Go.RowKit Go.Proofs.YtcgimjoebkeifaaW.PrintWords Go.Proofs.YtcgimjoebkeifaaW.PrintLast Go.Proofs.YtcgimjoebkeifaaW.PrintMore
attribute [local go_sem] max2_int min2_int max_two min_two max_three min_three max_four min_four   -- for this text's walks alone
set_option linter.unusedVariables false
set_option linter.unusedSimpArgs false

/-! ### qdigest_Rank: function 12 -/
mutual
def qdigest_Rank.j0 : Nat → Int → Bool → Int → Int → Int → List (S63) → Option (Int × Int × Int)
 | 0, _, _, _, _, _, _ => none
 | k + 1, x1, x24, x113000, x113001, x113002, x113003 => if x24 = true then (some (0, 0, 2)) else (qdigest_Rank.l0 k x1 0 0 x113003 (x113003.length : Int) 0 x113000 x113001 x113002 x113003)
def qdigest_Rank.l0 : Nat → Int → Int → Int → List (S63) → Int → Int → Int → Int → Int → List (S63) → Option (Int × Int × Int)
 | 0, _, _, _, _, _, _, _, _, _, _ => none
 | k + 1, x1, x7, x8, x26, x27, x28, x113000, x113001, x113002, x113003 => if x28 < x27 then (if 0 ≤ x28 then (if x28 < (x26.length : Int) then ((qdigest_span.f x113000 ((rd_T63 x26 x28).f0)).bind fun bt116 => (if bt116.2 ≤ x1 then (qdigest_Rank.j2 k x1 (wrap64 (x7 + ((rd_T63 x26 x28).f1))) x8 bt116.1 x26 x27 x28 x113000 x113001 x113002 x113003 ((rd_T63 x26 x28).f0) ((rd_T63 x26 x28).f1)) else (qdigest_Rank.j2 k x1 x7 x8 bt116.1 x26 x27 x28 x113000 x113001 x113002 x113003 ((rd_T63 x26 x28).f0) ((rd_T63 x26 x28).f1)))) else (none)) else (none)) else (some (x7, x8, 0))
def qdigest_Rank.j2 : Nat → Int → Int → Int → Int → List (S63) → Int → Int → Int → Int → Int → List (S63) → Int → Int → Option (Int × Int × Int)
 | 0, _, _, _, _, _, _, _, _, _, _, _, _, _ => none
 | k + 1, x1, x7, x8, x11, x26, x27, x28, x113000, x113001, x113002, x113003, x116000, x116001 => if x11 ≤ x1 then (qdigest_Rank.l0 k x1 x7 (wrap64 (x8 + x116001)) x26 x27 (wrap64 (x28 + 1)) x113000 x113001 x113002 x113003) else (qdigest_Rank.l0 k x1 x7 x8 x26 x27 (wrap64 (x28 + 1)) x113000 x113001 x113002 x113003)
end
def qdigest_Rank.f (k : Nat) (a0_0 : Int) (a0_1 : Int) (a0_2 : Int) (l0_3 : List (S63)) (a1 : Int) : Option (Int × Int × Int) := (qdigest_Check.f k a0_0 a0_1 a0_2 l0_3).bind fun t113 => (if t113 = 0 then (if a1 < 0 then (qdigest_Rank.j0 k a1 true a0_0 a0_1 a0_2 l0_3) else (if 0 ≤ a0_0 then (qdigest_Rank.j0 k a1 (decide (a1 ≥ (shl .i64 1 a0_0))) a0_0 a0_1 a0_2 l0_3) else (none))) else (some (0, 0, 1)))
theorem qdigest_Rank.mono_l : ∀ k, (∀ y0 y1 y2 y3 y4 y5, LeO (qdigest_Rank.j0 k y0 y1 y2 y3 y4 y5) (qdigest_Rank.j0 (k + 1) y0 y1 y2 y3 y4 y5)) ∧ (∀ y0 y1 y2 y3 y4 y5 y6 y7 y8 y9, LeO (qdigest_Rank.l0 k y0 y1 y2 y3 y4 y5 y6 y7 y8 y9) (qdigest_Rank.l0 (k + 1) y0 y1 y2 y3 y4 y5 y6 y7 y8 y9)) ∧ (∀ y0 y1 y2 y3 y4 y5 y6 y7 y8 y9 y10 y11 y12, LeO (qdigest_Rank.j2 k y0 y1 y2 y3 y4 y5 y6 y7 y8 y9 y10 y11 y12) (qdigest_Rank.j2 (k + 1) y0 y1 y2 y3 y4 y5 y6 y7 y8 y9 y10 y11 y12))
 | 0 => ⟨fun _ _ _ _ _ _ r h => by simp [qdigest_Rank.j0] at h, fun _ _ _ _ _ _ _ _ _ _ r h => by simp [qdigest_Rank.l0] at h, fun _ _ _ _ _ _ _ _ _ _ _ _ _ r h => by simp [qdigest_Rank.j2] at h⟩
 | k + 1 => by
  obtain ⟨ih0, ih1, ih2⟩ := qdigest_Rank.mono_l k
  refine ⟨?_, ?_, ?_⟩
  ·intro y0 y1 y2 y3 y4 y5
   unfold qdigest_Rank.j0
   repeat' first
   | (with_reducible exact ih0 _ _ _ _ _ _)
   | (with_reducible exact ih1 _ _ _ _ _ _ _ _ _ _)
   | (with_reducible exact ih2 _ _ _ _ _ _ _ _ _ _ _ _ _)
   | (with_reducible exact qdigest_Check.mono _ _ _ _ _)
   | (with_reducible exact LeO.refl _)
   | (with_reducible exact LeO.none _)
   | (with_reducible refine LeO.ite ?_ ?_)
   | (with_reducible refine LeO.bind ?_ (fun _ => ?_))
   | exact ih0 _ _ _ _ _ _
   | exact ih1 _ _ _ _ _ _ _ _ _ _
   | exact ih2 _ _ _ _ _ _ _ _ _ _ _ _ _
   | exact qdigest_Check.mono _ _ _ _ _
   | exact LeO.none _
   | refine LeO.ite ?_ ?_
   | refine LeO.bind ?_ (fun _ => ?_)
  ·intro y0 y1 y2 y3 y4 y5 y6 y7 y8 y9
   unfold qdigest_Rank.l0
   repeat' first
   | (with_reducible exact ih0 _ _ _ _ _ _)
   | (with_reducible exact ih1 _ _ _ _ _ _ _ _ _ _)
   | (with_reducible exact ih2 _ _ _ _ _ _ _ _ _ _ _ _ _)
   | (with_reducible exact qdigest_Check.mono _ _ _ _ _)
   | (with_reducible exact LeO.refl _)
   | (with_reducible exact LeO.none _)
   | (with_reducible refine LeO.ite ?_ ?_)
   | (with_reducible refine LeO.bind ?_ (fun _ => ?_))
   | exact ih0 _ _ _ _ _ _
   | exact ih1 _ _ _ _ _ _ _ _ _ _
   | exact ih2 _ _ _ _ _ _ _ _ _ _ _ _ _
   | exact qdigest_Check.mono _ _ _ _ _
   | exact LeO.none _
   | refine LeO.ite ?_ ?_
   | refine LeO.bind ?_ (fun _ => ?_)
  ·intro y0 y1 y2 y3 y4 y5 y6 y7 y8 y9 y10 y11 y12
   unfold qdigest_Rank.j2
   repeat' first
   | (with_reducible exact ih0 _ _ _ _ _ _)
   | (with_reducible exact ih1 _ _ _ _ _ _ _ _ _ _)
   | (with_reducible exact ih2 _ _ _ _ _ _ _ _ _ _ _ _ _)
   | (with_reducible exact qdigest_Check.mono _ _ _ _ _)
   | (with_reducible exact LeO.refl _)
   | (with_reducible exact LeO.none _)
   | (with_reducible refine LeO.ite ?_ ?_)
   | (with_reducible refine LeO.bind ?_ (fun _ => ?_))
   | exact ih0 _ _ _ _ _ _
   | exact ih1 _ _ _ _ _ _ _ _ _ _
   | exact ih2 _ _ _ _ _ _ _ _ _ _ _ _ _
   | exact qdigest_Check.mono _ _ _ _ _
   | exact LeO.none _
   | refine LeO.ite ?_ ?_
   | refine LeO.bind ?_ (fun _ => ?_)
theorem qdigest_Rank.mono : ∀ a0 a1 a2 a3 a4 k, LeO (qdigest_Rank.f k a0 a1 a2 a3 a4) (qdigest_Rank.f (k + 1) a0 a1 a2 a3 a4) := by
 intro a0 a1 a2 a3 a4 k
 obtain ⟨ih0, ih1, ih2⟩ := qdigest_Rank.mono_l k
 unfold qdigest_Rank.f
 repeat' first
   | (with_reducible exact ih0 _ _ _ _ _ _)
   | (with_reducible exact ih1 _ _ _ _ _ _ _ _ _ _)
   | (with_reducible exact ih2 _ _ _ _ _ _ _ _ _ _ _ _ _)
   | (with_reducible exact qdigest_Check.mono _ _ _ _ _)
   | (with_reducible exact LeO.refl _)
   | (with_reducible exact LeO.none _)
   | (with_reducible refine LeO.ite ?_ ?_)
   | (with_reducible refine LeO.bind ?_ (fun _ => ?_))
   | exact ih0 _ _ _ _ _ _
   | exact ih1 _ _ _ _ _ _ _ _ _ _
   | exact ih2 _ _ _ _ _ _ _ _ _ _ _ _ _
   | exact qdigest_Check.mono _ _ _ _ _
   | exact LeO.none _
   | refine LeO.ite ?_ ?_
   | refine LeO.bind ?_ (fun _ => ?_)
set_option maxHeartbeats 8000000 in
set_option maxRecDepth 100000 in
theorem qdigest_Rank.calls (k : Nat) (a0_0 : Int) (a0_1 : Int) (a0_2 : Int) (A0_3 : Option Addr) (c0_3 : Nat) (l0_3 : List (S63)) (a1 : Int) (r1 : Int) (r2 : Int) (r3 : Int) (w : World) (hr0_3 : Kd.C k63 w A0_3 l0_3.length l0_3) (hc0_3 : l0_3.length ≤ c0_3) (h : qdigest_Rank.f k a0_0 a0_1 a0_2 l0_3 a1 = some (r1, r2, r3)) :
  Calls Try.prog 12 #[.agg #[.int .i64 a0_0, .int .i64 a0_1, .int .i64 a0_2, .slice A0_3 l0_3.length c0_3], .int .i64 a1] w fun e w' => e = .returned (.tuple #[.int .i64 r1, .int .i64 r2, .int .i64 r3]) ∧ Below w.heap.size w w' := by
 have hu24 := Try.underlying24
 have hu63 := Try.underlying63
 have HR0_3 := Aside0.mk hr0_3
 have HC0_3 := Aside0.mk hc0_3
 clear hr0_3 hc0_3
 have HB := Aside0.mk (Below.refl w.heap.size w)
 have H : ((qdigest_Check.f k a0_0 a0_1 a0_2 l0_3).bind fun t113 => (if t113 = 0 then (if a1 < 0 then (qdigest_Rank.j0 k a1 true a0_0 a0_1 a0_2 l0_3) else (if 0 ≤ a0_0 then (qdigest_Rank.j0 k a1 (decide (a1 ≥ (shl .i64 1 a0_0))) a0_0 a0_1 a0_2 l0_3) else (none))) else (some (0, 0, 1)))) = some (r1, r2, r3) := h
 clear h
 replace H := Option.bind_eq_some_iff.mp H
 obtain ⟨t113, A30, H⟩ := H
 replace H : (if t113 = 0 then (if a1 < 0 then (qdigest_Rank.j0 k a1 true a0_0 a0_1 a0_2 l0_3) else (if 0 ≤ a0_0 then (qdigest_Rank.j0 k a1 (decide (a1 ≥ (shl .i64 1 a0_0))) a0_0 a0_1 a0_2 l0_3) else (none))) else (some (0, 0, 1))) = some (r1, r2, r3) := H
 have A3 := Aside0.mk A30
 clear A30
 by_cases c4 : t113 = 0
 ·rw [if_pos c4] at H
  have c4b0 : (t113 == 0) = true := beq_iff_eq.mpr c4
  have c4b1 : (t113 != 0) = false := bne_eq_false_iff_eq.mpr c4
  clear c4
  have HC5 := Aside0.mk H
  clear H
  go_enter Try.func12, Try.ntmps12
  go_upto_region 3 with (first | ((with_reducible refine gate_dst (N := 2) rfl ?_); refine box_event ?hg (N := 2) ?hd (cs := #[.int .i64 a0_0, .int .i64 a0_1, .int .i64 a0_2, .slice A0_3 l0_3.length c0_3]) (t := 24) ?hr ?_; (case hd => rfl); (case hg => rfl); (case hr => first | (go_simp; done) | (go_simp; rfl)); intro gb112 hg w6 hbox hb; have n0_ := Aside0.mk (below_step (by repeat (first | (with_reducible first | exact HB.out | apply below_alloc | apply pw_below_drewN | apply below_drew1) | exact HB.out)) hb); have n1_ := Aside0.mk (hbox); have n2_ := Aside0.mk ((by rw [hg]; exact (below_size (by repeat (first | (with_reducible first | exact HB.out | apply below_alloc | apply pw_below_drewN | apply below_drew1) | exact HB.out))) : w.heap.size ≤ gb112)); have n3_ := Aside0.mk ((by rw [hg]; exact (below_size (by repeat (first | (with_reducible first | exact HB.out | apply below_alloc | apply pw_below_drewN | apply below_drew1) | exact HB.out))) : w.heap.size ≤ gb112)); clear HB; have HB := n0_; have BK112 := n1_; have GW112 := n2_; have GE112 := n3_; clear n0_ n1_ n2_ n3_; clear hb hbox hg; have hcz7_0 : w6.cell? ⟨gb112, 0, none⟩ = some (.int .i64 a0_0) := (blk_cell BK112.out 0).trans rfl; have hcz7_1 : w6.cell? ⟨gb112, 1, none⟩ = some (.int .i64 a0_1) := (blk_cell BK112.out 1).trans rfl; have hcz7_2 : w6.cell? ⟨gb112, 2, none⟩ = some (.int .i64 a0_2) := (blk_cell BK112.out 2).trans rfl; have hcz7_3 : w6.cell? ⟨gb112, 3, none⟩ = some (.slice A0_3 l0_3.length c0_3) := (blk_cell BK112.out 3).trans rfl; have hfz7_0 := blk_frozen BK112.out 0; have hfz7_1 := blk_frozen BK112.out 1; have hfz7_2 := blk_frozen BK112.out 2; have hfz7_3 := blk_frozen BK112.out 3) | ((with_reducible refine gate_callee (f := 13) rfl ?_); refine goesL_ (some 14) rfl rfl Try.func13 (by kernel_rfl) rfl #[.agg #[.int .i64 a0_0, .int .i64 a0_1, .int .i64 a0_2, .slice A0_3 l0_3.length c0_3]] rfl (by (try simp only [List.map_toArray, List.map_cons, List.map_nil]); first | done | rfl | (simp only [List.length_drop, List.length_take]; rfl)) ?_; (with_reducible refine (qdigest_Check.calls k a0_0 a0_1 a0_2 _ _ l0_3 t113 _ ?side1 ?side2 A3.out).mono ?_); (case side1 => repeat (first | exact (Kd.C_below HR0_3.out HB.out) | (with_reducible refine Kd.C_alloc ?_ _) | (with_reducible refine Kd.C_drewN ?_ _) | (with_reducible refine Kd.C_drew ?_))); (case side2 => exact HC0_3.out); rintro e w8 ⟨rfl, hb⟩; refine ⟨_, rfl, ?_⟩; have n0_ := Aside0.mk (blk_below (g := gb112) (o := .cells #[.int .i64 a0_0, .int .i64 a0_1, .int .i64 a0_2, .slice A0_3 l0_3.length c0_3] 24 (0, 0)) (by (with_reducible repeat (first | refine blk_drewN ?_ _ | refine blk_drew ?_ | refine blk_alloc ?_ _)); exact BK112.out) hb); have n1_ := Aside0.mk (below_step (by repeat (first | (with_reducible first | exact HB.out | apply below_alloc | apply pw_below_drewN | apply below_drew1 | refine below_set ?_ GE112.out) | exact HB.out)) hb); clear BK112; clear HB; have BK112 := n0_; have HB := n1_; clear n0_ n1_; (try clear hb); (try clear hb2); (try clear hk); (try clear hi)))
  (try simp only [Act.put, List.setIfInBounds_toArray, List.set_cons_zero, List.set_cons_succ])
  go_cut [24] (fun v24 wc => ∃ (kq : Nat) (x24_4 : Bool), v24 = .bool x24_4 ∧ Aside0 (qdigest_Rank.j0 kq a1 x24_4 a0_0 a0_1 a0_2 l0_3 = some (r1, r2, r3)) ∧ Aside0 (kq ≤ k) ∧ Aside0 (wc.heap[gb112]? = some (.cells #[.int .i64 a0_0, .int .i64 a0_1, .int .i64 a0_2, (.slice A0_3 l0_3.length c0_3)] 24 (0, 0))) ∧ Aside0 (Below w.heap.size w wc))
  case first =>
   have H := HC5.out
   clear HC5
   by_cases c9 : a1 < 0
   ·rw [if_pos c9] at H
    have c9b0 : decide (a1 < 0) = true := decide_eq_true c9
    clear c9
    (first | rw [c9b0] | (simp only [i64_w, i32_w]; rw [c9b0]) | skip)
    have H' := Aside0.mk H
    clear H
    go_wp2
    go_meet
    case rel => exact ⟨_, (true), (by first | rfl | (simp; done) | (simp [*]; done)), H', ⟨by first | omega | exact Nat.le_refl _⟩, ⟨by (with_reducible repeat (first | refine blk_drewN ?_ _ | refine blk_drew ?_ | refine blk_alloc ?_ _)); exact BK112.out⟩, ⟨by repeat (first | (with_reducible first | exact HB.out | apply below_alloc | apply pw_below_drewN | apply below_drew1 | refine below_set ?_ GE112.out) | exact HB.out)⟩⟩
   ·rw [if_neg c9] at H
    have c9b0 : decide (a1 < 0) = false := decide_eq_false c9
    clear c9
    (first | rw [c9b0] | (simp only [i64_w, i32_w]; rw [c9b0]) | skip)
    by_cases c10 : 0 ≤ a0_0
    ·rw [if_pos c10] at H
     have c10b0 := eq_true c10
     have c10b1 : decide (0 ≤ a0_0) = true := decide_eq_true c10
     clear c10
     obtain ⟨ji11, hji11⟩ : ∃ j_ : Int, (shl .i64 1 a0_0) = j_ := ⟨_, rfl⟩
     replace H : (qdigest_Rank.j0 k a1 (decide (a1 ≥ (ji11))) a0_0 a0_1 a0_2 l0_3) = some (r1, r2, r3) := by first | (rw [hji11] at H; exact H) | (simp only [hji11] at H ⊢; exact H)
     have hji11_ : (IntKind.i64.wrap (1 * 2 ^ min a0_0.toNat 64)) = ji11 := hji11
     have hji11z : a0_0 ≤ 64 → (IntKind.i64.wrap (1 * 2 ^ a0_0.toNat)) = ji11 := shl_small hji11
     have hji11u : (IntKind.i64.wrap (2 ^ min a0_0.toNat 64)) = ji11 := by have h_ := hji11_; rw [Int.one_mul] at h_; exact h_
     have hji11v : a0_0 ≤ 64 → (IntKind.i64.wrap (2 ^ a0_0.toNat)) = ji11 := fun hle_ => by have h_ := hji11z hle_; rw [Int.one_mul] at h_; exact h_
     have hji11y : (wrap64 (1 * 2 ^ min a0_0.toNat 64)) = ji11 := (i64_w _).symm.trans hji11_
     have hji11x : a0_0 ≤ 64 → (wrap64 (1 * 2 ^ a0_0.toNat)) = ji11 := fun h_ => (i64_w _).symm.trans (hji11z h_)
     have H' := Aside0.mk H
     clear H
     have hcz12_0 : w8.cell? ⟨gb112, 0, none⟩ = some (.int .i64 a0_0) := (blk_cell BK112.out 0).trans rfl
     have hcz12_1 : w8.cell? ⟨gb112, 1, none⟩ = some (.int .i64 a0_1) := (blk_cell BK112.out 1).trans rfl
     have hcz12_2 : w8.cell? ⟨gb112, 2, none⟩ = some (.int .i64 a0_2) := (blk_cell BK112.out 2).trans rfl
     have hcz12_3 : w8.cell? ⟨gb112, 3, none⟩ = some (.slice A0_3 l0_3.length c0_3) := (blk_cell BK112.out 3).trans rfl
     have hfz12_0 := blk_frozen BK112.out 0
     have hfz12_1 := blk_frozen BK112.out 1
     have hfz12_2 := blk_frozen BK112.out 2
     have hfz12_3 := blk_frozen BK112.out 3
     go_wp2
     go_meet
     case rel => exact ⟨_, (decide (a1 ≥ (ji11))), (by first | rfl | (simp; done) | (simp only [← hji11] <;> (first | rfl | simp)) | (simp [*]; done)), H', ⟨by first | omega | exact Nat.le_refl _⟩, ⟨by (with_reducible repeat (first | refine blk_drewN ?_ _ | refine blk_drew ?_ | refine blk_alloc ?_ _)); exact BK112.out⟩, ⟨by repeat (first | (with_reducible first | exact HB.out | apply below_alloc | apply pw_below_drewN | apply below_drew1 | refine below_set ?_ GE112.out) | exact HB.out)⟩⟩
    ·rw [if_neg c10] at H
     exact absurd H (by simp)
  case rest =>
   clear HC5
   try clear c1
   try clear p2
   try clear c4
   try clear c4b0
   try clear c4b1
   try clear p6
   try clear c9
   try clear c9b0
   try clear c10
   try clear c10b0
   try clear c10b1
   try clear c12
   try clear hcz12_0
   try clear hcz12_1
   try clear hcz12_2
   try clear hcz12_3
   try clear hcz7_0
   try clear hcz7_1
   try clear hcz7_2
   try clear hcz7_3
   try clear hfz12_0
   try clear hfz12_1
   try clear hfz12_2
   try clear hfz12_3
   try clear hfz7_0
   try clear hfz7_1
   try clear hfz7_2
   try clear hfz7_3
   obtain ⟨kq, x24_4, rfl, HA, HJ4, BK112, HB⟩ := hcut
   cases kq with
   | zero => exact absurd HA.out (by simp [qdigest_Rank.j0])
   | succ kj4 =>
    have H := HA.out
    clear HA
    simp only [qdigest_Rank.j0] at H
    by_cases c13 : x24_4 = true
    ·subst c13
     have H1 : (some (0, 0, 2)) = some (r1, r2, r3) := by rw [if_pos rfl] at H; exact H
     clear H
     have H := H1
     clear H1
     simp only [Option.some.injEq, Prod.mk.injEq] at H
     obtain ⟨rfl, rfl, rfl⟩ := H
     go_wp2
     go_ret3
     exact ⟨by first | rfl | (simp [errW_none, errW_some] <;> rfl) | (simp [*, errW_none, errW_some] <;> rfl), by repeat (first | (with_reducible first | exact HB.out | apply below_alloc | apply pw_below_drewN | apply below_drew1 | refine below_set ?_ GE112.out) | exact HB.out)⟩
    ·replace c13 := Bool.eq_false_iff.mpr c13
     subst c13
     have H1 : (qdigest_Rank.l0 kj4 a1 0 0 l0_3 (l0_3.length : Int) 0 a0_0 a0_1 a0_2 l0_3) = some (r1, r2, r3) := by rw [if_neg (show ¬ (false = true) by decide)] at H; exact H
     clear H
     have H := H1
     clear H1
     have H' := Aside0.mk H
     clear H
     have hcz14_0 : wc.cell? ⟨gb112, 0, none⟩ = some (.int .i64 a0_0) := (blk_cell BK112.out 0).trans rfl
     have hcz14_1 : wc.cell? ⟨gb112, 1, none⟩ = some (.int .i64 a0_1) := (blk_cell BK112.out 1).trans rfl
     have hcz14_2 : wc.cell? ⟨gb112, 2, none⟩ = some (.int .i64 a0_2) := (blk_cell BK112.out 2).trans rfl
     have hcz14_3 : wc.cell? ⟨gb112, 3, none⟩ = some (.slice A0_3 l0_3.length c0_3) := (blk_cell BK112.out 3).trans rfl
     have hfz14_0 := blk_frozen BK112.out 0
     have hfz14_1 := blk_frozen BK112.out 1
     have hfz14_2 := blk_frozen BK112.out 2
     have hfz14_3 := blk_frozen BK112.out 3
     go_wp2
     go_loopg [7, 8, 28] kj4 (fun kq v7 v8 v28 w' => ∃ (x7_2 : Int) (x8_2 : Int) (x28_2 : Int), v7 = .int .i64 x7_2 ∧ v8 = .int .i64 x8_2 ∧ v28 = .int .i64 x28_2 ∧ Aside0 (qdigest_Rank.l0 kq a1 x7_2 x8_2 l0_3 (l0_3.length : Int) x28_2 a0_0 a0_1 a0_2 l0_3 = some (r1, r2, r3)) ∧ Aside0 (kq ≤ kj4) ∧ Aside0 (w'.heap[gb112]? = some (.cells #[.int .i64 a0_0, .int .i64 a0_1, .int .i64 a0_2, (.slice A0_3 l0_3.length c0_3)] 24 (0, 0))) ∧ Aside0 (Below w.heap.size w w'))
     case atStart => exact ⟨(0), (0), (0), (by first | rfl | (simp; done) | (simp [*]; done)), (by first | rfl | (simp; done) | (simp [*]; done)), (by first | rfl | (simp; done) | (simp [*]; done)), H', ⟨Nat.le_refl _⟩, ⟨by (with_reducible repeat (first | refine blk_drewN ?_ _ | refine blk_drew ?_ | refine blk_alloc ?_ _)); exact BK112.out⟩, ⟨by repeat (first | (with_reducible first | exact HB.out | apply below_alloc | apply pw_below_drewN | apply below_drew1 | refine below_set ?_ GE112.out) | exact HB.out)⟩⟩
     case round =>
      clear H'
      try clear c1
      try clear p2
      try clear c4
      try clear c4b0
      try clear c4b1
      try clear p6
      try clear c9
      try clear c9b0
      try clear c10
      try clear c10b0
      try clear c10b1
      try clear c12
      try clear c13
      try clear hcz12_0
      try clear hcz12_1
      try clear hcz12_2
      try clear hcz12_3
      try clear hcz14_0
      try clear hcz14_1
      try clear hcz14_2
      try clear hcz14_3
      try clear hcz7_0
      try clear hcz7_1
      try clear hcz7_2
      try clear hcz7_3
      try clear hfz12_0
      try clear hfz12_1
      try clear hfz12_2
      try clear hfz12_3
      try clear hfz14_0
      try clear hfz14_1
      try clear hfz14_2
      try clear hfz14_3
      try clear hfz7_0
      try clear hfz7_1
      try clear hfz7_2
      try clear hfz7_3
      try clear p2
      try clear p6
      obtain ⟨x7_2, x8_2, x28_2, rfl, rfl, rfl, HA, HK2, BK112, HB⟩ := hrel
      cases gk with
      | zero => exact absurd HA.out (by simp [qdigest_Rank.l0])
      | succ k2 =>
       have H := HA.out
       clear HA
       simp only [qdigest_Rank.l0] at H
       by_cases c15 : x28_2 < (l0_3.length : Int)
       ·rw [if_pos c15] at H
        have c15b0 : decide (x28_2 < (l0_3.length : Int)) = true := decide_eq_true c15
        clear c15
        by_cases c16 : 0 ≤ x28_2
        ·rw [if_pos c16] at H
         have c16b0 : decide (0 ≤ x28_2) = true := decide_eq_true c16
         clear c16
         by_cases c17 : x28_2 < (l0_3.length : Int)
         ·rw [if_pos c17] at H
          have c17b0 : decide (x28_2 < (l0_3.length : Int)) = true := decide_eq_true c17
          clear c17
          replace H := Option.bind_eq_some_iff.mp H
          obtain ⟨⟨t116, t117⟩, A180, H⟩ := H
          replace H : (if t117 ≤ a1 then (qdigest_Rank.j2 k2 a1 (wrap64 (x7_2 + ((rd_T63 l0_3 x28_2).f1))) x8_2 t116 l0_3 (l0_3.length : Int) x28_2 a0_0 a0_1 a0_2 l0_3 ((rd_T63 l0_3 x28_2).f0) ((rd_T63 l0_3 x28_2).f1)) else (qdigest_Rank.j2 k2 a1 x7_2 x8_2 t116 l0_3 (l0_3.length : Int) x28_2 a0_0 a0_1 a0_2 l0_3 ((rd_T63 l0_3 x28_2).f0) ((rd_T63 l0_3 x28_2).f1))) = some (r1, r2, r3) := H
          have A18 := Aside0.mk A180
          clear A180
          have HC19 := Aside0.mk H
          clear H
          have p114 : 0 ≤ (x28_2 : Int) := of_decide_eq_true (by first | (with_reducible assumption) | assumption)
          have q114 : x28_2 < (l0_3.length : Int) := of_decide_eq_true (by first | (with_reducible assumption) | assumption)
          obtain ⟨ad114, e114, hx114_0, hx114_1⟩ := at_T63 HR0_3.out x28_2 p114 q114
          cases e114
          replace hx114_0 := (HB.out.cell (World.block_lt_of_cell? w _ hx114_0)).trans hx114_0
          replace hx114_1 := (HB.out.cell (World.block_lt_of_cell? w _ hx114_1)).trans hx114_1
          replace p114 := eq_true p114
          replace q114 := eq_true q114
          go_upto_if 42 with (first | ((with_reducible refine gate_dst (N := 10) rfl ?_); refine box_event ?hg (N := 10) ?hd (cs := #[.int .i64 0, .int .i64 0]) (t := 63) ?hr ?_; (case hd => rfl); (case hg => rfl); (case hr => first | (go_simp; done) | (go_simp; rfl)); intro gb115 hg w20 hbox hb; have n0_ := Aside0.mk (blk_below (g := gb112) (o := .cells #[.int .i64 a0_0, .int .i64 a0_1, .int .i64 a0_2, .slice (some ad114) l0_3.length c0_3] 24 (0, 0)) (by (with_reducible repeat (first | refine blk_drewN ?_ _ | refine blk_drew ?_ | refine blk_alloc ?_ _)); exact BK112.out) hb); have n1_ := Aside0.mk (below_step (by repeat (first | (with_reducible first | exact HB.out | apply below_alloc | apply pw_below_drewN | apply below_drew1 | refine below_set ?_ GE112.out) | exact HB.out)) hb); have n2_ := Aside0.mk (hbox); have n3_ := Aside0.mk ((by rw [hg]; exact (below_size (by repeat (first | (with_reducible first | exact HB.out | apply below_alloc | apply pw_below_drewN | apply below_drew1 | refine below_set ?_ GE112.out) | exact HB.out))) : w.heap.size ≤ gb115)); have n4_ := Aside0.mk ((by rw [hg]; exact (below_size (by repeat (first | (with_reducible first | exact HB.out | apply below_alloc | apply pw_below_drewN | apply below_drew1 | refine below_set ?_ GE112.out) | exact HB.out))) : w.heap.size ≤ gb115)); have n5_ := Aside0.mk ((by rw [hg]; exact Nat.ne_of_lt (blk_lt (g := gb112) (o := .cells #[.int .i64 a0_0, .int .i64 a0_1, .int .i64 a0_2, .slice (some ad114) l0_3.length c0_3] 24 (0, 0)) (by (with_reducible repeat (first | refine blk_drewN ?_ _ | refine blk_drew ?_ | refine blk_alloc ?_ _)); exact BK112.out)) : gb112 ≠ gb115)); have n6_ := Aside0.mk ((by rw [hg]; exact Nat.ne_of_gt (blk_lt (g := gb112) (o := .cells #[.int .i64 a0_0, .int .i64 a0_1, .int .i64 a0_2, .slice (some ad114) l0_3.length c0_3] 24 (0, 0)) (by (with_reducible repeat (first | refine blk_drewN ?_ _ | refine blk_drew ?_ | refine blk_alloc ?_ _)); exact BK112.out)) : gb115 ≠ gb112)); clear BK112; clear HB; have BK112 := n0_; have HB := n1_; have BK115 := n2_; have GW115 := n3_; have GE115 := n4_; have NB112_115 := n5_; have NB115_112 := n6_; clear n0_ n1_ n2_ n3_ n4_ n5_ n6_; clear hb hbox hg; have hnb21 := NB115_112.out; have hnc21 := NB112_115.out; have hcz22_0 : w20.cell? ⟨gb115, 0, none⟩ = some (.int .i64 0) := (blk_cell BK115.out 0).trans rfl; have hcz22_1 : w20.cell? ⟨gb115, 1, none⟩ = some (.int .i64 0) := (blk_cell BK115.out 1).trans rfl; have hfz22_0 := blk_frozen BK115.out 0; have hfz22_1 := blk_frozen BK115.out 1; have hcz23_0 : w20.cell? ⟨gb112, 0, none⟩ = some (.int .i64 a0_0) := (blk_cell BK112.out 0).trans rfl; have hcz23_1 : w20.cell? ⟨gb112, 1, none⟩ = some (.int .i64 a0_1) := (blk_cell BK112.out 1).trans rfl; have hcz23_2 : w20.cell? ⟨gb112, 2, none⟩ = some (.int .i64 a0_2) := (blk_cell BK112.out 2).trans rfl; have hcz23_3 : w20.cell? ⟨gb112, 3, none⟩ = some (.slice (some ad114) l0_3.length c0_3) := (blk_cell BK112.out 3).trans rfl; have hfz23_0 := blk_frozen BK112.out 0; have hfz23_1 := blk_frozen BK112.out 1; have hfz23_2 := blk_frozen BK112.out 2; have hfz23_3 := blk_frozen BK112.out 3) | ((with_reducible refine gate_callee (f := 38) rfl ?_); refine goesL_ (some 37) rfl rfl Try.func38 (by kernel_rfl) rfl #[.int .i64 a0_0, .int .i64 ((rd_T63 l0_3 x28_2).f0)] rfl (by (try simp only [List.map_toArray, List.map_cons, List.map_nil]); first | done | rfl | (simp only [List.length_drop, List.length_take]; rfl)) ?_; (with_reducible refine (qdigest_span.calls a0_0 ((rd_T63 l0_3 x28_2).f0) t116 t117 _ A18.out).mono ?_); rintro e w' ⟨rfl, ⟨nd, rfl⟩⟩; refine ⟨_, rfl, ?_⟩))
          (try simp only [Act.put, List.setIfInBounds_toArray, List.set_cons_zero, List.set_cons_succ])
          go_cut [7] (fun v7 wc => ∃ (kq : Nat) (x7_18 : Int), v7 = .int .i64 x7_18 ∧ Aside0 (qdigest_Rank.j2 kq a1 x7_18 x8_2 t116 l0_3 (l0_3.length : Int) x28_2 a0_0 a0_1 a0_2 l0_3 ((rd_T63 l0_3 x28_2).f0) ((rd_T63 l0_3 x28_2).f1) = some (r1, r2, r3)) ∧ Aside0 (kq ≤ k2) ∧ Aside0 (wc.heap[gb112]? = some (.cells #[.int .i64 a0_0, .int .i64 a0_1, .int .i64 a0_2, (.slice (some ad114) l0_3.length c0_3)] 24 (0, 0))) ∧ Aside0 (wc.heap[gb115]? = some (.cells #[.int .i64 ((rd_T63 l0_3 x28_2).f0), .int .i64 ((rd_T63 l0_3 x28_2).f1)] 63 (0, 0))) ∧ Aside0 (Below w.heap.size w wc))
          case first =>
           have H := HC19.out
           clear HC19
           by_cases c24 : t117 ≤ a1
           ·rw [if_pos c24] at H
            have c24b0 : decide (t117 ≤ a1) = true := decide_eq_true c24
            clear c24
            (first | rw [c24b0] | (simp only [i64_w, i32_w]; rw [c24b0]) | skip)
            have H' := Aside0.mk H
            clear H
            have hnb25 := NB115_112.out
            have hnc25 := NB112_115.out
            have hcz26_0 : w20.cell? ⟨gb115, 0, none⟩ = some (.int .i64 0) := (blk_cell BK115.out 0).trans rfl
            have hcz26_1 : w20.cell? ⟨gb115, 1, none⟩ = some (.int .i64 0) := (blk_cell BK115.out 1).trans rfl
            have hfz26_0 := blk_frozen BK115.out 0
            have hfz26_1 := blk_frozen BK115.out 1
            go_wp2
            go_meet
            case rel => exact ⟨_, (wrap64 (x7_2 + ((rd_T63 l0_3 x28_2).f1))), (by first | rfl | (simp; done) | (simp [*]; done)), H', ⟨by have := HJ4.out; have := HK2.out; first | omega | exact Nat.le_refl _⟩, ⟨by (with_reducible repeat (first | refine blk_drewN ?_ _ | refine blk_drew ?_ | refine blk_alloc ?_ _)); refine blk_far ?_ NB112_115.out _; (with_reducible repeat (first | refine blk_drewN ?_ _ | refine blk_drew ?_ | refine blk_alloc ?_ _)); refine blk_far ?_ NB112_115.out _; (with_reducible repeat (first | refine blk_drewN ?_ _ | refine blk_drew ?_ | refine blk_alloc ?_ _)); exact BK112.out⟩, ⟨by (with_reducible repeat (first | refine blk_drewN ?_ _ | refine blk_drew ?_ | refine blk_alloc ?_ _)); refine blk_put (cs := #[.int .i64 ((rd_T63 l0_3 x28_2).f0), .int .i64 0]) ?_ 1 _ rfl; (with_reducible repeat (first | refine blk_drewN ?_ _ | refine blk_drew ?_ | refine blk_alloc ?_ _)); refine blk_put (cs := #[.int .i64 0, .int .i64 0]) ?_ 0 _ rfl; (with_reducible repeat (first | refine blk_drewN ?_ _ | refine blk_drew ?_ | refine blk_alloc ?_ _)); exact BK115.out⟩, ⟨by repeat (first | (with_reducible first | exact HB.out | apply below_alloc | apply pw_below_drewN | apply below_drew1 | refine below_set ?_ GE112.out | refine below_set ?_ GE115.out) | exact HB.out)⟩⟩
           ·rw [if_neg c24] at H
            have c24b0 : decide (t117 ≤ a1) = false := decide_eq_false c24
            clear c24
            (first | rw [c24b0] | (simp only [i64_w, i32_w]; rw [c24b0]) | skip)
            have H' := Aside0.mk H
            clear H
            go_wp2
            go_meet
            case rel => exact ⟨_, (x7_2), (by first | rfl | (simp; done) | (simp [*]; done)), H', ⟨by have := HJ4.out; have := HK2.out; first | omega | exact Nat.le_refl _⟩, ⟨by (with_reducible repeat (first | refine blk_drewN ?_ _ | refine blk_drew ?_ | refine blk_alloc ?_ _)); refine blk_far ?_ NB112_115.out _; (with_reducible repeat (first | refine blk_drewN ?_ _ | refine blk_drew ?_ | refine blk_alloc ?_ _)); refine blk_far ?_ NB112_115.out _; (with_reducible repeat (first | refine blk_drewN ?_ _ | refine blk_drew ?_ | refine blk_alloc ?_ _)); exact BK112.out⟩, ⟨by (with_reducible repeat (first | refine blk_drewN ?_ _ | refine blk_drew ?_ | refine blk_alloc ?_ _)); refine blk_put (cs := #[.int .i64 ((rd_T63 l0_3 x28_2).f0), .int .i64 0]) ?_ 1 _ rfl; (with_reducible repeat (first | refine blk_drewN ?_ _ | refine blk_drew ?_ | refine blk_alloc ?_ _)); refine blk_put (cs := #[.int .i64 0, .int .i64 0]) ?_ 0 _ rfl; (with_reducible repeat (first | refine blk_drewN ?_ _ | refine blk_drew ?_ | refine blk_alloc ?_ _)); exact BK115.out⟩, ⟨by repeat (first | (with_reducible first | exact HB.out | apply below_alloc | apply pw_below_drewN | apply below_drew1 | refine below_set ?_ GE112.out | refine below_set ?_ GE115.out) | exact HB.out)⟩⟩
          case rest =>
           clear HC19
           try clear c1
           try clear p1
           try clear q1
           try clear hx1
           try clear c2
           try clear p2
           try clear c3
           try clear c4
           try clear c4b0
           try clear c4b1
           try clear p6
           try clear c9
           try clear c9b0
           try clear c10
           try clear c10b0
           try clear c10b1
           try clear p11
           try clear q11
           try clear hx11
           try clear c12
           try clear c13
           try clear c15
           try clear c15b0
           try clear c16
           try clear c16b0
           try clear c17
           try clear c17b0
           try clear c21
           try clear c24
           try clear c24b0
           try clear c25
           try clear hcz12_0
           try clear hcz12_1
           try clear hcz12_2
           try clear hcz12_3
           try clear hcz14_0
           try clear hcz14_1
           try clear hcz14_2
           try clear hcz14_3
           try clear hcz22_0
           try clear hcz22_1
           try clear hcz23_0
           try clear hcz23_1
           try clear hcz23_2
           try clear hcz23_3
           try clear hcz26_0
           try clear hcz26_1
           try clear hcz7_0
           try clear hcz7_1
           try clear hcz7_2
           try clear hcz7_3
           try clear hfz12_0
           try clear hfz12_1
           try clear hfz12_2
           try clear hfz12_3
           try clear hfz14_0
           try clear hfz14_1
           try clear hfz14_2
           try clear hfz14_3
           try clear hfz22_0
           try clear hfz22_1
           try clear hfz23_0
           try clear hfz23_1
           try clear hfz23_2
           try clear hfz23_3
           try clear hfz26_0
           try clear hfz26_1
           try clear hfz7_0
           try clear hfz7_1
           try clear hfz7_2
           try clear hfz7_3
           try clear hx114_0
           try clear hx114_1
           try clear p114
           try clear p2
           try clear p6
           try clear q114
           obtain ⟨kq, x7_18, rfl, HA, HJ18, BK112, BK115, HB⟩ := hcut
           cases kq with
           | zero => exact absurd HA.out (by simp [qdigest_Rank.j2])
           | succ kj18 =>
            have H := HA.out
            clear HA
            simp only [qdigest_Rank.j2] at H
            by_cases c27 : t116 ≤ a1
            ·rw [if_pos c27] at H
             have c27b0 : decide (t116 ≤ a1) = true := decide_eq_true c27
             clear c27
             have H' := Aside0.mk H
             clear H
             have hnb28 := NB115_112.out
             have hnc28 := NB112_115.out
             have hcz29_0 : wc.cell? ⟨gb115, 0, none⟩ = some (.int .i64 ((rd_T63 l0_3 x28_2).f0)) := (blk_cell BK115.out 0).trans rfl
             have hcz29_1 : wc.cell? ⟨gb115, 1, none⟩ = some (.int .i64 ((rd_T63 l0_3 x28_2).f1)) := (blk_cell BK115.out 1).trans rfl
             have hfz29_0 := blk_frozen BK115.out 0
             have hfz29_1 := blk_frozen BK115.out 1
             go_wp2
             go_roundg kj18
             case measure => have := HJ4.out; have := HK2.out; have := HJ18.out; omega
             case rel => exact ⟨(x7_18), (wrap64 (x8_2 + ((rd_T63 l0_3 x28_2).f1))), (wrap64 (x28_2 + 1)), (by first | rfl | (simp; done) | (simp [*]; done)), (by first | rfl | (simp; done) | (simp [*]; done)), (by first | rfl | (simp; done) | (simp [*]; done)), H', ⟨by have := HJ4.out; have := HK2.out; have := HJ18.out; omega⟩, ⟨by (with_reducible repeat (first | refine blk_drewN ?_ _ | refine blk_drew ?_ | refine blk_alloc ?_ _)); exact BK112.out⟩, ⟨by repeat (first | (with_reducible first | exact HB.out | apply below_alloc | apply pw_below_drewN | apply below_drew1 | refine below_set ?_ GE112.out | refine below_set ?_ GE115.out) | exact HB.out)⟩⟩
            ·rw [if_neg c27] at H
             have c27b0 : decide (t116 ≤ a1) = false := decide_eq_false c27
             clear c27
             have H' := Aside0.mk H
             clear H
             go_wp2
             go_roundg kj18
             case measure => have := HJ4.out; have := HK2.out; have := HJ18.out; omega
             case rel => exact ⟨(x7_18), (x8_2), (wrap64 (x28_2 + 1)), (by first | rfl | (simp; done) | (simp [*]; done)), (by first | rfl | (simp; done) | (simp [*]; done)), (by first | rfl | (simp; done) | (simp [*]; done)), H', ⟨by have := HJ4.out; have := HK2.out; have := HJ18.out; omega⟩, ⟨by (with_reducible repeat (first | refine blk_drewN ?_ _ | refine blk_drew ?_ | refine blk_alloc ?_ _)); exact BK112.out⟩, ⟨by repeat (first | (with_reducible first | exact HB.out | apply below_alloc | apply pw_below_drewN | apply below_drew1 | refine below_set ?_ GE112.out | refine below_set ?_ GE115.out) | exact HB.out)⟩⟩
         ·rw [if_neg c17] at H
          exact absurd H (by simp)
        ·rw [if_neg c16] at H
         exact absurd H (by simp)
       ·rw [if_neg c15] at H
        have c15b0 : decide (x28_2 < (l0_3.length : Int)) = false := decide_eq_false c15
        clear c15
        simp only [Option.some.injEq, Prod.mk.injEq] at H
        obtain ⟨rfl, rfl, rfl⟩ := H
        go_wp2
        go_ret3
        exact ⟨by first | rfl | (simp [errW_none, errW_some] <;> rfl) | (simp [*, errW_none, errW_some] <;> rfl), by repeat (first | (with_reducible first | exact HB.out | apply below_alloc | apply pw_below_drewN | apply below_drew1 | refine below_set ?_ GE112.out) | exact HB.out)⟩
 ·rw [if_neg c4] at H
  have c4b0 : (t113 == 0) = false := beq_eq_false_iff_ne.mpr c4
  have c4b1 : (t113 != 0) = true := bne_iff_ne.mpr c4
  simp only [Option.some.injEq, Prod.mk.injEq] at H
  obtain ⟨rfl, rfl, rfl⟩ := H
  go_enter Try.func12, Try.ntmps12
  go_wp2_with (first | ((with_reducible refine gate_dst (N := 2) rfl ?_); refine box_event ?hg (N := 2) ?hd (cs := #[.int .i64 a0_0, .int .i64 a0_1, .int .i64 a0_2, .slice A0_3 l0_3.length c0_3]) (t := 24) ?hr ?_; (case hd => rfl); (case hg => rfl); (case hr => first | (go_simp; done) | (go_simp; rfl)); intro gb112 hg w30 hbox hb; have n0_ := Aside0.mk (below_step (by repeat (first | (with_reducible first | exact HB.out | apply below_alloc | apply pw_below_drewN | apply below_drew1) | exact HB.out)) hb); have n1_ := Aside0.mk (hbox); have n2_ := Aside0.mk ((by rw [hg]; exact (below_size (by repeat (first | (with_reducible first | exact HB.out | apply below_alloc | apply pw_below_drewN | apply below_drew1) | exact HB.out))) : w.heap.size ≤ gb112)); have n3_ := Aside0.mk ((by rw [hg]; exact (below_size (by repeat (first | (with_reducible first | exact HB.out | apply below_alloc | apply pw_below_drewN | apply below_drew1) | exact HB.out))) : w.heap.size ≤ gb112)); clear HB; have HB := n0_; have BK112 := n1_; have GW112 := n2_; have GE112 := n3_; clear n0_ n1_ n2_ n3_; clear hb hbox hg; have hcz31_0 : w30.cell? ⟨gb112, 0, none⟩ = some (.int .i64 a0_0) := (blk_cell BK112.out 0).trans rfl; have hcz31_1 : w30.cell? ⟨gb112, 1, none⟩ = some (.int .i64 a0_1) := (blk_cell BK112.out 1).trans rfl; have hcz31_2 : w30.cell? ⟨gb112, 2, none⟩ = some (.int .i64 a0_2) := (blk_cell BK112.out 2).trans rfl; have hcz31_3 : w30.cell? ⟨gb112, 3, none⟩ = some (.slice A0_3 l0_3.length c0_3) := (blk_cell BK112.out 3).trans rfl; have hfz31_0 := blk_frozen BK112.out 0; have hfz31_1 := blk_frozen BK112.out 1; have hfz31_2 := blk_frozen BK112.out 2; have hfz31_3 := blk_frozen BK112.out 3) | ((with_reducible refine gate_callee (f := 13) rfl ?_); refine goesL_ (some 14) rfl rfl Try.func13 (by kernel_rfl) rfl #[.agg #[.int .i64 a0_0, .int .i64 a0_1, .int .i64 a0_2, .slice A0_3 l0_3.length c0_3]] rfl (by (try simp only [List.map_toArray, List.map_cons, List.map_nil]); first | done | rfl | (simp only [List.length_drop, List.length_take]; rfl)) ?_; (with_reducible refine (qdigest_Check.calls k a0_0 a0_1 a0_2 _ _ l0_3 t113 _ ?side1 ?side2 A3.out).mono ?_); (case side1 => repeat (first | exact (Kd.C_below HR0_3.out HB.out) | (with_reducible refine Kd.C_alloc ?_ _) | (with_reducible refine Kd.C_drewN ?_ _) | (with_reducible refine Kd.C_drew ?_))); (case side2 => exact HC0_3.out); rintro e w32 ⟨rfl, hb⟩; refine ⟨_, rfl, ?_⟩; have n0_ := Aside0.mk (blk_below (g := gb112) (o := .cells #[.int .i64 a0_0, .int .i64 a0_1, .int .i64 a0_2, .slice A0_3 l0_3.length c0_3] 24 (0, 0)) (by (with_reducible repeat (first | refine blk_drewN ?_ _ | refine blk_drew ?_ | refine blk_alloc ?_ _)); exact BK112.out) hb); have n1_ := Aside0.mk (below_step (by repeat (first | (with_reducible first | exact HB.out | apply below_alloc | apply pw_below_drewN | apply below_drew1 | refine below_set ?_ GE112.out) | exact HB.out)) hb); clear BK112; clear HB; have BK112 := n0_; have HB := n1_; clear n0_ n1_; (try clear hb); (try clear hb2); (try clear hk); (try clear hi)))
  go_ret3
  exact ⟨by first | rfl | (simp [errW_none, errW_some] <;> rfl) | (simp [*, errW_none, errW_some] <;> rfl), by repeat (first | (with_reducible first | exact HB.out | apply below_alloc | apply pw_below_drewN | apply below_drew1 | refine below_set ?_ GE112.out) | exact HB.out)⟩

end Go.Proofs.Ytcgimjoebkeifaa.PQ

/- Written by a program of this session (wip/patch_print.py): Go functions as Lean functions, each with a proof that the call does what its function says. No conditions beyond each theorem's own. -/
namespace Go.Proofs.Ytcgimjoebkeifaa.PQ
open Go.RowKit Go.Proofs.YtcgimjoebkeifaaW.PrintWords Go.Proofs.YtcgimjoebkeifaaW.PrintLast Go.Proofs.YtcgimjoebkeifaaW.PrintMore
attribute [local go_sem] max2_int min2_int max_two min_two max_three min_three max_four min_four   -- for this text's walks alone
set_option linter.unusedVariables false
set_option linter.unusedSimpArgs false

attribute [local go_sem high] eqA63
/-! ### api_DigestNode_31: function 31 -/
def api_DigestNode_31.l0 : Nat → List (S63) → List (S63) → Int → Int → Option (Bool)
 | 0, _, _, _, _ => none
 | k + 1, x0, x1, x12, x13 => if x13 < x12 then (if 0 ≤ x13 then (if x13 < (x0.length : Int) then (if x13 < (x1.length : Int) then (if (!(((rd_T63 x0 x13).f0) == ((rd_T63 x1 x13).f0)) || (!(((rd_T63 x0 x13).f1) == ((rd_T63 x1 x13).f1)))) = true then (some false) else (api_DigestNode_31.l0 k x0 x1 x12 (wrap64 (x13 + 1)))) else (none)) else (none)) else (none)) else (some true)
def api_DigestNode_31.f (k : Nat) (l0 : List (S63)) (l1 : List (S63)) : Option (Bool) := if (l0.length : Int) = (l1.length : Int) then (api_DigestNode_31.l0 k l0 l1 (l0.length : Int) 0) else (some false)
theorem api_DigestNode_31.mono_l : ∀ k, (∀ y0 y1 y2 y3, LeO (api_DigestNode_31.l0 k y0 y1 y2 y3) (api_DigestNode_31.l0 (k + 1) y0 y1 y2 y3))
 | 0 => fun _ _ _ _ r h => by simp [api_DigestNode_31.l0] at h
 | k + 1 => by
  have ih0 := api_DigestNode_31.mono_l k
  ·intro y0 y1 y2 y3
   unfold api_DigestNode_31.l0
   repeat' first
   | (with_reducible exact ih0 _ _ _ _)
   | (with_reducible exact LeO.refl _)
   | (with_reducible exact LeO.none _)
   | (with_reducible refine LeO.ite ?_ ?_)
   | (with_reducible refine LeO.bind ?_ (fun _ => ?_))
   | exact ih0 _ _ _ _
   | exact LeO.none _
   | refine LeO.ite ?_ ?_
   | refine LeO.bind ?_ (fun _ => ?_)
theorem api_DigestNode_31.mono : ∀ a0 a1 k, LeO (api_DigestNode_31.f k a0 a1) (api_DigestNode_31.f (k + 1) a0 a1) := by
 intro a0 a1 k
 have ih0 := api_DigestNode_31.mono_l k
 unfold api_DigestNode_31.f
 repeat' first
   | (with_reducible exact ih0 _ _ _ _)
   | (with_reducible exact LeO.refl _)
   | (with_reducible exact LeO.none _)
   | (with_reducible refine LeO.ite ?_ ?_)
   | (with_reducible refine LeO.bind ?_ (fun _ => ?_))
   | exact ih0 _ _ _ _
   | exact LeO.none _
   | refine LeO.ite ?_ ?_
   | refine LeO.bind ?_ (fun _ => ?_)
set_option maxHeartbeats 8000000 in
set_option maxRecDepth 100000 in
theorem api_DigestNode_31.calls (k : Nat) (A0 : Option Addr) (c0 : Nat) (l0 : List (S63)) (A1 : Option Addr) (c1 : Nat) (l1 : List (S63)) (r : Bool) (w : World) (hr0 : Kd.C k63 w A0 l0.length l0) (hc0 : l0.length ≤ c0) (hr1 : Kd.C k63 w A1 l1.length l1) (hc1 : l1.length ≤ c1) (h : api_DigestNode_31.f k l0 l1 = some r) :
  Calls Try.prog 31 #[.slice A0 l0.length c0, .slice A1 l1.length c1] w fun e w' => e = .returned (.bool r) ∧ Drawn0 w w' := by
 have hu63 := Try.underlying63
 have HR0 := Aside0.mk hr0
 have HC0 := Aside0.mk hc0
 clear hr0 hc0
 have HR1 := Aside0.mk hr1
 have HC1 := Aside0.mk hc1
 clear hr1 hc1
 have H : (if (l0.length : Int) = (l1.length : Int) then (api_DigestNode_31.l0 k l0 l1 (l0.length : Int) 0) else (some false)) = some r := h
 clear h
 by_cases c3 : (l0.length : Int) = (l1.length : Int)
 ·rw [if_pos c3] at H
  have c3b0 : ((l0.length : Int) == (l1.length : Int)) = true := beq_iff_eq.mpr c3
  have c3b1 : ((l0.length : Int) != (l1.length : Int)) = false := bne_eq_false_iff_eq.mpr c3
  have c3b2 : (l0.length == l1.length) = true := by first | simpa using c3 | (simp at c3 ⊢; omega)
  clear c3
  have H' := Aside0.mk H
  clear H
  go_enter Try.func31, Try.ntmps31
  go_wp2
  repeat (go_quiet (fail); try go_wp2)
  go_loopg [13] k (fun kq v13 w' => ∃ (x13_1 : Int), v13 = .int .i64 x13_1 ∧ Aside0 (api_DigestNode_31.l0 kq l0 l1 (l0.length : Int) x13_1 = some r) ∧ Aside0 (kq ≤ k) ∧ Drawn0 w w')
  case atStart => exact ⟨(0), (by first | rfl | (simp; done) | (simp [*]; done)), H', ⟨Nat.le_refl _⟩, by repeat (first | exact Drawn0.refl _ | apply Drawn0.step)⟩
  case round =>
   clear H'
   try clear c1
   try clear p2
   try clear c3
   try clear c3b0
   try clear c3b1
   try clear c3b2
   obtain ⟨x13_1, rfl, HA, HK1, ⟨m1, rfl⟩⟩ := hrel
   cases gk with
   | zero => exact absurd HA.out (by simp [api_DigestNode_31.l0])
   | succ k1 =>
    have H := HA.out
    clear HA
    simp only [api_DigestNode_31.l0] at H
    by_cases c4 : x13_1 < (l0.length : Int)
    ·rw [if_pos c4] at H
     have c4b0 : decide (x13_1 < (l0.length : Int)) = true := decide_eq_true c4
     clear c4
     by_cases c5 : 0 ≤ x13_1
     ·rw [if_pos c5] at H
      have c5b0 : decide (0 ≤ x13_1) = true := decide_eq_true c5
      clear c5
      by_cases c6 : x13_1 < (l0.length : Int)
      ·rw [if_pos c6] at H
       have c6b0 : decide (x13_1 < (l0.length : Int)) = true := decide_eq_true c6
       clear c6
       by_cases c7 : x13_1 < (l1.length : Int)
       ·rw [if_pos c7] at H
        have c7b0 : decide (x13_1 < (l1.length : Int)) = true := decide_eq_true c7
        clear c7
        by_cases c8 : (!(((rd_T63 l0 x13_1).f0) == ((rd_T63 l1 x13_1).f0)) || (!(((rd_T63 l0 x13_1).f1) == ((rd_T63 l1 x13_1).f1)))) = true
        ·rw [if_pos c8] at H
         have c8b0 : (!(((rd_T63 l0 x13_1).f0) == ((rd_T63 l1 x13_1).f0)) || (!(((rd_T63 l0 x13_1).f1) == ((rd_T63 l1 x13_1).f1)))) = true := c8
         clear c8
         obtain rfl := Option.some.inj H
         have p158 : 0 ≤ (x13_1 : Int) := of_decide_eq_true (by first | (with_reducible assumption) | assumption)
         have q158 : x13_1 < (l0.length : Int) := of_decide_eq_true (by first | (with_reducible assumption) | assumption)
         obtain ⟨ad158, e158, hx158_0, hx158_1⟩ := at_T63 HR0.out x13_1 p158 q158
         cases e158
         replace p158 := eq_true p158
         replace q158 := eq_true q158
         have p159 : 0 ≤ (x13_1 : Int) := of_decide_eq_true (by first | (with_reducible assumption) | assumption)
         have q159 : x13_1 < (l1.length : Int) := of_decide_eq_true (by first | (with_reducible assumption) | assumption)
         obtain ⟨ad159, e159, hx159_0, hx159_1⟩ := at_T63 HR1.out x13_1 p159 q159
         cases e159
         replace p159 := eq_true p159
         replace q159 := eq_true q159
         go_wp2
         repeat (go_quiet (fail); try go_wp2)
         go_ret
         exact ⟨by first | rfl | (simp; done) | (simp [*]; done), by repeat (first | exact Drawn0.refl _ | apply Drawn0.step)⟩
        ·rw [if_neg c8] at H
         have c8b0 : (!(((rd_T63 l0 x13_1).f0) == ((rd_T63 l1 x13_1).f0)) || (!(((rd_T63 l0 x13_1).f1) == ((rd_T63 l1 x13_1).f1)))) = false := by simpa using c8
         clear c8
         have H' := Aside0.mk H
         clear H
         have p158 : 0 ≤ (x13_1 : Int) := of_decide_eq_true (by first | (with_reducible assumption) | assumption)
         have q158 : x13_1 < (l0.length : Int) := of_decide_eq_true (by first | (with_reducible assumption) | assumption)
         obtain ⟨ad158, e158, hx158_0, hx158_1⟩ := at_T63 HR0.out x13_1 p158 q158
         cases e158
         replace p158 := eq_true p158
         replace q158 := eq_true q158
         have p159 : 0 ≤ (x13_1 : Int) := of_decide_eq_true (by first | (with_reducible assumption) | assumption)
         have q159 : x13_1 < (l1.length : Int) := of_decide_eq_true (by first | (with_reducible assumption) | assumption)
         obtain ⟨ad159, e159, hx159_0, hx159_1⟩ := at_T63 HR1.out x13_1 p159 q159
         cases e159
         replace p159 := eq_true p159
         replace q159 := eq_true q159
         go_wp2
         repeat (go_quiet (fail); try go_wp2)
         go_roundg k1
         case measure => have := HK1.out; omega
         case rel => exact ⟨(wrap64 (x13_1 + 1)), (by first | rfl | (simp; done) | (simp [*]; done)), H', ⟨by have := HK1.out; omega⟩, by repeat (first | exact Drawn0.refl _ | apply Drawn0.step)⟩
       ·rw [if_neg c7] at H
        exact absurd H (by simp)
      ·rw [if_neg c6] at H
       exact absurd H (by simp)
     ·rw [if_neg c5] at H
      exact absurd H (by simp)
    ·rw [if_neg c4] at H
     have c4b0 : decide (x13_1 < (l0.length : Int)) = false := decide_eq_false c4
     clear c4
     obtain rfl := Option.some.inj H
     go_wp2
     repeat (go_quiet (fail); try go_wp2)
     go_ret
     exact ⟨by first | rfl | (simp; done) | (simp [*]; done), by repeat (first | exact Drawn0.refl _ | apply Drawn0.step)⟩
 ·rw [if_neg c3] at H
  have c3b0 : ((l0.length : Int) == (l1.length : Int)) = false := beq_eq_false_iff_ne.mpr c3
  have c3b1 : ((l0.length : Int) != (l1.length : Int)) = true := bne_iff_ne.mpr c3
  have c3b2 : (l0.length == l1.length) = false := by first | simpa using c3 | (simp at c3 ⊢; omega)
  obtain rfl := Option.some.inj H
  go_enter Try.func31, Try.ntmps31
  go_wp2
  repeat (go_quiet (fail); try go_wp2)
  go_ret
  exact ⟨by first | rfl | (simp; done) | (simp [*]; done), by repeat (first | exact Drawn0.refl _ | apply Drawn0.step)⟩

end Go.Proofs.Ytcgimjoebkeifaa.PQ

/- The chapter's example, in plain numbers. -/
namespace Go.Proofs.Ytcgimjoebkeifaa.LawC
set_option linter.unusedSimpArgs false
set_option linter.unusedVariables false
open Go.RowKit Go.Proofs.YtcgimjoebkeifaaW.PrintWords Go.Proofs.Ytcgimjoebkeifaa.PQ Go.Proofs.Ytcgimjoebkeifaa.QComp Go.Proofs.QComp Go.Proofs.QHeap Go.Proofs.Ytcgimjoebkeifaa.Quan
instance : DecidableEq S63 := fun a b => decidable_of_iff (a.f0 = b.f0 ∧ a.f1 = b.f1) (by cases a; cases b; simp)
def exX : List S63 := [⟨9, 2⟩, ⟨13, 1⟩, ⟨14, 1⟩]
def exY : List S63 := [⟨2, 2⟩, ⟨3, 2⟩]
theorem ex_of : lookoutlaw31_of.f 20 3 2 [1, 1, 5, 6] = some (3, 2, 4, exX, true) := by decide +kernel
theorem ex_rank : qdigest_Rank.f 20 3 2 4 exY 5 = some (2, 4, 0) := by decide +kernel
theorem ex_equal : api_DigestNode_31.f 20 exY exY = some true := by decide +kernel
theorem ex_check : qdigest_Check.f 20 3 2 4 exX = some 0 := by decide +kernel
theorem ex_checkY : qdigest_Check.f 20 3 2 4 exY = some 0 := by decide +kernel
theorem ex_ratio : ratio_Check.f 20 1 2 = some 0 := by decide +kernel
/-- The one ascending permutation. -/
theorem sorted_eq {cs ds : Cs} (hp : ds.Perm cs) (hs : ds.Pairwise (fun a b => a.1 < b.1)) : sorted cs = ds := by
  have hs2 : (sorted cs).Pairwise (fun a b => a.1 ≤ b.1) := by
    unfold sorted
    refine (List.pairwise_mergeSort ?_ ?_ _).imp (fun h => by simpa using h)
    · intro a b c h1 h2; simp at *; omega
    · intro a b; simp; omega
  have hinj : ∀ a ∈ ds, ∀ b ∈ ds, a.1 = b.1 → a = b := by
    clear hs2 hp
    induction ds with
    | nil => intro a ha; simp at ha
    | cons x ds ih =>
      obtain ⟨h1, h2⟩ := List.pairwise_cons.1 hs
      intro a ha b hb e
      rcases List.mem_cons.1 ha with ea | ha'
      · rcases List.mem_cons.1 hb with eb | hb'
        · rw [ea, eb]
        · have := h1 b hb'; rw [← ea] at this; omega
      · rcases List.mem_cons.1 hb with eb | hb'
        · have := h1 a ha'; rw [← eb] at this; omega
        · exact ih h2 a ha' b hb' e
  have hp2 : (sorted cs).Perm ds := (List.mergeSort_perm _ _).trans hp.symm
  refine List.Perm.eq_of_pairwise (le := fun a b => a.1 ≤ b.1) ?_ hs2 (hs.imp (fun h => Int.le_of_lt h)) hp2
  intro a b ha hb h1 h2
  exact hinj a (hp2.mem_iff.1 ha) b hb (Int.le_antisymm h1 h2)
theorem ex_loop : ∃ cs, loop (4 / 2) (2 ^ (3 : Int).toNat) 20 (fillS (exX.map pair) [] []).1 (heapInit (fillS (exX.map pair) [] []).2) = some cs ∧ [((2 : Int), (2 : Int)), (3, 2)].Perm cs ∧ Keyed cs ∧ cs.length ≤ 1000000 := by
  refine ⟨[(2, 2), (3, 2)], ?_, ?_, ?_, ?_⟩
  · decide +kernel
  · decide +kernel
  · decide +kernel
  · decide
theorem ex_comp : qdigest_Compress.f 20 3 2 4 exX = some (3, 2, 4, exY, 0) := by
  unfold qdigest_Compress.f
  rw [ex_check, Option.bind_some, if_pos rfl]
  obtain ⟨cs, h1, h2, h3, h4⟩ := ex_loop
  have : comp 20 3 2 4 (exX.map pair) = some [(2, 2), (3, 2)] := by
    unfold comp
    rw [if_pos (by decide +kernel), h1, Option.bind_some, if_pos ⟨h3, h4⟩, sorted_eq h2 (by decide)]
  rw [this]
  rfl
theorem ex_quan : qdigest_Quantile.f 20 3 2 4 exY 1 2 = some (0, 3, 0) := by
  unfold qdigest_Quantile.f
  rw [ex_checkY, Option.bind_some, if_pos rfl, ex_ratio, Option.bind_some, if_pos rfl]
  unfold quanF
  rw [if_neg (by decide), if_neg (by decide), if_pos (by decide +kernel)]
  have h1 := walkR_reachF (spanLo 3) (rankF 1 2 4) (List.Perm.refl exY) (by decide +kernel) (by decide) (by decide) (by decide)
  have h2 := walkR_reachF (spanHi 3) (rankF 1 2 4) (List.Perm.refl exY) (by decide +kernel) (by decide) (by decide) (by decide)
  rw [← h1, ← h2]
  decide +kernel
end Go.Proofs.Ytcgimjoebkeifaa.LawC

/- The law QdigestCompress: the walk, on the ways on which it answers true. -/
namespace Go.Proofs.Ytcgimjoebkeifaa.LawC
set_option linter.unusedSimpArgs false
set_option linter.unusedVariables false
open Go.RowKit Go.Proofs.YtcgimjoebkeifaaW.PrintWords Go.Proofs.Ytcgimjoebkeifaa.PQ Go.Proofs.Ytcgimjoebkeifaa.QComp Go.Proofs.Ytcgimjoebkeifaa.QHeap
set_option maxHeartbeats 4000000
/-- The chapter's example. -/
def AwakeHolds : Prop := ∀ w, Calls Try.prog 10 #[] w fun e w' => e = .returned (.bool true) ∧ Below w.heap.size w w'
def TPost (w : World) (e : Ending) (w' : World) : Prop := e = .returned (.bool true) ∧ Below w.heap.size w w'
abbrev dg (a0 a1 a2 : Int) (A : Option Addr) (n c : Nat) : Value := .agg #[.int .i64 a0, .int .i64 a1, .int .i64 a2, .slice A n c]
abbrev dcells (a0 a1 a2 : Int) (v : Value) : Array Value := #[.int .i64 a0, .int .i64 a1, .int .i64 a2, v]
set_option maxRecDepth 100000 in
theorem law_great (AW : AwakeHolds) (a0 a1 a2 v : Int) (A : Option Addr) (c : Nat) (xs : List S63) (w : World) (hr : Kd.C k63 w A xs.length xs) (hc : xs.length ≤ c) (h : lookoutref31_Great.f a0 a1 a2 xs = some true) :
    Calls Try.prog 3 #[dg a0 a1 a2 A xs.length c, .int .u8 v] w (TPost w) := by
  have hb := (Below.refl w.heap.size w).alloc (Nat.le_refl _) (.cells (dcells a0 a1 a2 (.slice A xs.length c)) 24)
  have hg := lookoutref31_Great.calls a0 a1 a2 A c xs true _ (Kd.C_below hr hb) hc h
  clear hr
  go_enter Try.func3, Try.ntmps3
  go_wp2_with fail
  refine hg.mono ?_
  rintro e w1 ⟨rfl, hB⟩
  go_wp2_with fail
  refine (AW _).mono ?_
  rintro e w2 ⟨rfl, hB2⟩
  go_wp2_with fail
  go_ret
  have h1 := hb.trans (hB.mono (by simp))
  exact ⟨rfl, h1.trans (hB2.mono h1.size)⟩
set_option maxRecDepth 100000 in
theorem law_invalid (AW : AwakeHolds) (k : Nat) (a0 a1 a2 v t : Int) (A : Option Addr) (c : Nat) (xs : List S63) (w : World) (hr : Kd.C k63 w A xs.length xs) (hc : xs.length ≤ c) (h : lookoutref31_Great.f a0 a1 a2 xs = some false)
    (h2 : lookoutref31_Check.f k a0 a1 a2 xs = some t) (ht : ¬ t = 0) :
    Calls Try.prog 3 #[dg a0 a1 a2 A xs.length c, .int .u8 v] w (TPost w) := by
  have hb := (Below.refl w.heap.size w).alloc (Nat.le_refl _) (.cells (dcells a0 a1 a2 (.slice A xs.length c)) 24)
  have hg := lookoutref31_Great.calls a0 a1 a2 A c xs false _ (Kd.C_below hr hb) hc h
  have hch := fun W (hW : Below w.heap.size w W) => lookoutref31_Check.calls k a0 a1 a2 A c xs t W (Kd.C_below hr hW) hc h2
  have ht1 : (t != 0) = true := by simpa using ht
  have hx := blk_new w (.cells (dcells a0 a1 a2 (.slice A xs.length c)) 24)
  clear hr
  go_enter Try.func3, Try.ntmps3
  go_wp2_with fail
  refine hg.mono ?_
  rintro e w1 ⟨rfl, hB⟩
  have h1 := hb.trans (hB.mono (by simp))
  have bx := (hB.block w.heap.size (by simp)).trans hx
  have x0 := blk_cell bx 0
  have x1 := blk_cell bx 1
  have x2 := blk_cell bx 2
  have x3 := blk_cell bx 3
  simp at x0 x1 x2 x3
  clear bx hx hB hb
  go_wp2_with fail
  refine (hch _ h1).mono ?_
  rintro e w2 ⟨rfl, hB2⟩
  go_wp2_with fail
  refine (AW _).mono ?_
  rintro e w3 ⟨rfl, hB3⟩
  go_wp2_with fail
  go_ret
  have h2 := h1.trans (hB2.mono h1.size)
  exact ⟨rfl, h2.trans (hB3.mono h2.size)⟩
end Go.Proofs.Ytcgimjoebkeifaa.LawC

/- lookoutlaw31.awake: the chapter's example holds: the walk. -/
namespace Go.Proofs.Ytcgimjoebkeifaa.LawC
set_option linter.unusedSimpArgs false
set_option linter.unusedVariables false
open Go.RowKit Go.Proofs.YtcgimjoebkeifaaW.PrintWords Go.Proofs.Ytcgimjoebkeifaa.PQ Go.Proofs.Ytcgimjoebkeifaa.QComp Go.Proofs.Ytcgimjoebkeifaa.QHeap
set_option maxHeartbeats 4000000
theorem four_ints (w : World) : Kd.C (Kd.int .i64) (w.alloc (.cells #[.int .i64 1, .int .i64 1, .int .i64 5, .int .i64 6] 3)) (some ⟨w.heap.size, 0, none⟩) 4 ([1, 1, 5, 6] : List Int) := by
  refine ⟨rfl, by decide, fun _ => ⟨_, rfl, fun j p hj => ⟨[.int .i64 p], rfl, ?_, fun i u hu => ?_⟩⟩⟩
  · match j, hj with
    | 0, hj => simp at hj; subst hj; rfl
    | 1, hj => simp at hj; subst hj; rfl
    | 2, hj => simp at hj; subst hj; rfl
    | 3, hj => simp at hj; subst hj; rfl
  · have hb := blk_new w (.cells #[.int .i64 1, .int .i64 1, .int .i64 5, .int .i64 6] 3)
    match i, hu with
    | 0, hu =>
      simp at hu
      subst hu
      rw [Addr.add_lit]
      match j, hj with
      | 0, hj => simp at hj; subst hj; exact blk_cell hb 0
      | 1, hj => simp at hj; subst hj; exact blk_cell hb 1
      | 2, hj => simp at hj; subst hj; exact blk_cell hb 2
      | 3, hj => simp at hj; subst hj; exact blk_cell hb 3
theorem two_nodes (w : World) : Kd.C k63 (w.alloc (.cells #[.int .i64 2, .int .i64 2, .int .i64 3, .int .i64 2] 63)) (some ⟨w.heap.size, 0, none⟩) 2 exY := by
  refine ⟨rfl, by decide, fun _ => ⟨_, rfl, fun j p hj => ⟨[.int .i64 p.f0, .int .i64 p.f1], rfl, k63_mk _ _, fun i u hu => ?_⟩⟩⟩
  have hb := blk_new w (.cells #[.int .i64 2, .int .i64 2, .int .i64 3, .int .i64 2] 63)
  rw [Addr.add_lit]
  match i, hu with
  | 0, hu =>
    simp at hu
    subst hu
    match j, hj with
    | 0, hj => simp [exY] at hj; subst hj; exact blk_cell hb 0
    | 1, hj => simp [exY] at hj; subst hj; exact blk_cell hb 2
  | 1, hu =>
    simp at hu
    subst hu
    match j, hj with
    | 0, hj => simp [exY] at hj; subst hj; exact blk_cell hb 1
    | 1, hj => simp [exY] at hj; subst hj; exact blk_cell hb 3
set_option maxRecDepth 100000 in
theorem awake_holds : AwakeHolds := by
  intro w
  have hof := fun W A c (hW : Kd.C (Kd.int .i64) W A 4 [1, 1, 5, 6]) (hc : 4 ≤ c) => lookoutlaw31_of.calls 20 3 2 A c [1, 1, 5, 6] 3 2 4 exX true W hW hc ex_of
  have hcm := fun W A c (hW : Kd.C k63 W A exX.length exX) hc => qdigest_Compress.calls 20 3 2 4 A c exX 3 2 4 exY 0 W hW hc ex_comp
  have HRK := Lib.hid (fun W A c (hW : Kd.C k63 W A exY.length exY) hc => qdigest_Rank.calls 20 3 2 4 A c exY 5 2 4 0 W hW hc ex_rank)
  have HQU := Lib.hid (fun W A c (hW : Kd.C k63 W A exY.length exY) hc => qdigest_Quantile.calls 20 3 2 4 A c exY 1 2 0 3 0 W hW hc ex_quan)
  have HEQ := Lib.hid (fun W A c A' c' (hW : Kd.C k63 W A exY.length exY) hc (hW' : Kd.C k63 W A' exY.length exY) hc' => api_DigestNode_31.calls 20 A c exY A' c' exY true W hW hc hW' hc' ex_equal)
  have hlY : exY.length = 2 := rfl
  go_enter Try.func10, Try.ntmps10
  go_wp2_with fail
  refine (hof _ _ _ (four_ints w) (by decide)).mono ?_
  rintro e w1 ⟨v1, rfl, hR1, hB1⟩
  obtain ⟨A1, c1, rfl, hc1, hC1⟩ := Kd.R_reads hR1
  have hcm1 := hcm (w1.alloc (.cells (dcells 3 2 4 (.slice A1 exX.length c1)) 24)) A1 c1 (Kd.C_alloc hC1 _) hc1
  have H1 := Lib.hid (((Below.refl w.heap.size w).alloc (Nat.le_refl _) (.cells #[.int .i64 1, .int .i64 1, .int .i64 5, .int .i64 6] 3)).trans (hB1.mono (by simp)))
  clear hR1 hC1 hof hcm hB1
  go_wp2_with fail
  refine hcm1.mono ?_
  rintro e w2 ⟨v2, rfl, hR2, hB2⟩
  obtain ⟨A2, c2, rfl, hc2, hC2⟩ := Kd.R_reads hR2
  have H2 := Lib.hid (H1.out.trans ((((Below.refl w1.heap.size w1).alloc (Nat.le_refl _) (.cells (dcells 3 2 4 (.slice A1 exX.length c1)) 24)).trans (hB2.mono (by simp))).mono H1.out.size))
  rw [hlY] at hc2 hC2 ⊢
  have hy := blk_new w2 (.cells (dcells 3 2 4 (.slice A2 2 c2)) 24)
  have hC3 := Kd.C_alloc hC2 (.cells (dcells 3 2 4 (.slice A2 2 c2)) 24)
  have hb3 := (Below.refl w2.heap.size w2).alloc (Nat.le_refl _) (.cells (dcells 3 2 4 (.slice A2 2 c2)) 24)
  have hlt : w2.heap.size < (w2.alloc (.cells (dcells 3 2 4 (.slice A2 2 c2)) 24)).heap.size := by simp
  have H3 := Lib.hid (H2.out.trans (hb3.mono H2.out.size))
  have hrk := HRK.out _ A2 c2 hC3 hc2
  clear hcm1 hR2 hB2 H2 hb3
  go_wp2_with fail
  refine hrk.mono ?_
  rintro e w4 ⟨rfl, hB4⟩
  have BY4 := Lib.hid ((hB4.block _ hlt).trans hy)
  have HC4 := Lib.hid (Kd.C_below hC3 hB4)
  have H4 := Lib.hid (H3.out.trans (hB4.mono H3.out.size))
  have hlt4 : w2.heap.size < w4.heap.size := by have := hB4.size; omega
  clear hrk hy hC3 hB4 H3 hC2
  have y0 := blk_cell BY4.out 0
  have y1 := blk_cell BY4.out 1
  have y2 := blk_cell BY4.out 2
  have y3 := blk_cell BY4.out 3
  simp at y0 y1 y2 y3
  have hqu := HQU.out w4 A2 c2 HC4.out hc2
  go_wp2_with fail
  refine hqu.mono ?_
  rintro e w5 ⟨rfl, hB5⟩
  have BY5 := Lib.hid ((hB5.block _ hlt4).trans BY4.out)
  have HC5 := Lib.hid (Kd.C_below HC4.out hB5)
  have H5 := Lib.hid (H4.out.trans (hB5.mono H4.out.size))
  clear hqu hB5 y0 y1 y2 y3
  have y3 := blk_cell BY5.out 3
  simp at y3
  have hbe := (Below.refl w5.heap.size w5).alloc (Nat.le_refl _) (.cells #[.int .i64 2, .int .i64 2, .int .i64 3, .int .i64 2] 63)
  have heq := HEQ.out _ A2 c2 _ 2 (Kd.C_below HC5.out hbe) hc2 (two_nodes w5) (by decide)
  go_wp2_with fail
  refine heq.mono ?_
  rintro e w6 ⟨rfl, hd⟩
  go_wp2_with fail
  go_ret
  have H6 := H5.out.trans (hbe.mono H5.out.size)
  exact ⟨rfl, H6.trans (hd.below.mono H6.size)⟩
end Go.Proofs.Ytcgimjoebkeifaa.LawC

/- The chapter's example as a Lean function: the call answers true. No conditions. -/
namespace Go.Proofs.Ytcgimjoebkeifaa.PQ
set_option linter.unusedVariables false
open Go.RowKit Go.Proofs.YtcgimjoebkeifaaW.PrintWords
def lookoutlaw31_awake.f : Option Bool := some true
theorem lookoutlaw31_awake.calls (r1 : Bool) (w : World) (h : lookoutlaw31_awake.f = some r1) :
    Calls Try.prog 10 #[] w fun e w' => e = .returned (.bool r1) ∧ Below w.heap.size w w' := by
  obtain rfl : true = r1 := Option.some.inj h
  exact Go.Proofs.Ytcgimjoebkeifaa.LawC.awake_holds w
end Go.Proofs.Ytcgimjoebkeifaa.PQ
