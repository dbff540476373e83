/- Parts of one proof, one behind the other (put together by wip/merge.py out of: AddA, PureA, PQxq0, PQxf14, PureB, Hlen, Hspan, PureC). No conditions beyond each theorem's own. -/
import Derived.Deep.DeepAppendRoom
import Derived.Deep.LoopGhost
import Derived.Lib.Overlaps
import Derived.Laws.CopyRow
import Derived.Lib.Hide
import Derived.Test.YtcgimjoebkeifaaShelf
import Derived.WalkKit
import Derived.Deep.QuietTactic
import Derived.BigQuiet
import Derived.Test.YtcgimjoebkeifaaQC1
import Derived.Test.YtcgimjoebkeifaaQC2
import Derived.Test.YtcgimjoebkeifaaQC3
/- slices.BinarySearchFunc and slices.Insert at []api.DigestNode, as qdigest.Add calls them. -/
namespace Go.Proofs.Ytcgimjoebkeifaa.QAdd
set_option linter.unusedSimpArgs false
set_option linter.unusedVariables false
open Go.RowKit Go.Proofs.YtcgimjoebkeifaaW.PrintWords Go.Proofs.Ytcgimjoebkeifaa.PQ
set_option maxHeartbeats 1000000
theorem idcmp_calls (x y z : Int) (W : World) : Calls Try.prog 64 #[.agg #[.int .i64 x, .int .i64 y], .int .i64 z] W fun e w' => e = .returned (.int .i64 (wrap64 (x - z))) ∧ Below W.heap.size W w' := by
  go_enter Try.func64, Try.ntmps64
  go_wp2
  go_ret
  exact ⟨rfl, (Below.refl _ _).alloc (Nat.le_refl _) _⟩
/-- How many nodes lie before an id. -/
def pos (xs : List S63) (id : Int) : Nat := (xs.takeWhile (fun x => decide (x.f0 < id))).length
def Asc (xs : List S63) : Prop := xs.Pairwise (fun a b => a.f0 < b.f0)
theorem pos_le (xs : List S63) (id : Int) : pos xs id ≤ xs.length := (List.takeWhile_sublist _).length_le
theorem lt_pos : ∀ (xs : List S63) (id : Int), Asc xs → ∀ h, h < xs.length → ((rd_T63 xs h).f0 < id ↔ h < pos xs id)
  | [], _, _, h, hh => by simp at hh
  | x :: xs, id, ha, h, hh => by
    have ha' := List.pairwise_cons.1 ha
    unfold pos
    rw [List.takeWhile_cons]
    cases h with
    | zero =>
      by_cases hx : x.f0 < id
      · simp [hx, rd_T63]
      · simp [hx, rd_T63]
    | succ h =>
      have ih := lt_pos xs id ha'.2 h (by simpa using hh)
      have e1 : rd_T63 (x :: xs) ((h + 1 : Nat) : Int) = rd_T63 xs h := by simp [rd_T63]
      rw [e1]
      by_cases hx : x.f0 < id
      · simp only [hx, decide_true, if_true, List.length_cons]
        rw [ih]; unfold pos; omega
      · simp only [hx, decide_false, List.length_nil]
        have hh' : h < xs.length := by simpa using hh
        have h3 : rd_T63 xs h ∈ xs := by simp [rd_T63, List.getD_eq_getElem?_getD, hh']
        have := ha'.1 _ h3
        simp; omega
def found (xs : List S63) (id : Int) : Bool := decide (pos xs id < xs.length) && decide ((rd_T63 xs (pos xs id)).f0 = id)
set_option maxRecDepth 100000 in
theorem search_calls (w : World) (A : Option Addr) (c : Nat) (xs : List S63) (id : Int) (hr : Kd.C k63 w A xs.length xs) (ha : Asc xs) (hb : ∀ x ∈ xs, 0 ≤ x.f0 ∧ x.f0 ≤ 1099511627776) (hl : xs.length ≤ 1000000) (hid : 0 ≤ id ∧ id ≤ 1099511627776) :
    Calls Try.prog 63 #[.slice A xs.length c, .int .i64 id, .func (.func 64) #[] #[]] w fun e w' => e = .returned (.tuple #[.int .i64 (pos xs id), .bool (found xs id)]) ∧ Below w.heap.size w w' := by
  have hlp := lt_pos xs id ha
  have hpl := pos_le xs id
  have hrd : ∀ (h : Int), 0 ≤ h → h < xs.length → 0 ≤ (rd_T63 xs h).f0 ∧ (rd_T63 xs h).f0 ≤ 1099511627776 := fun h h0 h1 => by
    refine hb _ ?_
    have : h.toNat < xs.length := by omega
    simp [rd_T63, List.getD_eq_getElem?_getD, this]
  obtain ⟨hi0, hi1⟩ := hid
  have HR := Lib.hid hr
  have HLP := Lib.hid hlp
  have HRD := Lib.hid hrd
  clear hr hlp hrd hb ha
  unfold found
  generalize hn : xs.length = n at *
  generalize hp : pos xs id = p at *
  clear hn hp
  go_enter Try.func63, Try.ntmps63
  go_wp2_with fail
  go_loopg [9, 10] n (fun gk s9 s10 wr => ∃ (i j : Nat), s9 = .int .i64 i ∧ s10 = .int .i64 j ∧ Below w.heap.size w wr ∧ i ≤ p ∧ p ≤ j ∧ j ≤ n ∧ gk = j - i)
  case atStart => exact ⟨0, n, rfl, rfl, Below.refl _ _, by omega, by omega, by omega, by omega⟩
  case round =>
    obtain ⟨i, j, rfl, rfl, hB, h1, h2, h3, hgk⟩ := hrel
    by_cases hij : i < j
    · have hlt : (i : Int) < j := by omega
      have hm0 : 0 ≤ ((i : Int) + j) / 2 ∧ ((i : Int) + j) / 2 < n := by omega
      have hw1 : IntKind.u64.wrap ((i : Int) + j) = (i : Int) + j := by
        rw [show IntKind.u64.wrap ((i : Int) + j) = ((i : Int) + j) % 18446744073709551616 from by simp [IntKind.wrap, IntKind.signed, IntKind.bits]]
        omega
      obtain ⟨ad, rfl, hx0, hx1⟩ := at_T63 (Kd.C_below HR.out hB) (((i + j) / 2 : Nat) : Int) (by omega) (by omega)
      simp only [Int.toNat_natCast] at hx0 hx1
      have hcm := fun W => idcmp_calls (rd_T63 xs (((i + j) / 2 : Nat) : Int)).f0 (rd_T63 xs (((i + j) / 2 : Nat) : Int)).f1 id W
      have hv := HRD.out (((i + j) / 2 : Nat) : Int) (by omega) (by omega)
      have hiff := HLP.out ((i + j) / 2) (by omega)
      have hmid : i ≤ (i + j) / 2 ∧ (i + j) / 2 < j := by omega
      have hcast : ((i : Int) + j) / 2 = (((i + j) / 2 : Nat) : Int) := by omega
      generalize (rd_T63 xs (((i + j) / 2 : Nat) : Int)).f0 = y at *
      generalize (rd_T63 xs (((i + j) / 2 : Nat) : Int)).f1 = y1 at *
      have HIFF := Lib.hid hiff
      have HV := Lib.hid hv
      have HM := Lib.hid hmid
      have HC := Lib.hid hcast
      clear hiff hv hmid hcast
      have hy := HV.out
      go_wp2_with fail
      refine (hcm _).mono ?_
      rintro e w2 ⟨rfl, hB2⟩
      have hwr : wrap64 (y - id) = y - id := by unfold wrap64; omega
      rw [hwr]
      by_cases hc : y < id
      · have hc1 : y - id < 0 := by omega
        go_wp2_with fail
        have h4 := HIFF.out.1 hc
        go_roundg (j - ((i + j) / 2 + 1))
        case rel => exact ⟨(i + j) / 2 + 1, j, by rw [HC.out]; go_num, rfl, hB.trans (hB2.mono hB.size), by have := HM.out; omega, h2, h3, rfl⟩
        case measure => have := HM.out; omega
      · have hc1 : ¬ (y - id < 0) := by omega
        go_wp2_with fail
        have h4 : ¬ ((i + j) / 2 < p) := fun h => by have := HIFF.out.2 h; omega
        go_roundg ((i + j) / 2 - i)
        case rel => exact ⟨i, (i + j) / 2, rfl, by rw [HC.out], hB.trans (hB2.mono hB.size), h1, by omega, by have := HM.out; omega, rfl⟩
        case measure => have := HM.out; omega
    · obtain rfl : i = j := by omega
      obtain rfl : i = p := by omega
      by_cases hin : i < n
      · obtain ⟨ad, rfl, hx0, hx1⟩ := at_T63 (Kd.C_below HR.out hB) (i : Int) (by omega) (by omega)
        simp only [Int.toNat_natCast] at hx0 hx1
        have hcm := fun W => idcmp_calls (rd_T63 xs (i : Int)).f0 (rd_T63 xs (i : Int)).f1 id W
        have hv := HRD.out (i : Int) (by omega) (by omega)
        generalize hye : (rd_T63 xs (i : Int)).f0 = y at *
        have HYE := Lib.hid hye
        clear hye
        generalize (rd_T63 xs (i : Int)).f1 = y1 at *
        have hini : (i : Int) < n := by omega
        have hwr : wrap64 (y - id) = y - id := by unfold wrap64; omega
        go_wp2_with (go_at_call 64; refine (hcm _).mono ?_; rintro e w2 ⟨rfl, hB2⟩; rw [hwr])
        go_ret2
        refine ⟨?_, hB.trans (hB2.mono hB.size)⟩
        have hd1 : decide (i < n) = true := decide_eq_true hin
        rw [hd1, Bool.true_and, HYE.out]
        by_cases hq : y = id
        · have h5 : y - id = 0 := by omega
          simp [hq]
        · have h5 : ¬ (y - id = 0) := by omega
          simp [hq, h5]
      · go_wp2_with fail
        go_ret2
        refine ⟨?_, hB⟩
        simp [hin]
end Go.Proofs.Ytcgimjoebkeifaa.QAdd

/- What a valid digest is; both Checks say so. No conditions. -/
namespace Go.Proofs.Ytcgimjoebkeifaa.Law
set_option linter.unusedSimpArgs false
set_option linter.unusedVariables false
open Go.RowKit Go.Proofs.YtcgimjoebkeifaaW.PrintWords Go.Proofs.Ytcgimjoebkeifaa.PQ Go.Proofs.Ytcgimjoebkeifaa.Quan Go.Proofs.Ytcgimjoebkeifaa.QAdd
def NodeV (p thr c : Int) (x : S63) : Prop := 1 ≤ x.f0 ∧ x.f0 < 2 * p ∧ 1 ≤ x.f1 ∧ x.f1 ≤ c ∧ (x.f0 < p → x.f1 ≤ thr)
instance (p thr c : Int) (x : S63) : Decidable (NodeV p thr c x) := by unfold NodeV; exact inferInstance
structure Valid (b K c : Int) (xs : List S63) : Prop where
  b1 : 1 ≤ b
  b2 : b ≤ 20
  K1 : 1 ≤ K
  K2 : K ≤ 10000
  c1 : 0 ≤ c
  c2 : c ≤ 1099511627776
  len : xs.length ≤ 2000
  asc : Asc xs
  node : ∀ x ∈ xs, NodeV (2 ^ b.toNat) (c / K) c x
  sum : tot xs = c
theorem shl1 {b : Int} (h1 : 1 ≤ b) (h2 : b ≤ 20) : shl .i64 1 b = 2 ^ b.toNat := by
  obtain ⟨n, rfl⟩ := Int.eq_ofNat_of_zero_le (by omega : 0 ≤ b)
  have : ∀ n : Nat, n ≤ 20 → shl .i64 1 (n : Int) = 2 ^ (n : Int).toNat := by decide
  exact this n (by omega)
theorem shl2 {b : Int} (h1 : 1 ≤ b) (h2 : b ≤ 20) : shl .i64 2 b = 2 * 2 ^ b.toNat := by
  obtain ⟨n, rfl⟩ := Int.eq_ofNat_of_zero_le (by omega : 0 ≤ b)
  have : ∀ n : Nat, n ≤ 20 → shl .i64 2 (n : Int) = 2 * 2 ^ (n : Int).toNat := by decide
  exact this n (by omega)
theorem quo_thr {c K : Int} (h1 : 0 ≤ c) (h2 : c ≤ 1099511627776) (hK : 1 ≤ K) : wrap64 (Int.tdiv c K) = c / K := by
  rw [Int.tdiv_eq_ediv_of_nonneg h1]
  have := Int.ediv_nonneg h1 (by omega : 0 ≤ K)
  have := Int.ediv_le_self K h1
  unfold wrap64
  omega
theorem pow_pos20 {b : Int} (h1 : 1 ≤ b) (h2 : b ≤ 20) : (2 : Int) ≤ 2 ^ b.toNat ∧ (2 : Int) ^ b.toNat ≤ 1048576 := by
  obtain ⟨n, rfl⟩ := Int.eq_ofNat_of_zero_le (by omega : 0 ≤ b)
  have : ∀ n : Nat, n ≤ 20 → 1 ≤ n → (2 : Int) ≤ 2 ^ (n : Int).toNat ∧ (2 : Int) ^ (n : Int).toNat ≤ 1048576 := by decide
  exact this n (by omega) (by omega)
section ref
variable (b K c : Int) (xs : List S63)
theorem ref_step (m : Nat) (sum i : Int) (hb1 : 1 ≤ b) (hb2 : b ≤ 20) (hK : 1 ≤ K) (hc1 : 0 ≤ c) (hc2 : c ≤ 1099511627776) (h0 : 0 ≤ i) (h1 : i < xs.length) (hl : xs.length ≤ 2000) :
    lookoutref31_Check.l0 (m + 2) sum i b K c xs = (if NodeV (2 ^ b.toNat) (c / K) c (rd_T63 xs i) ∧ (0 < i → (rd_T63 xs (i - 1)).f0 < (rd_T63 xs i).f0) then lookoutref31_Check.l0 m (wrap64 (sum + (rd_T63 xs i).f1)) (wrap64 (i + 1)) b K c xs else some 1) := by
  rw [lookoutref31_Check.l0]
  have hw : wrap64 (i - 1) = i - 1 := by unfold wrap64; omega
  simp only [lookoutref31_Check.j2, shl1 hb1 hb2, shl2 hb1 hb2, quo_thr hc1 hc2 hK, hw, if_true, Bool.false_eq_true, if_false, decide_eq_true_eq]
  generalize rd_T63 xs i = x
  generalize rd_T63 xs (i - 1) = y
  generalize (2 : Int) ^ b.toNat = p
  generalize c / K = thr
  generalize lookoutref31_Check.l0 m (wrap64 (sum + x.f1)) (wrap64 (i + 1)) b K c xs = R
  have no : ∀ {q : Prop} [Decidable q], ¬ q → (some (1 : Int) = if q then R else some 1) := fun h => (if_neg h).symm
  rw [if_pos h1, if_pos h0, if_pos (by omega : 0 ≤ b)]
  by_cases g1 : x.f0 < 1
  · rw [if_pos g1]
    exact no (fun ⟨⟨a1, a2, a3, a4, a5⟩, a6⟩ => by omega)
  rw [if_neg g1]
  by_cases g2 : x.f0 ≥ 2 * p
  · rw [if_pos g2]
    exact no (fun ⟨⟨a1, a2, a3, a4, a5⟩, a6⟩ => by omega)
  rw [if_neg g2]
  have tail : (if x.f1 < 1 then some 1 else if x.f1 > c then some 1 else if x.f0 < p then if K = 0 then none else (if x.f1 > thr then some 1 else R) else R) =
      if 1 ≤ x.f1 ∧ x.f1 ≤ c ∧ (x.f0 < p → x.f1 ≤ thr) then R else some 1 := by
    by_cases g3 : x.f1 < 1
    · rw [if_pos g3]
      exact no (fun ⟨a3, a4, a5⟩ => by omega)
    rw [if_neg g3]
    by_cases g4 : x.f1 > c
    · rw [if_pos g4]
      exact no (fun ⟨a3, a4, a5⟩ => by omega)
    rw [if_neg g4]
    by_cases g5 : x.f0 < p
    · rw [if_pos g5, if_neg (by omega : ¬ K = 0)]
      by_cases g6 : x.f1 > thr
      · rw [if_pos g6]
        exact no (fun ⟨a3, a4, a5⟩ => by omega)
      · rw [if_neg g6, if_pos ⟨by omega, by omega, fun _ => by omega⟩]
    · rw [if_neg g5, if_pos ⟨by omega, by omega, fun h => absurd h g5⟩]
  by_cases g7 : i > 0
  · rw [if_pos g7, if_pos (by omega : 0 ≤ i - 1), if_pos (by omega : i - 1 < (xs.length : Int))]
    by_cases g8 : y.f0 ≥ x.f0
    · rw [if_pos g8]
      exact no (fun ⟨_, a6⟩ => by have := a6 g7; omega)
    rw [if_neg g8, tail]
    by_cases g9 : 1 ≤ x.f1 ∧ x.f1 ≤ c ∧ (x.f0 < p → x.f1 ≤ thr)
    · rw [if_pos g9, if_pos ⟨⟨by omega, by omega, g9⟩, fun _ => by omega⟩]
    · rw [if_neg g9]
      exact no (fun h => g9 h.1.2.2)
  · rw [if_neg g7, tail]
    by_cases g9 : 1 ≤ x.f1 ∧ x.f1 ≤ c ∧ (x.f0 < p → x.f1 ≤ thr)
    · rw [if_pos g9, if_pos ⟨⟨by omega, by omega, g9⟩, fun h => absurd h g7⟩]
    · rw [if_neg g9]
      exact no (fun h => g9 h.1.2.2)
theorem ref_end (m : Nat) (sum i : Int) (h1 : ¬ i < xs.length) : lookoutref31_Check.l0 (m + 1) sum i b K c xs = if sum = c then some 0 else some 1 := by
  rw [lookoutref31_Check.l0, if_neg h1]
/-- The first i nodes are as they should be. -/
def Good (i : Nat) : Prop := ∀ j : Nat, j < i → NodeV (2 ^ b.toNat) (c / K) c (rd_T63 xs j) ∧ (0 < j → (rd_T63 xs ((j : Int) - 1)).f0 < (rd_T63 xs j).f0)
end ref
theorem tot_take (xs : List S63) (i : Nat) (h : i < xs.length) : tot (xs.take (i + 1)) = tot (xs.take i) + (rd_T63 xs i).f1 := by
  induction xs generalizing i with
  | nil => simp at h
  | cons x xs ih =>
    cases i with
    | zero => simp [tot, rd_T63]
    | succ i =>
      have := ih i (by simpa using h)
      have e1 : rd_T63 (x :: xs) ((i + 1 : Nat) : Int) = rd_T63 xs i := by simp [rd_T63]
      rw [e1, List.take_succ_cons, List.take_succ_cons]
      simp only [tot]
      rw [this]
      omega
theorem rd_mem (xs : List S63) (i : Nat) (h : i < xs.length) : rd_T63 xs i = xs[i] := by simp [rd_T63, List.getD_eq_getElem?_getD, h]
theorem good_succ {b K c : Int} {xs : List S63} {i : Nat} (hg : Good b K c xs i) (h : NodeV (2 ^ b.toNat) (c / K) c (rd_T63 xs i) ∧ ((0 : Int) < (i : Int) → (rd_T63 xs ((i : Int) - 1)).f0 < (rd_T63 xs i).f0)) : Good b K c xs (i + 1) := by
  intro j hj
  rcases Nat.lt_or_ge j i with h1 | h1
  · exact hg j h1
  · have e : j = i := Nat.le_antisymm (Nat.le_of_lt_succ hj) h1
    subst e
    exact ⟨h.1, fun h2 => h.2 (Int.natCast_pos.2 h2)⟩
theorem sum_next {s x c : Int} {i n : Nat} (hb : 0 ≤ s ∧ s ≤ i * 1099511627776) (hx : 1 ≤ x ∧ x ≤ c) (hc : c ≤ 1099511627776) (hi : i < n) (hn : n ≤ 2000) : wrap64 (s + x) = s + x ∧ 0 ≤ s + x ∧ s + x ≤ ((i + 1 : Nat) : Int) * 1099511627776 := by
  unfold wrap64
  omega
theorem idx_next {i n : Nat} (hi : i < n) (hn : n ≤ 2000) : wrap64 ((i : Int) + 1) = ((i + 1 : Nat) : Int) := by unfold wrap64; omega
theorem ref_loop (b K c : Int) (xs : List S63) (hb1 : 1 ≤ b) (hb2 : b ≤ 20) (hK : 1 ≤ K) (hc1 : 0 ≤ c) (hc2 : c ≤ 1099511627776) (hl : xs.length ≤ 2000) (d : Nat) : ∀ (i : Nat) (sum : Int), i + d = xs.length → sum = tot (xs.take i) → (0 ≤ sum ∧ sum ≤ i * 1099511627776) → Good b K c xs i →
    ∃ r, (∀ k, 2 * d + 1 ≤ k → lookoutref31_Check.l0 k sum i b K c xs = some r) ∧ (r = 0 → Good b K c xs xs.length ∧ tot xs = c) := by
  induction d with
  | zero =>
    intro i sum hd hs hb hg
    obtain rfl : i = xs.length := hd
    refine ⟨if sum = c then 0 else 1, fun k hk => ?_, fun hr => ?_⟩
    · obtain ⟨m, rfl⟩ : ∃ m, k = m + 1 := ⟨k - 1, by omega⟩
      rw [ref_end b K c xs m sum _ (Int.lt_irrefl _)]
      split <;> rfl
    · by_cases h : sum = c
      · rw [List.take_of_length_le (Nat.le_refl _)] at hs
        exact ⟨hg, by rw [← hs]; exact h⟩
      · rw [if_neg h] at hr; exact absurd hr (by decide)
  | succ d ih =>
    intro i sum hd hs hb hg
    have hi : i < xs.length := by omega
    by_cases hn : NodeV (2 ^ b.toNat) (c / K) c (rd_T63 xs i) ∧ ((0 : Int) < (i : Int) → (rd_T63 xs ((i : Int) - 1)).f0 < (rd_T63 xs i).f0)
    · obtain ⟨e1, e3, e4⟩ := sum_next hb ⟨hn.1.2.2.1, hn.1.2.2.2.1⟩ hc2 hi hl
      obtain ⟨r, h1, h2⟩ := ih (i + 1) (sum + (rd_T63 xs i).f1) (by omega) (by rw [tot_take xs i hi, hs]) ⟨e3, e4⟩ (good_succ hg hn)
      refine ⟨r, fun k hk => ?_, h2⟩
      obtain ⟨m, rfl⟩ : ∃ m, k = m + 2 := ⟨k - 2, (Nat.sub_add_cancel (Nat.le_trans (by omega) hk)).symm⟩
      rw [ref_step b K c xs m sum i hb1 hb2 hK hc1 hc2 (Int.natCast_nonneg i) (Int.ofNat_lt.2 hi) hl, if_pos hn, e1, idx_next hi hl]
      exact h1 m (by omega)
    · refine ⟨1, fun k hk => ?_, fun h => absurd h (by decide)⟩
      obtain ⟨m, rfl⟩ : ∃ m, k = m + 2 := ⟨k - 2, (Nat.sub_add_cancel (Nat.le_trans (by omega) hk)).symm⟩
      rw [ref_step b K c xs m sum i hb1 hb2 hK hc1 hc2 (Int.natCast_nonneg i) (Int.ofNat_lt.2 hi) hl, if_neg hn]
theorem asc_of_good {b K c : Int} {xs : List S63} (h : Good b K c xs xs.length) : Asc xs := by
  have step : ∀ (d i : Nat), i + d + 1 < xs.length → (rd_T63 xs i).f0 < (rd_T63 xs ((i + d + 1 : Nat) : Int)).f0 := by
    intro d
    induction d with
    | zero =>
      intro i hi
      have := (h (i + 1) (by omega)).2 (by omega)
      rw [show (((i + 1 : Nat) : Int) - 1) = (i : Int) from by omega] at this
      exact this
    | succ d ih =>
      intro i hi
      have h1 := ih i (by omega)
      have h2 := (h (i + d + 1 + 1) (by omega)).2 (by omega)
      rw [show (((i + d + 1 + 1 : Nat) : Int) - 1) = ((i + d + 1 : Nat) : Int) from by omega] at h2
      have e : i + (d + 1) + 1 = i + d + 1 + 1 := by omega
      rw [e]
      omega
  unfold Asc
  rw [List.pairwise_iff_getElem]
  intro i j hi hj hij
  have := step (j - i - 1) i (by omega)
  rw [show i + (j - i - 1) + 1 = j from by omega, rd_mem xs i hi, rd_mem xs j hj] at this
  exact this
/-- The reference's Check ends, and says OK of valid digests alone. -/
theorem ref_check (b K c : Int) (xs : List S63) (hl : xs.length ≤ 24) : ∃ k r, lookoutref31_Check.f k b K c xs = some r ∧ (r = 0 → Valid b K c xs) := by
  have one : ∀ k, lookoutref31_Check.j0 (k + 1) true b K c xs = some 1 := fun k => by rw [lookoutref31_Check.j0, if_pos rfl]
  by_cases h1 : b < 1
  · exact ⟨1, 1, by unfold lookoutref31_Check.f; rw [if_pos h1]; exact one 0, fun h => by omega⟩
  by_cases h2 : b > 20
  · exact ⟨1, 1, by unfold lookoutref31_Check.f; rw [if_neg h1, if_pos h2]; exact one 0, fun h => by omega⟩
  by_cases h3 : K < 1
  · exact ⟨1, 1, by unfold lookoutref31_Check.f; rw [if_neg h1, if_neg h2, if_pos h3]; exact one 0, fun h => by omega⟩
  by_cases h4 : K > 10000
  · exact ⟨1, 1, by unfold lookoutref31_Check.f; rw [if_neg h1, if_neg h2, if_neg h3, if_pos h4]; exact one 0, fun h => by omega⟩
  by_cases h5 : c < 0
  · exact ⟨1, 1, by unfold lookoutref31_Check.f; rw [if_neg h1, if_neg h2, if_neg h3, if_neg h4, if_pos h5]; exact one 0, fun h => by omega⟩
  by_cases h6 : c > 1099511627776
  · exact ⟨1, 1, by unfold lookoutref31_Check.f; rw [if_neg h1, if_neg h2, if_neg h3, if_neg h4, if_neg h5, if_pos h6]; exact one 0, fun h => by omega⟩
  obtain ⟨r, hr1, hr2⟩ := ref_loop b K c xs (by omega) (by omega) (by omega) (by omega) (by omega) (by omega) xs.length 0 0 (by omega) rfl ⟨by omega, by omega⟩ (fun j hj => by omega)
  refine ⟨2 * xs.length + 2, r, ?_, fun h => ?_⟩
  · unfold lookoutref31_Check.f
    rw [if_neg h1, if_neg h2, if_neg h3, if_neg h4, if_neg h5, if_neg h6, lookoutref31_Check.j0, if_neg (by simp; omega)]
    exact hr1 _ (Nat.le_refl _)
  · obtain ⟨hg, ht⟩ := hr2 h
    refine ⟨by omega, by omega, by omega, by omega, by omega, by omega, by omega, asc_of_good hg, fun x hx => ?_, ht⟩
    obtain ⟨i, hi, rfl⟩ := List.getElem_of_mem hx
    rw [← rd_mem xs i hi]
    exact (hg i hi).1
end Go.Proofs.Ytcgimjoebkeifaa.Law

/- Written by a program of this session (wip/patch_print.py): Go functions as Lean functions, each with a proof that the call does what its function says. No conditions beyond each theorem's own. -/
namespace Go.Proofs.Ytcgimjoebkeifaa.PQ
open Go.RowKit Go.Proofs.YtcgimjoebkeifaaW.PrintWords Go.Proofs.YtcgimjoebkeifaaW.PrintLast Go.Proofs.YtcgimjoebkeifaaW.PrintMore
attribute [local go_sem] max2_int min2_int max_two min_two max_three min_three max_four min_four   -- for this text's walks alone
set_option linter.unusedVariables false
set_option linter.unusedSimpArgs false

theorem eqA63 (d : Nat) (w : World) (x0 y0 : Int) (x1 y1 : Int) :
    (Op.equalIn (d + 2) 63 (.agg #[.int .i64 x0, .int .i64 x1]) (.agg #[.int .i64 y0, .int .i64 y1])).run Try.prog w = .ok (x0 == y0 && (x1 == y1)) w := by
  refine eqA_of Try.underlying63 (by kernel_rfl) ?_
  refine eqf_cons (by rfl) (by go_simp; rfl) (by go_simp; rfl) (by go_simp) ?_
  exact eqf_last (by rfl) (by go_simp; rfl) (by go_simp; rfl) (by go_simp)
end Go.Proofs.Ytcgimjoebkeifaa.PQ

/- Written by a program of this session (wip/patch_print.py): Go functions as Lean functions, each with a proof that the call does what its function says. No conditions beyond each theorem's own. -/
namespace Go.Proofs.Ytcgimjoebkeifaa.PQ
open Go.RowKit Go.Proofs.YtcgimjoebkeifaaW.PrintWords Go.Proofs.YtcgimjoebkeifaaW.PrintLast Go.Proofs.YtcgimjoebkeifaaW.PrintMore
attribute [local go_sem] max2_int min2_int max_two min_two max_three min_three max_four min_four   -- for this text's walks alone
set_option linter.unusedVariables false
set_option linter.unusedSimpArgs false

attribute [local go_sem high] eqA63
/-! ### lookoutref31_Same: function 14 -/
mutual
def lookoutref31_Same.j0 : Nat → Bool → Int → Int → Int → List (S63) → Int → Int → Int → List (S63) → Option (Bool)
  | 0, _, _, _, _, _, _, _, _, _ => none
  | k + 1, x33, x190000, x190001, x190002, x190003, x191000, x191001, x191002, x191003 => if x33 = true then (some false) else (lookoutref31_Same.l0 k 0 x190000 x190001 x190002 x190003 x191000 x191001 x191002 x191003)
def lookoutref31_Same.l0 : Nat → Int → Int → Int → Int → List (S63) → Int → Int → Int → List (S63) → Option (Bool)
  | 0, _, _, _, _, _, _, _, _, _ => none
  | k + 1, x5, x190000, x190001, x190002, x190003, x191000, x191001, x191002, x191003 => if x5 < (x190003.length : Int) then (if 0 ≤ x5 then (if x5 < (x191003.length : Int) then (if (!(((rd_T63 x190003 x5).f0) == ((rd_T63 x191003 x5).f0)) || (!(((rd_T63 x190003 x5).f1) == ((rd_T63 x191003 x5).f1)))) = true then (some false) else (lookoutref31_Same.l0 k (wrap64 (x5 + 1)) x190000 x190001 x190002 x190003 x191000 x191001 x191002 x191003)) else (none)) else (none)) else (some true)
end
def lookoutref31_Same.f (k : Nat) (a0_0 : Int) (a0_1 : Int) (a0_2 : Int) (l0_3 : List (S63)) (a1_0 : Int) (a1_1 : Int) (a1_2 : Int) (l1_3 : List (S63)) : Option (Bool) := if a0_0 = a1_0 then (if a0_1 = a1_1 then (if a0_2 = a1_2 then (lookoutref31_Same.j0 k ((l0_3.length : Int) != (l1_3.length : Int)) a0_0 a0_1 a0_2 l0_3 a1_0 a1_1 a1_2 l1_3) else (lookoutref31_Same.j0 k true a0_0 a0_1 a0_2 l0_3 a1_0 a1_1 a1_2 l1_3)) else (lookoutref31_Same.j0 k true a0_0 a0_1 a0_2 l0_3 a1_0 a1_1 a1_2 l1_3)) else (lookoutref31_Same.j0 k true a0_0 a0_1 a0_2 l0_3 a1_0 a1_1 a1_2 l1_3)
theorem lookoutref31_Same.mono_l : ∀ k, (∀ y0 y1 y2 y3 y4 y5 y6 y7 y8, LeO (lookoutref31_Same.j0 k y0 y1 y2 y3 y4 y5 y6 y7 y8) (lookoutref31_Same.j0 (k + 1) y0 y1 y2 y3 y4 y5 y6 y7 y8)) ∧ (∀ y0 y1 y2 y3 y4 y5 y6 y7 y8, LeO (lookoutref31_Same.l0 k y0 y1 y2 y3 y4 y5 y6 y7 y8) (lookoutref31_Same.l0 (k + 1) y0 y1 y2 y3 y4 y5 y6 y7 y8))
  | 0 => ⟨fun _ _ _ _ _ _ _ _ _ r h => by simp [lookoutref31_Same.j0] at h, fun _ _ _ _ _ _ _ _ _ r h => by simp [lookoutref31_Same.l0] at h⟩
  | k + 1 => by
    obtain ⟨ih0, ih1⟩ := lookoutref31_Same.mono_l k
    refine ⟨?_, ?_⟩
    · intro y0 y1 y2 y3 y4 y5 y6 y7 y8
      unfold lookoutref31_Same.j0
      repeat' first
      | (with_reducible exact ih0 _ _ _ _ _ _ _ _ _)
      | (with_reducible exact ih1 _ _ _ _ _ _ _ _ _)
      | (with_reducible exact LeO.refl _)
      | (with_reducible exact LeO.none _)
      | (with_reducible refine LeO.ite ?_ ?_)
      | (with_reducible refine LeO.bind ?_ (fun _ => ?_))
      | exact ih0 _ _ _ _ _ _ _ _ _
      | exact ih1 _ _ _ _ _ _ _ _ _
      | exact LeO.none _
      | refine LeO.ite ?_ ?_
      | refine LeO.bind ?_ (fun _ => ?_)
    · intro y0 y1 y2 y3 y4 y5 y6 y7 y8
      unfold lookoutref31_Same.l0
      repeat' first
      | (with_reducible exact ih0 _ _ _ _ _ _ _ _ _)
      | (with_reducible exact ih1 _ _ _ _ _ _ _ _ _)
      | (with_reducible exact LeO.refl _)
      | (with_reducible exact LeO.none _)
      | (with_reducible refine LeO.ite ?_ ?_)
      | (with_reducible refine LeO.bind ?_ (fun _ => ?_))
      | exact ih0 _ _ _ _ _ _ _ _ _
      | exact ih1 _ _ _ _ _ _ _ _ _
      | exact LeO.none _
      | refine LeO.ite ?_ ?_
      | refine LeO.bind ?_ (fun _ => ?_)
theorem lookoutref31_Same.mono : ∀ a0 a1 a2 a3 a4 a5 a6 a7 k, LeO (lookoutref31_Same.f k a0 a1 a2 a3 a4 a5 a6 a7) (lookoutref31_Same.f (k + 1) a0 a1 a2 a3 a4 a5 a6 a7) := by
  intro a0 a1 a2 a3 a4 a5 a6 a7 k
  obtain ⟨ih0, ih1⟩ := lookoutref31_Same.mono_l k
  unfold lookoutref31_Same.f
  repeat' first
      | (with_reducible exact ih0 _ _ _ _ _ _ _ _ _)
      | (with_reducible exact ih1 _ _ _ _ _ _ _ _ _)
      | (with_reducible exact LeO.refl _)
      | (with_reducible exact LeO.none _)
      | (with_reducible refine LeO.ite ?_ ?_)
      | (with_reducible refine LeO.bind ?_ (fun _ => ?_))
      | exact ih0 _ _ _ _ _ _ _ _ _
      | exact ih1 _ _ _ _ _ _ _ _ _
      | exact LeO.none _
      | refine LeO.ite ?_ ?_
      | refine LeO.bind ?_ (fun _ => ?_)
set_option maxHeartbeats 8000000 in
set_option maxRecDepth 100000 in
theorem lookoutref31_Same.calls (k : Nat) (a0_0 : Int) (a0_1 : Int) (a0_2 : Int) (A0_3 : Option Addr) (c0_3 : Nat) (l0_3 : List (S63)) (a1_0 : Int) (a1_1 : Int) (a1_2 : Int) (A1_3 : Option Addr) (c1_3 : Nat) (l1_3 : List (S63)) (r : Bool) (w : World) (hr0_3 : Kd.C k63 w A0_3 l0_3.length l0_3) (hc0_3 : l0_3.length ≤ c0_3) (hr1_3 : Kd.C k63 w A1_3 l1_3.length l1_3) (hc1_3 : l1_3.length ≤ c1_3) (h : lookoutref31_Same.f k a0_0 a0_1 a0_2 l0_3 a1_0 a1_1 a1_2 l1_3 = some r) :
    Calls Try.prog 14 #[.agg #[.int .i64 a0_0, .int .i64 a0_1, .int .i64 a0_2, .slice A0_3 l0_3.length c0_3], .agg #[.int .i64 a1_0, .int .i64 a1_1, .int .i64 a1_2, .slice A1_3 l1_3.length c1_3]] w fun e w' => e = .returned (.bool r) ∧ Below w.heap.size w w' := by
  have hu24 := Try.underlying24
  have hu63 := Try.underlying63
  have HR0_3 := Aside0.mk hr0_3
  have HC0_3 := Aside0.mk hc0_3
  clear hr0_3 hc0_3
  have HR1_3 := Aside0.mk hr1_3
  have HC1_3 := Aside0.mk hc1_3
  clear hr1_3 hc1_3
  have HB := Aside0.mk (Below.refl w.heap.size w)
  have H : (if a0_0 = a1_0 then (if a0_1 = a1_1 then (if a0_2 = a1_2 then (lookoutref31_Same.j0 k ((l0_3.length : Int) != (l1_3.length : Int)) a0_0 a0_1 a0_2 l0_3 a1_0 a1_1 a1_2 l1_3) else (lookoutref31_Same.j0 k true a0_0 a0_1 a0_2 l0_3 a1_0 a1_1 a1_2 l1_3)) else (lookoutref31_Same.j0 k true a0_0 a0_1 a0_2 l0_3 a1_0 a1_1 a1_2 l1_3)) else (lookoutref31_Same.j0 k true a0_0 a0_1 a0_2 l0_3 a1_0 a1_1 a1_2 l1_3)) = some r := h
  clear h
  have HC3 := Aside0.mk H
  clear H
  go_enter Try.func14, Try.ntmps14
  go_upto_region 1 with (first | ((with_reducible refine gate_dst (N := 2) rfl ?_); (try (refine gate_guard (by rfl) ?_; dsimp only)); refine box_event ?hg (N := 2) ?hd (cs := #[.int .i64 a0_0, .int .i64 a0_1, .int .i64 a0_2, .slice A0_3 l0_3.length c0_3]) (t := 24) ?hr ?_; (case hd => rfl); (case hg => rfl); (case hr => first | (go_simp; done) | (go_simp; rfl)); intro gb189 hg w4 hbox hb; have n0_ := Aside0.mk (below_step (by repeat (first | (with_reducible first | exact HB.out | apply below_alloc | apply pw_below_drewN | apply below_drew1) | exact HB.out)) hb); have n1_ := Aside0.mk (hbox); have n2_ := Aside0.mk ((by rw [hg]; exact (below_size (by repeat (first | (with_reducible first | exact HB.out | apply below_alloc | apply pw_below_drewN | apply below_drew1) | exact HB.out))) : w.heap.size ≤ gb189)); have n3_ := Aside0.mk ((by rw [hg]; exact (below_size (by repeat (first | (with_reducible first | exact HB.out | apply below_alloc | apply pw_below_drewN | apply below_drew1) | exact HB.out))) : w.heap.size ≤ gb189)); clear HB; have HB := n0_; have BK189 := n1_; have GW189 := n2_; have GE189 := n3_; clear n0_ n1_ n2_ n3_; clear hb hbox hg) | ((with_reducible refine gate_dst (N := 3) rfl ?_); (try (refine gate_guard (by rfl) ?_; dsimp only)); refine box_event ?hg (N := 3) ?hd (cs := #[.int .i64 a1_0, .int .i64 a1_1, .int .i64 a1_2, .slice A1_3 l1_3.length c1_3]) (t := 24) ?hr ?_; (case hd => rfl); (case hg => rfl); (case hr => first | (go_simp; done) | (go_simp; rfl)); intro gb190 hg w5 hbox hb; have n0_ := Aside0.mk (blk_below (g := gb189) (o := .cells #[.int .i64 a0_0, .int .i64 a0_1, .int .i64 a0_2, .slice A0_3 l0_3.length c0_3] 24 (0, 0)) (by (with_reducible repeat (first | refine blk_drewN ?_ _ | refine blk_drew ?_ | refine blk_alloc ?_ _)); exact BK189.out) hb); have n1_ := Aside0.mk (below_step (by repeat (first | (with_reducible first | exact HB.out | apply below_alloc | apply pw_below_drewN | apply below_drew1 | refine below_set ?_ GE189.out) | exact HB.out)) hb); have n2_ := Aside0.mk (hbox); have n3_ := Aside0.mk ((by rw [hg]; exact (below_size (by repeat (first | (with_reducible first | exact HB.out | apply below_alloc | apply pw_below_drewN | apply below_drew1 | refine below_set ?_ GE189.out) | exact HB.out))) : w.heap.size ≤ gb190)); have n4_ := Aside0.mk ((by rw [hg]; exact (below_size (by repeat (first | (with_reducible first | exact HB.out | apply below_alloc | apply pw_below_drewN | apply below_drew1 | refine below_set ?_ GE189.out) | exact HB.out))) : w.heap.size ≤ gb190)); have n5_ := Aside0.mk ((by rw [hg]; exact Nat.ne_of_lt (blk_lt (g := gb189) (o := .cells #[.int .i64 a0_0, .int .i64 a0_1, .int .i64 a0_2, .slice A0_3 l0_3.length c0_3] 24 (0, 0)) (by (with_reducible repeat (first | refine blk_drewN ?_ _ | refine blk_drew ?_ | refine blk_alloc ?_ _)); exact BK189.out)) : gb189 ≠ gb190)); have n6_ := Aside0.mk ((by rw [hg]; exact Nat.ne_of_gt (blk_lt (g := gb189) (o := .cells #[.int .i64 a0_0, .int .i64 a0_1, .int .i64 a0_2, .slice A0_3 l0_3.length c0_3] 24 (0, 0)) (by (with_reducible repeat (first | refine blk_drewN ?_ _ | refine blk_drew ?_ | refine blk_alloc ?_ _)); exact BK189.out)) : gb190 ≠ gb189)); clear BK189; clear HB; have BK189 := n0_; have HB := n1_; have BK190 := n2_; have GW190 := n3_; have GE190 := n4_; have NB189_190 := n5_; have NB190_189 := n6_; clear n0_ n1_ n2_ n3_ n4_ n5_ n6_; clear hb hbox hg))
  repeat (go_quiet (first | ((with_reducible refine gate_dst (N := 2) rfl ?_); (try (refine gate_guard (by rfl) ?_; dsimp only)); refine box_event ?hg (N := 2) ?hd (cs := #[.int .i64 a0_0, .int .i64 a0_1, .int .i64 a0_2, .slice A0_3 l0_3.length c0_3]) (t := 24) ?hr ?_; (case hd => rfl); (case hg => rfl); (case hr => first | (go_simp; done) | (go_simp; rfl)); intro gb189 hg w4 hbox hb; have n0_ := Aside0.mk (below_step (by repeat (first | (with_reducible first | exact HB.out | apply below_alloc | apply pw_below_drewN | apply below_drew1) | exact HB.out)) hb); have n1_ := Aside0.mk (hbox); have n2_ := Aside0.mk ((by rw [hg]; exact (below_size (by repeat (first | (with_reducible first | exact HB.out | apply below_alloc | apply pw_below_drewN | apply below_drew1) | exact HB.out))) : w.heap.size ≤ gb189)); have n3_ := Aside0.mk ((by rw [hg]; exact (below_size (by repeat (first | (with_reducible first | exact HB.out | apply below_alloc | apply pw_below_drewN | apply below_drew1) | exact HB.out))) : w.heap.size ≤ gb189)); clear HB; have HB := n0_; have BK189 := n1_; have GW189 := n2_; have GE189 := n3_; clear n0_ n1_ n2_ n3_; clear hb hbox hg) | ((with_reducible refine gate_dst (N := 3) rfl ?_); (try (refine gate_guard (by rfl) ?_; dsimp only)); refine box_event ?hg (N := 3) ?hd (cs := #[.int .i64 a1_0, .int .i64 a1_1, .int .i64 a1_2, .slice A1_3 l1_3.length c1_3]) (t := 24) ?hr ?_; (case hd => rfl); (case hg => rfl); (case hr => first | (go_simp; done) | (go_simp; rfl)); intro gb190 hg w5 hbox hb; have n0_ := Aside0.mk (blk_below (g := gb189) (o := .cells #[.int .i64 a0_0, .int .i64 a0_1, .int .i64 a0_2, .slice A0_3 l0_3.length c0_3] 24 (0, 0)) (by (with_reducible repeat (first | refine blk_drewN ?_ _ | refine blk_drew ?_ | refine blk_alloc ?_ _)); exact BK189.out) hb); have n1_ := Aside0.mk (below_step (by repeat (first | (with_reducible first | exact HB.out | apply below_alloc | apply pw_below_drewN | apply below_drew1 | refine below_set ?_ GE189.out) | exact HB.out)) hb); have n2_ := Aside0.mk (hbox); have n3_ := Aside0.mk ((by rw [hg]; exact (below_size (by repeat (first | (with_reducible first | exact HB.out | apply below_alloc | apply pw_below_drewN | apply below_drew1 | refine below_set ?_ GE189.out) | exact HB.out))) : w.heap.size ≤ gb190)); have n4_ := Aside0.mk ((by rw [hg]; exact (below_size (by repeat (first | (with_reducible first | exact HB.out | apply below_alloc | apply pw_below_drewN | apply below_drew1 | refine below_set ?_ GE189.out) | exact HB.out))) : w.heap.size ≤ gb190)); have n5_ := Aside0.mk ((by rw [hg]; exact Nat.ne_of_lt (blk_lt (g := gb189) (o := .cells #[.int .i64 a0_0, .int .i64 a0_1, .int .i64 a0_2, .slice A0_3 l0_3.length c0_3] 24 (0, 0)) (by (with_reducible repeat (first | refine blk_drewN ?_ _ | refine blk_drew ?_ | refine blk_alloc ?_ _)); exact BK189.out)) : gb189 ≠ gb190)); have n6_ := Aside0.mk ((by rw [hg]; exact Nat.ne_of_gt (blk_lt (g := gb189) (o := .cells #[.int .i64 a0_0, .int .i64 a0_1, .int .i64 a0_2, .slice A0_3 l0_3.length c0_3] 24 (0, 0)) (by (with_reducible repeat (first | refine blk_drewN ?_ _ | refine blk_drew ?_ | refine blk_alloc ?_ _)); exact BK189.out)) : gb190 ≠ gb189)); clear BK189; clear HB; have BK189 := n0_; have HB := n1_; have BK190 := n2_; have GW190 := n3_; have GE190 := n4_; have NB189_190 := n5_; have NB190_189 := n6_; clear n0_ n1_ n2_ n3_ n4_ n5_ n6_; clear hb hbox hg)); go_upto_region 1 with (first | ((with_reducible refine gate_dst (N := 2) rfl ?_); (try (refine gate_guard (by rfl) ?_; dsimp only)); refine box_event ?hg (N := 2) ?hd (cs := #[.int .i64 a0_0, .int .i64 a0_1, .int .i64 a0_2, .slice A0_3 l0_3.length c0_3]) (t := 24) ?hr ?_; (case hd => rfl); (case hg => rfl); (case hr => first | (go_simp; done) | (go_simp; rfl)); intro gb189 hg w4 hbox hb; have n0_ := Aside0.mk (below_step (by repeat (first | (with_reducible first | exact HB.out | apply below_alloc | apply pw_below_drewN | apply below_drew1) | exact HB.out)) hb); have n1_ := Aside0.mk (hbox); have n2_ := Aside0.mk ((by rw [hg]; exact (below_size (by repeat (first | (with_reducible first | exact HB.out | apply below_alloc | apply pw_below_drewN | apply below_drew1) | exact HB.out))) : w.heap.size ≤ gb189)); have n3_ := Aside0.mk ((by rw [hg]; exact (below_size (by repeat (first | (with_reducible first | exact HB.out | apply below_alloc | apply pw_below_drewN | apply below_drew1) | exact HB.out))) : w.heap.size ≤ gb189)); clear HB; have HB := n0_; have BK189 := n1_; have GW189 := n2_; have GE189 := n3_; clear n0_ n1_ n2_ n3_; clear hb hbox hg) | ((with_reducible refine gate_dst (N := 3) rfl ?_); (try (refine gate_guard (by rfl) ?_; dsimp only)); refine box_event ?hg (N := 3) ?hd (cs := #[.int .i64 a1_0, .int .i64 a1_1, .int .i64 a1_2, .slice A1_3 l1_3.length c1_3]) (t := 24) ?hr ?_; (case hd => rfl); (case hg => rfl); (case hr => first | (go_simp; done) | (go_simp; rfl)); intro gb190 hg w5 hbox hb; have n0_ := Aside0.mk (blk_below (g := gb189) (o := .cells #[.int .i64 a0_0, .int .i64 a0_1, .int .i64 a0_2, .slice A0_3 l0_3.length c0_3] 24 (0, 0)) (by (with_reducible repeat (first | refine blk_drewN ?_ _ | refine blk_drew ?_ | refine blk_alloc ?_ _)); exact BK189.out) hb); have n1_ := Aside0.mk (below_step (by repeat (first | (with_reducible first | exact HB.out | apply below_alloc | apply pw_below_drewN | apply below_drew1 | refine below_set ?_ GE189.out) | exact HB.out)) hb); have n2_ := Aside0.mk (hbox); have n3_ := Aside0.mk ((by rw [hg]; exact (below_size (by repeat (first | (with_reducible first | exact HB.out | apply below_alloc | apply pw_below_drewN | apply below_drew1 | refine below_set ?_ GE189.out) | exact HB.out))) : w.heap.size ≤ gb190)); have n4_ := Aside0.mk ((by rw [hg]; exact (below_size (by repeat (first | (with_reducible first | exact HB.out | apply below_alloc | apply pw_below_drewN | apply below_drew1 | refine below_set ?_ GE189.out) | exact HB.out))) : w.heap.size ≤ gb190)); have n5_ := Aside0.mk ((by rw [hg]; exact Nat.ne_of_lt (blk_lt (g := gb189) (o := .cells #[.int .i64 a0_0, .int .i64 a0_1, .int .i64 a0_2, .slice A0_3 l0_3.length c0_3] 24 (0, 0)) (by (with_reducible repeat (first | refine blk_drewN ?_ _ | refine blk_drew ?_ | refine blk_alloc ?_ _)); exact BK189.out)) : gb189 ≠ gb190)); have n6_ := Aside0.mk ((by rw [hg]; exact Nat.ne_of_gt (blk_lt (g := gb189) (o := .cells #[.int .i64 a0_0, .int .i64 a0_1, .int .i64 a0_2, .slice A0_3 l0_3.length c0_3] 24 (0, 0)) (by (with_reducible repeat (first | refine blk_drewN ?_ _ | refine blk_drew ?_ | refine blk_alloc ?_ _)); exact BK189.out)) : gb190 ≠ gb189)); clear BK189; clear HB; have BK189 := n0_; have HB := n1_; have BK190 := n2_; have GW190 := n3_; have GE190 := n4_; have NB189_190 := n5_; have NB190_189 := n6_; clear n0_ n1_ n2_ n3_ n4_ n5_ n6_; clear hb hbox hg)))
  (try simp only [Act.put, List.setIfInBounds_toArray, List.set_cons_zero, List.set_cons_succ])
  go_cut [33] (fun v33 wc => ∃ (kq : Nat) (x33_2 : Bool), v33 = .bool x33_2 ∧ Aside0 (lookoutref31_Same.j0 kq x33_2 a0_0 a0_1 a0_2 l0_3 a1_0 a1_1 a1_2 l1_3 = some r) ∧ Aside0 (kq ≤ k) ∧ Aside0 (wc.heap[gb189]? = some (.cells #[.int .i64 a0_0, .int .i64 a0_1, .int .i64 a0_2, (.slice A0_3 l0_3.length c0_3)] 24 (0, 0))) ∧ Aside0 (wc.heap[gb190]? = some (.cells #[.int .i64 a1_0, .int .i64 a1_1, .int .i64 a1_2, (.slice A1_3 l1_3.length c1_3)] 24 (0, 0))) ∧ Aside0 (Below w.heap.size w wc))
  case first =>
    have H := HC3.out
    clear HC3
    by_cases c6 : a0_0 = a1_0
    · rw [if_pos c6] at H
      have c6b0 : (a0_0 == a1_0) = true := beq_iff_eq.mpr c6
      have c6b1 : (a0_0 != a1_0) = false := bne_eq_false_iff_eq.mpr c6
      clear c6
      (first | rw [c6b0] | (simp only [i64_w, i32_w]; rw [c6b0]) | skip)
      by_cases c7 : a0_1 = a1_1
      · rw [if_pos c7] at H
        have c7b0 : (a0_1 == a1_1) = true := beq_iff_eq.mpr c7
        have c7b1 : (a0_1 != a1_1) = false := bne_eq_false_iff_eq.mpr c7
        clear c7
        by_cases c8 : a0_2 = a1_2
        · rw [if_pos c8] at H
          have c8b0 : (a0_2 == a1_2) = true := beq_iff_eq.mpr c8
          have c8b1 : (a0_2 != a1_2) = false := bne_eq_false_iff_eq.mpr c8
          clear c8
          have H' := Aside0.mk H
          clear H
          have hnb9 := NB189_190.out
          have hnc9 := NB190_189.out
          have hcz10_0 : w5.cell? ⟨gb189, 0, none⟩ = some (.int .i64 a0_0) := (blk_cell BK189.out 0).trans rfl
          have hcz10_1 : w5.cell? ⟨gb189, 1, none⟩ = some (.int .i64 a0_1) := (blk_cell BK189.out 1).trans rfl
          have hcz10_2 : w5.cell? ⟨gb189, 2, none⟩ = some (.int .i64 a0_2) := (blk_cell BK189.out 2).trans rfl
          have hcz10_3 : w5.cell? ⟨gb189, 3, none⟩ = some (.slice A0_3 l0_3.length c0_3) := (blk_cell BK189.out 3).trans rfl
          have hfz10_0 := blk_frozen BK189.out 0
          have hfz10_1 := blk_frozen BK189.out 1
          have hfz10_2 := blk_frozen BK189.out 2
          have hfz10_3 := blk_frozen BK189.out 3
          have hcz11_0 : w5.cell? ⟨gb190, 0, none⟩ = some (.int .i64 a1_0) := (blk_cell BK190.out 0).trans rfl
          have hcz11_1 : w5.cell? ⟨gb190, 1, none⟩ = some (.int .i64 a1_1) := (blk_cell BK190.out 1).trans rfl
          have hcz11_2 : w5.cell? ⟨gb190, 2, none⟩ = some (.int .i64 a1_2) := (blk_cell BK190.out 2).trans rfl
          have hcz11_3 : w5.cell? ⟨gb190, 3, none⟩ = some (.slice A1_3 l1_3.length c1_3) := (blk_cell BK190.out 3).trans rfl
          have hfz11_0 := blk_frozen BK190.out 0
          have hfz11_1 := blk_frozen BK190.out 1
          have hfz11_2 := blk_frozen BK190.out 2
          have hfz11_3 := blk_frozen BK190.out 3
          go_wp2
          repeat (go_quiet (fail); try go_wp2)
          go_meet
          case rel => exact ⟨_, (((l0_3.length : Int) != (l1_3.length : Int))), (by first | rfl | (simp; done) | (simp [*]; done)), H', ⟨by first | omega | exact Nat.le_refl _⟩, ⟨by (with_reducible repeat (first | refine blk_drewN ?_ _ | refine blk_drew ?_ | refine blk_alloc ?_ _)); exact BK189.out⟩, ⟨by (with_reducible repeat (first | refine blk_drewN ?_ _ | refine blk_drew ?_ | refine blk_alloc ?_ _)); exact BK190.out⟩, ⟨by repeat (first | (with_reducible first | exact HB.out | apply below_alloc | apply pw_below_drewN | apply below_drew1 | refine below_set ?_ GE189.out | refine below_set ?_ GE190.out) | exact HB.out)⟩⟩
        · rw [if_neg c8] at H
          have c8b0 : (a0_2 == a1_2) = false := beq_eq_false_iff_ne.mpr c8
          have c8b1 : (a0_2 != a1_2) = true := bne_iff_ne.mpr c8
          have H' := Aside0.mk H
          clear H
          have hnb12 := NB189_190.out
          have hnc12 := NB190_189.out
          have hcz13_0 : w5.cell? ⟨gb189, 0, none⟩ = some (.int .i64 a0_0) := (blk_cell BK189.out 0).trans rfl
          have hcz13_1 : w5.cell? ⟨gb189, 1, none⟩ = some (.int .i64 a0_1) := (blk_cell BK189.out 1).trans rfl
          have hcz13_2 : w5.cell? ⟨gb189, 2, none⟩ = some (.int .i64 a0_2) := (blk_cell BK189.out 2).trans rfl
          have hcz13_3 : w5.cell? ⟨gb189, 3, none⟩ = some (.slice A0_3 l0_3.length c0_3) := (blk_cell BK189.out 3).trans rfl
          have hfz13_0 := blk_frozen BK189.out 0
          have hfz13_1 := blk_frozen BK189.out 1
          have hfz13_2 := blk_frozen BK189.out 2
          have hfz13_3 := blk_frozen BK189.out 3
          have hcz14_0 : w5.cell? ⟨gb190, 0, none⟩ = some (.int .i64 a1_0) := (blk_cell BK190.out 0).trans rfl
          have hcz14_1 : w5.cell? ⟨gb190, 1, none⟩ = some (.int .i64 a1_1) := (blk_cell BK190.out 1).trans rfl
          have hcz14_2 : w5.cell? ⟨gb190, 2, none⟩ = some (.int .i64 a1_2) := (blk_cell BK190.out 2).trans rfl
          have hcz14_3 : w5.cell? ⟨gb190, 3, none⟩ = some (.slice A1_3 l1_3.length c1_3) := (blk_cell BK190.out 3).trans rfl
          have hfz14_0 := blk_frozen BK190.out 0
          have hfz14_1 := blk_frozen BK190.out 1
          have hfz14_2 := blk_frozen BK190.out 2
          have hfz14_3 := blk_frozen BK190.out 3
          go_wp2
          repeat (go_quiet (fail); try go_wp2)
          go_meet
          case rel => exact ⟨_, (true), (by first | rfl | (simp; done) | (simp [*]; done)), H', ⟨by first | omega | exact Nat.le_refl _⟩, ⟨by (with_reducible repeat (first | refine blk_drewN ?_ _ | refine blk_drew ?_ | refine blk_alloc ?_ _)); exact BK189.out⟩, ⟨by (with_reducible repeat (first | refine blk_drewN ?_ _ | refine blk_drew ?_ | refine blk_alloc ?_ _)); exact BK190.out⟩, ⟨by repeat (first | (with_reducible first | exact HB.out | apply below_alloc | apply pw_below_drewN | apply below_drew1 | refine below_set ?_ GE189.out | refine below_set ?_ GE190.out) | exact HB.out)⟩⟩
      · rw [if_neg c7] at H
        have c7b0 : (a0_1 == a1_1) = false := beq_eq_false_iff_ne.mpr c7
        have c7b1 : (a0_1 != a1_1) = true := bne_iff_ne.mpr c7
        have H' := Aside0.mk H
        clear H
        have hnb15 := NB189_190.out
        have hnc15 := NB190_189.out
        have hcz16_0 : w5.cell? ⟨gb189, 0, none⟩ = some (.int .i64 a0_0) := (blk_cell BK189.out 0).trans rfl
        have hcz16_1 : w5.cell? ⟨gb189, 1, none⟩ = some (.int .i64 a0_1) := (blk_cell BK189.out 1).trans rfl
        have hcz16_2 : w5.cell? ⟨gb189, 2, none⟩ = some (.int .i64 a0_2) := (blk_cell BK189.out 2).trans rfl
        have hcz16_3 : w5.cell? ⟨gb189, 3, none⟩ = some (.slice A0_3 l0_3.length c0_3) := (blk_cell BK189.out 3).trans rfl
        have hfz16_0 := blk_frozen BK189.out 0
        have hfz16_1 := blk_frozen BK189.out 1
        have hfz16_2 := blk_frozen BK189.out 2
        have hfz16_3 := blk_frozen BK189.out 3
        have hcz17_0 : w5.cell? ⟨gb190, 0, none⟩ = some (.int .i64 a1_0) := (blk_cell BK190.out 0).trans rfl
        have hcz17_1 : w5.cell? ⟨gb190, 1, none⟩ = some (.int .i64 a1_1) := (blk_cell BK190.out 1).trans rfl
        have hcz17_2 : w5.cell? ⟨gb190, 2, none⟩ = some (.int .i64 a1_2) := (blk_cell BK190.out 2).trans rfl
        have hcz17_3 : w5.cell? ⟨gb190, 3, none⟩ = some (.slice A1_3 l1_3.length c1_3) := (blk_cell BK190.out 3).trans rfl
        have hfz17_0 := blk_frozen BK190.out 0
        have hfz17_1 := blk_frozen BK190.out 1
        have hfz17_2 := blk_frozen BK190.out 2
        have hfz17_3 := blk_frozen BK190.out 3
        go_wp2
        repeat (go_quiet (fail); try go_wp2)
        go_meet
        case rel => exact ⟨_, (true), (by first | rfl | (simp; done) | (simp [*]; done)), H', ⟨by first | omega | exact Nat.le_refl _⟩, ⟨by (with_reducible repeat (first | refine blk_drewN ?_ _ | refine blk_drew ?_ | refine blk_alloc ?_ _)); exact BK189.out⟩, ⟨by (with_reducible repeat (first | refine blk_drewN ?_ _ | refine blk_drew ?_ | refine blk_alloc ?_ _)); exact BK190.out⟩, ⟨by repeat (first | (with_reducible first | exact HB.out | apply below_alloc | apply pw_below_drewN | apply below_drew1 | refine below_set ?_ GE189.out | refine below_set ?_ GE190.out) | exact HB.out)⟩⟩
    · rw [if_neg c6] at H
      have c6b0 : (a0_0 == a1_0) = false := beq_eq_false_iff_ne.mpr c6
      have c6b1 : (a0_0 != a1_0) = true := bne_iff_ne.mpr c6
      (first | rw [c6b0] | (simp only [i64_w, i32_w]; rw [c6b0]) | skip)
      have H' := Aside0.mk H
      clear H
      have hnb18 := NB189_190.out
      have hnc18 := NB190_189.out
      have hcz19_0 : w5.cell? ⟨gb189, 0, none⟩ = some (.int .i64 a0_0) := (blk_cell BK189.out 0).trans rfl
      have hcz19_1 : w5.cell? ⟨gb189, 1, none⟩ = some (.int .i64 a0_1) := (blk_cell BK189.out 1).trans rfl
      have hcz19_2 : w5.cell? ⟨gb189, 2, none⟩ = some (.int .i64 a0_2) := (blk_cell BK189.out 2).trans rfl
      have hcz19_3 : w5.cell? ⟨gb189, 3, none⟩ = some (.slice A0_3 l0_3.length c0_3) := (blk_cell BK189.out 3).trans rfl
      have hfz19_0 := blk_frozen BK189.out 0
      have hfz19_1 := blk_frozen BK189.out 1
      have hfz19_2 := blk_frozen BK189.out 2
      have hfz19_3 := blk_frozen BK189.out 3
      have hcz20_0 : w5.cell? ⟨gb190, 0, none⟩ = some (.int .i64 a1_0) := (blk_cell BK190.out 0).trans rfl
      have hcz20_1 : w5.cell? ⟨gb190, 1, none⟩ = some (.int .i64 a1_1) := (blk_cell BK190.out 1).trans rfl
      have hcz20_2 : w5.cell? ⟨gb190, 2, none⟩ = some (.int .i64 a1_2) := (blk_cell BK190.out 2).trans rfl
      have hcz20_3 : w5.cell? ⟨gb190, 3, none⟩ = some (.slice A1_3 l1_3.length c1_3) := (blk_cell BK190.out 3).trans rfl
      have hfz20_0 := blk_frozen BK190.out 0
      have hfz20_1 := blk_frozen BK190.out 1
      have hfz20_2 := blk_frozen BK190.out 2
      have hfz20_3 := blk_frozen BK190.out 3
      go_wp2
      repeat (go_quiet (fail); try go_wp2)
      go_meet
      case rel => exact ⟨_, (true), (by first | rfl | (simp; done) | (simp [*]; done)), H', ⟨by first | omega | exact Nat.le_refl _⟩, ⟨by (with_reducible repeat (first | refine blk_drewN ?_ _ | refine blk_drew ?_ | refine blk_alloc ?_ _)); exact BK189.out⟩, ⟨by (with_reducible repeat (first | refine blk_drewN ?_ _ | refine blk_drew ?_ | refine blk_alloc ?_ _)); exact BK190.out⟩, ⟨by repeat (first | (with_reducible first | exact HB.out | apply below_alloc | apply pw_below_drewN | apply below_drew1 | refine below_set ?_ GE189.out | refine below_set ?_ GE190.out) | exact HB.out)⟩⟩
  case rest =>
    clear HC3
    try clear c1
    try clear p2
    try clear c6
    try clear c6b0
    try clear c6b1
    try clear c7
    try clear c7b0
    try clear c7b1
    try clear c8
    try clear c8b0
    try clear c8b1
    try clear c9
    try clear c12
    try clear c14
    try clear c15
    try clear c18
    try clear hcz10_0
    try clear hcz10_1
    try clear hcz10_2
    try clear hcz10_3
    try clear hcz11_0
    try clear hcz11_1
    try clear hcz11_2
    try clear hcz11_3
    try clear hcz13_0
    try clear hcz13_1
    try clear hcz13_2
    try clear hcz13_3
    try clear hcz14_0
    try clear hcz14_1
    try clear hcz14_2
    try clear hcz14_3
    try clear hcz16_0
    try clear hcz16_1
    try clear hcz16_2
    try clear hcz16_3
    try clear hcz17_0
    try clear hcz17_1
    try clear hcz17_2
    try clear hcz17_3
    try clear hcz19_0
    try clear hcz19_1
    try clear hcz19_2
    try clear hcz19_3
    try clear hcz20_0
    try clear hcz20_1
    try clear hcz20_2
    try clear hcz20_3
    try clear hfz10_0
    try clear hfz10_1
    try clear hfz10_2
    try clear hfz10_3
    try clear hfz11_0
    try clear hfz11_1
    try clear hfz11_2
    try clear hfz11_3
    try clear hfz13_0
    try clear hfz13_1
    try clear hfz13_2
    try clear hfz13_3
    try clear hfz14_0
    try clear hfz14_1
    try clear hfz14_2
    try clear hfz14_3
    try clear hfz16_0
    try clear hfz16_1
    try clear hfz16_2
    try clear hfz16_3
    try clear hfz17_0
    try clear hfz17_1
    try clear hfz17_2
    try clear hfz17_3
    try clear hfz19_0
    try clear hfz19_1
    try clear hfz19_2
    try clear hfz19_3
    try clear hfz20_0
    try clear hfz20_1
    try clear hfz20_2
    try clear hfz20_3
    obtain ⟨kq, x33_2, rfl, HA, HJ2, BK189, BK190, HB⟩ := hcut
    cases kq with
    | zero => exact absurd HA.out (by simp [lookoutref31_Same.j0])
    | succ kj2 =>
      have H := HA.out
      clear HA
      simp only [lookoutref31_Same.j0] at H
      by_cases c21 : x33_2 = true
      · subst c21
        have H1 : (some false) = some r := by rw [if_pos rfl] at H; exact H
        clear H
        have H := H1
        clear H1
        obtain rfl := Option.some.inj H
        go_wp2
        repeat (go_quiet (fail); try go_wp2)
        go_ret
        exact ⟨by first | rfl | (simp [errW_none, errW_some] <;> rfl) | (simp [*, errW_none, errW_some] <;> rfl), by repeat (first | (with_reducible first | exact HB.out | apply below_alloc | apply pw_below_drewN | apply below_drew1 | refine below_set ?_ GE189.out | refine below_set ?_ GE190.out) | exact HB.out)⟩
      · replace c21 := Bool.eq_false_iff.mpr c21
        subst c21
        have H1 : (lookoutref31_Same.l0 kj2 0 a0_0 a0_1 a0_2 l0_3 a1_0 a1_1 a1_2 l1_3) = some r := by rw [if_neg (show ¬ (false = true) by decide)] at H; exact H
        clear H
        have H := H1
        clear H1
        have H' := Aside0.mk H
        clear H
        go_wp2
        repeat (go_quiet (fail); try go_wp2)
        go_loopg [5] kj2 (fun kq v5 w' => ∃ (x5_2 : Int), v5 = .int .i64 x5_2 ∧ Aside0 (lookoutref31_Same.l0 kq x5_2 a0_0 a0_1 a0_2 l0_3 a1_0 a1_1 a1_2 l1_3 = some r) ∧ Aside0 (kq ≤ kj2) ∧ Aside0 (w'.heap[gb189]? = some (.cells #[.int .i64 a0_0, .int .i64 a0_1, .int .i64 a0_2, (.slice A0_3 l0_3.length c0_3)] 24 (0, 0))) ∧ Aside0 (w'.heap[gb190]? = some (.cells #[.int .i64 a1_0, .int .i64 a1_1, .int .i64 a1_2, (.slice A1_3 l1_3.length c1_3)] 24 (0, 0))) ∧ Aside0 (Below w.heap.size w w'))
        case atStart => exact ⟨(0), (by first | rfl | (simp; done) | (simp [*]; done)), H', ⟨Nat.le_refl _⟩, ⟨by (with_reducible repeat (first | refine blk_drewN ?_ _ | refine blk_drew ?_ | refine blk_alloc ?_ _)); exact BK189.out⟩, ⟨by (with_reducible repeat (first | refine blk_drewN ?_ _ | refine blk_drew ?_ | refine blk_alloc ?_ _)); exact BK190.out⟩, ⟨by repeat (first | (with_reducible first | exact HB.out | apply below_alloc | apply pw_below_drewN | apply below_drew1 | refine below_set ?_ GE189.out | refine below_set ?_ GE190.out) | exact HB.out)⟩⟩
        case round =>
          clear H'
          try clear c1
          try clear c2
          try clear p2
          try clear c6
          try clear c6b0
          try clear c6b1
          try clear c7
          try clear c7b0
          try clear c7b1
          try clear c8
          try clear c8b0
          try clear c8b1
          try clear c9
          try clear c12
          try clear c14
          try clear c15
          try clear c18
          try clear c21
          try clear hcz10_0
          try clear hcz10_1
          try clear hcz10_2
          try clear hcz10_3
          try clear hcz11_0
          try clear hcz11_1
          try clear hcz11_2
          try clear hcz11_3
          try clear hcz13_0
          try clear hcz13_1
          try clear hcz13_2
          try clear hcz13_3
          try clear hcz14_0
          try clear hcz14_1
          try clear hcz14_2
          try clear hcz14_3
          try clear hcz16_0
          try clear hcz16_1
          try clear hcz16_2
          try clear hcz16_3
          try clear hcz17_0
          try clear hcz17_1
          try clear hcz17_2
          try clear hcz17_3
          try clear hcz19_0
          try clear hcz19_1
          try clear hcz19_2
          try clear hcz19_3
          try clear hcz20_0
          try clear hcz20_1
          try clear hcz20_2
          try clear hcz20_3
          try clear hfz10_0
          try clear hfz10_1
          try clear hfz10_2
          try clear hfz10_3
          try clear hfz11_0
          try clear hfz11_1
          try clear hfz11_2
          try clear hfz11_3
          try clear hfz13_0
          try clear hfz13_1
          try clear hfz13_2
          try clear hfz13_3
          try clear hfz14_0
          try clear hfz14_1
          try clear hfz14_2
          try clear hfz14_3
          try clear hfz16_0
          try clear hfz16_1
          try clear hfz16_2
          try clear hfz16_3
          try clear hfz17_0
          try clear hfz17_1
          try clear hfz17_2
          try clear hfz17_3
          try clear hfz19_0
          try clear hfz19_1
          try clear hfz19_2
          try clear hfz19_3
          try clear hfz20_0
          try clear hfz20_1
          try clear hfz20_2
          try clear hfz20_3
          try clear p2
          obtain ⟨x5_2, rfl, HA, HK2, BK189, BK190, HB⟩ := hrel
          cases gk with
          | zero => exact absurd HA.out (by simp [lookoutref31_Same.l0])
          | succ k2 =>
            have H := HA.out
            clear HA
            simp only [lookoutref31_Same.l0] at H
            by_cases c22 : x5_2 < (l0_3.length : Int)
            · rw [if_pos c22] at H
              have c22b0 : decide (x5_2 < (l0_3.length : Int)) = true := decide_eq_true c22
              clear c22
              by_cases c23 : 0 ≤ x5_2
              · rw [if_pos c23] at H
                have c23b0 : decide (0 ≤ x5_2) = true := decide_eq_true c23
                clear c23
                by_cases c24 : x5_2 < (l1_3.length : Int)
                · rw [if_pos c24] at H
                  have c24b0 : decide (x5_2 < (l1_3.length : Int)) = true := decide_eq_true c24
                  clear c24
                  by_cases c25 : (!(((rd_T63 l0_3 x5_2).f0) == ((rd_T63 l1_3 x5_2).f0)) || (!(((rd_T63 l0_3 x5_2).f1) == ((rd_T63 l1_3 x5_2).f1)))) = true
                  · rw [if_pos c25] at H
                    have c25b0 : (!(((rd_T63 l0_3 x5_2).f0) == ((rd_T63 l1_3 x5_2).f0)) || (!(((rd_T63 l0_3 x5_2).f1) == ((rd_T63 l1_3 x5_2).f1)))) = true := c25
                    clear c25
                    obtain rfl := Option.some.inj H
                    have hnb26 := NB189_190.out
                    have hnc26 := NB190_189.out
                    have hcz27_0 : wr.cell? ⟨gb189, 0, none⟩ = some (.int .i64 a0_0) := (blk_cell BK189.out 0).trans rfl
                    have hcz27_1 : wr.cell? ⟨gb189, 1, none⟩ = some (.int .i64 a0_1) := (blk_cell BK189.out 1).trans rfl
                    have hcz27_2 : wr.cell? ⟨gb189, 2, none⟩ = some (.int .i64 a0_2) := (blk_cell BK189.out 2).trans rfl
                    have hcz27_3 : wr.cell? ⟨gb189, 3, none⟩ = some (.slice A0_3 l0_3.length c0_3) := (blk_cell BK189.out 3).trans rfl
                    have hfz27_0 := blk_frozen BK189.out 0
                    have hfz27_1 := blk_frozen BK189.out 1
                    have hfz27_2 := blk_frozen BK189.out 2
                    have hfz27_3 := blk_frozen BK189.out 3
                    have p191 : 0 ≤ (x5_2 : Int) := of_decide_eq_true (by first | (with_reducible assumption) | assumption)
                    have q191 : x5_2 < (l0_3.length : Int) := of_decide_eq_true (by first | (with_reducible assumption) | assumption)
                    obtain ⟨ad191, e191, hx191_0, hx191_1⟩ := at_T63 HR0_3.out x5_2 p191 q191
                    cases e191
                    replace hx191_0 := (HB.out.cell (World.block_lt_of_cell? w _ hx191_0)).trans hx191_0
                    replace hx191_1 := (HB.out.cell (World.block_lt_of_cell? w _ hx191_1)).trans hx191_1
                    replace p191 := eq_true p191
                    replace q191 := eq_true q191
                    have hcz28_0 : wr.cell? ⟨gb190, 0, none⟩ = some (.int .i64 a1_0) := (blk_cell BK190.out 0).trans rfl
                    have hcz28_1 : wr.cell? ⟨gb190, 1, none⟩ = some (.int .i64 a1_1) := (blk_cell BK190.out 1).trans rfl
                    have hcz28_2 : wr.cell? ⟨gb190, 2, none⟩ = some (.int .i64 a1_2) := (blk_cell BK190.out 2).trans rfl
                    have hcz28_3 : wr.cell? ⟨gb190, 3, none⟩ = some (.slice A1_3 l1_3.length c1_3) := (blk_cell BK190.out 3).trans rfl
                    have hfz28_0 := blk_frozen BK190.out 0
                    have hfz28_1 := blk_frozen BK190.out 1
                    have hfz28_2 := blk_frozen BK190.out 2
                    have hfz28_3 := blk_frozen BK190.out 3
                    have p192 : 0 ≤ (x5_2 : Int) := of_decide_eq_true (by first | (with_reducible assumption) | assumption)
                    have q192 : x5_2 < (l1_3.length : Int) := of_decide_eq_true (by first | (with_reducible assumption) | assumption)
                    obtain ⟨ad192, e192, hx192_0, hx192_1⟩ := at_T63 HR1_3.out x5_2 p192 q192
                    cases e192
                    replace hx192_0 := (HB.out.cell (World.block_lt_of_cell? w _ hx192_0)).trans hx192_0
                    replace hx192_1 := (HB.out.cell (World.block_lt_of_cell? w _ hx192_1)).trans hx192_1
                    replace p192 := eq_true p192
                    replace q192 := eq_true q192
                    go_wp2
                    repeat (go_quiet (fail); try go_wp2)
                    go_ret
                    exact ⟨by first | rfl | (simp [errW_none, errW_some] <;> rfl) | (simp [*, errW_none, errW_some] <;> rfl), by repeat (first | (with_reducible first | exact HB.out | apply below_alloc | apply pw_below_drewN | apply below_drew1 | refine below_set ?_ GE189.out | refine below_set ?_ GE190.out) | exact HB.out)⟩
                  · rw [if_neg c25] at H
                    have c25b0 : (!(((rd_T63 l0_3 x5_2).f0) == ((rd_T63 l1_3 x5_2).f0)) || (!(((rd_T63 l0_3 x5_2).f1) == ((rd_T63 l1_3 x5_2).f1)))) = false := by simpa using c25
                    clear c25
                    have H' := Aside0.mk H
                    clear H
                    have hnb29 := NB189_190.out
                    have hnc29 := NB190_189.out
                    have hcz30_0 : wr.cell? ⟨gb189, 0, none⟩ = some (.int .i64 a0_0) := (blk_cell BK189.out 0).trans rfl
                    have hcz30_1 : wr.cell? ⟨gb189, 1, none⟩ = some (.int .i64 a0_1) := (blk_cell BK189.out 1).trans rfl
                    have hcz30_2 : wr.cell? ⟨gb189, 2, none⟩ = some (.int .i64 a0_2) := (blk_cell BK189.out 2).trans rfl
                    have hcz30_3 : wr.cell? ⟨gb189, 3, none⟩ = some (.slice A0_3 l0_3.length c0_3) := (blk_cell BK189.out 3).trans rfl
                    have hfz30_0 := blk_frozen BK189.out 0
                    have hfz30_1 := blk_frozen BK189.out 1
                    have hfz30_2 := blk_frozen BK189.out 2
                    have hfz30_3 := blk_frozen BK189.out 3
                    have p191 : 0 ≤ (x5_2 : Int) := of_decide_eq_true (by first | (with_reducible assumption) | assumption)
                    have q191 : x5_2 < (l0_3.length : Int) := of_decide_eq_true (by first | (with_reducible assumption) | assumption)
                    obtain ⟨ad191, e191, hx191_0, hx191_1⟩ := at_T63 HR0_3.out x5_2 p191 q191
                    cases e191
                    replace hx191_0 := (HB.out.cell (World.block_lt_of_cell? w _ hx191_0)).trans hx191_0
                    replace hx191_1 := (HB.out.cell (World.block_lt_of_cell? w _ hx191_1)).trans hx191_1
                    replace p191 := eq_true p191
                    replace q191 := eq_true q191
                    have hcz31_0 : wr.cell? ⟨gb190, 0, none⟩ = some (.int .i64 a1_0) := (blk_cell BK190.out 0).trans rfl
                    have hcz31_1 : wr.cell? ⟨gb190, 1, none⟩ = some (.int .i64 a1_1) := (blk_cell BK190.out 1).trans rfl
                    have hcz31_2 : wr.cell? ⟨gb190, 2, none⟩ = some (.int .i64 a1_2) := (blk_cell BK190.out 2).trans rfl
                    have hcz31_3 : wr.cell? ⟨gb190, 3, none⟩ = some (.slice A1_3 l1_3.length c1_3) := (blk_cell BK190.out 3).trans rfl
                    have hfz31_0 := blk_frozen BK190.out 0
                    have hfz31_1 := blk_frozen BK190.out 1
                    have hfz31_2 := blk_frozen BK190.out 2
                    have hfz31_3 := blk_frozen BK190.out 3
                    have p192 : 0 ≤ (x5_2 : Int) := of_decide_eq_true (by first | (with_reducible assumption) | assumption)
                    have q192 : x5_2 < (l1_3.length : Int) := of_decide_eq_true (by first | (with_reducible assumption) | assumption)
                    obtain ⟨ad192, e192, hx192_0, hx192_1⟩ := at_T63 HR1_3.out x5_2 p192 q192
                    cases e192
                    replace hx192_0 := (HB.out.cell (World.block_lt_of_cell? w _ hx192_0)).trans hx192_0
                    replace hx192_1 := (HB.out.cell (World.block_lt_of_cell? w _ hx192_1)).trans hx192_1
                    replace p192 := eq_true p192
                    replace q192 := eq_true q192
                    go_wp2
                    repeat (go_quiet (fail); try go_wp2)
                    go_roundg k2
                    case measure => have := HJ2.out; have := HK2.out; omega
                    case rel => exact ⟨(wrap64 (x5_2 + 1)), (by first | rfl | (simp; done) | (simp [*]; done)), H', ⟨by have := HJ2.out; have := HK2.out; omega⟩, ⟨by (with_reducible repeat (first | refine blk_drewN ?_ _ | refine blk_drew ?_ | refine blk_alloc ?_ _)); exact BK189.out⟩, ⟨by (with_reducible repeat (first | refine blk_drewN ?_ _ | refine blk_drew ?_ | refine blk_alloc ?_ _)); exact BK190.out⟩, ⟨by repeat (first | (with_reducible first | exact HB.out | apply below_alloc | apply pw_below_drewN | apply below_drew1 | refine below_set ?_ GE189.out | refine below_set ?_ GE190.out) | exact HB.out)⟩⟩
                · rw [if_neg c24] at H
                  exact absurd H (by simp)
              · rw [if_neg c23] at H
                exact absurd H (by simp)
            · rw [if_neg c22] at H
              have c22b0 : decide (x5_2 < (l0_3.length : Int)) = false := decide_eq_false c22
              clear c22
              obtain rfl := Option.some.inj H
              have hnb32 := NB189_190.out
              have hnc32 := NB190_189.out
              have hcz33_0 : wr.cell? ⟨gb189, 0, none⟩ = some (.int .i64 a0_0) := (blk_cell BK189.out 0).trans rfl
              have hcz33_1 : wr.cell? ⟨gb189, 1, none⟩ = some (.int .i64 a0_1) := (blk_cell BK189.out 1).trans rfl
              have hcz33_2 : wr.cell? ⟨gb189, 2, none⟩ = some (.int .i64 a0_2) := (blk_cell BK189.out 2).trans rfl
              have hcz33_3 : wr.cell? ⟨gb189, 3, none⟩ = some (.slice A0_3 l0_3.length c0_3) := (blk_cell BK189.out 3).trans rfl
              have hfz33_0 := blk_frozen BK189.out 0
              have hfz33_1 := blk_frozen BK189.out 1
              have hfz33_2 := blk_frozen BK189.out 2
              have hfz33_3 := blk_frozen BK189.out 3
              go_wp2
              repeat (go_quiet (fail); try go_wp2)
              go_ret
              exact ⟨by first | rfl | (simp [errW_none, errW_some] <;> rfl) | (simp [*, errW_none, errW_some] <;> rfl), by repeat (first | (with_reducible first | exact HB.out | apply below_alloc | apply pw_below_drewN | apply below_drew1 | refine below_set ?_ GE189.out | refine below_set ?_ GE190.out) | exact HB.out)⟩

end Go.Proofs.Ytcgimjoebkeifaa.PQ

/- The program's Check says OK of every valid digest; Same of equal ones. No conditions. -/
namespace Go.Proofs.Ytcgimjoebkeifaa.Law
set_option linter.unusedSimpArgs false
set_option linter.unusedVariables false
open Go.RowKit Go.Proofs.YtcgimjoebkeifaaW.PrintWords Go.Proofs.Ytcgimjoebkeifaa.PQ Go.Proofs.Ytcgimjoebkeifaa.Quan Go.Proofs.Ytcgimjoebkeifaa.QAdd
theorem chk_step (b K c p thr : Int) (xs : List S63) (m : Nat) (sum bef i : Int) (hb1 : 1 ≤ b) (hb2 : b ≤ 20) (hp : p = 2 ^ b.toNat) (h0 : 0 ≤ i) (h1 : i < xs.length) (hn : NodeV p thr c (rd_T63 xs i)) (hbf : bef < (rd_T63 xs i).f0) :
    qdigest_Check.l0 (m + 2) thr sum bef xs xs.length i b K c xs = qdigest_Check.l0 m thr (wrap64 (sum + (rd_T63 xs i).f1)) (rd_T63 xs i).f0 xs xs.length (wrap64 (i + 1)) b K c xs := by
  rw [qdigest_Check.l0]
  simp only [qdigest_Check.j3, shl1 hb1 hb2, shl2 hb1 hb2]
  rw [← hp]
  obtain ⟨n1, n2, n3, n4, n5⟩ := hn
  generalize rd_T63 xs i = x at *
  rw [if_pos h1, if_pos h0, if_pos h1, if_neg (by omega : ¬ x.f0 ≤ bef), if_pos (by omega : 0 ≤ b), if_neg (by omega : ¬ x.f0 ≥ 2 * p), if_neg (by omega : ¬ x.f1 < 1), if_neg (by simpa using n4)]
  rw [if_pos (by omega : 0 ≤ b)]
  by_cases g : x.f0 < p
  · rw [if_pos g, if_neg (by have := n5 g; omega)]
  · rw [if_neg g]
theorem chk_loop (b K c : Int) (xs : List S63) (V : Valid b K c xs) (d : Nat) : ∀ (i : Nat) (bef : Int), i + d = xs.length → ((i = 0 ∧ bef = 0) ∨ ∃ j, i = j + 1 ∧ bef = (rd_T63 xs j).f0) → (0 ≤ tot (xs.take i) ∧ tot (xs.take i) ≤ i * 1099511627776) →
    ∀ k, 2 * d + 1 ≤ k → qdigest_Check.l0 k (c / K) (tot (xs.take i)) bef xs xs.length i b K c xs = some 0 := by
  induction d with
  | zero =>
    intro i bef hd _ _ k hk
    obtain rfl : i = xs.length := hd
    obtain ⟨m, rfl⟩ : ∃ m, k = m + 1 := ⟨k - 1, by omega⟩
    rw [qdigest_Check.l0, if_neg (Int.lt_irrefl _), List.take_of_length_le (Nat.le_refl _), if_pos V.sum]
  | succ d ih =>
    intro i bef hd hbf hb k hk
    have hi : i < xs.length := by omega
    have hn := V.node _ (List.getElem_mem hi)
    rw [← rd_mem xs i hi] at hn
    have hbf2 : bef < (rd_T63 xs i).f0 := by
      rcases hbf with ⟨rfl, rfl⟩ | ⟨j, rfl, rfl⟩
      · have := hn.1; omega
      · have := List.pairwise_iff_getElem.1 V.asc j (j + 1) (by omega) hi (by omega)
        rw [rd_mem xs j (by omega), rd_mem xs (j + 1) hi]
        exact this
    obtain ⟨e1, e3, e4⟩ := sum_next hb ⟨hn.2.2.1, hn.2.2.2.1⟩ V.c2 hi V.len
    obtain ⟨m, rfl⟩ : ∃ m, k = m + 2 := ⟨k - 2, by omega⟩
    rw [chk_step b K c _ (c / K) xs m _ bef i V.b1 V.b2 rfl (Int.natCast_nonneg i) (Int.ofNat_lt.2 hi) hn hbf2, e1, idx_next hi V.len, ← tot_take xs i hi]
    exact ih (i + 1) _ (by omega) (.inr ⟨i, rfl, rfl⟩) (by rw [tot_take xs i hi]; exact ⟨e3, e4⟩) m (by omega)
theorem chk_valid {b K c : Int} {xs : List S63} (V : Valid b K c xs) : ∀ k, 2 * xs.length + 4 ≤ k → qdigest_Check.f k b K c xs = some 0 := by
  intro k hk
  obtain ⟨m, rfl⟩ : ∃ m, k = m + 2 := ⟨k - 2, by omega⟩
  have h1 := V.b1
  have h2 := V.b2
  have h3 := V.K1
  have h4 := V.K2
  have h5 := V.c1
  have h6 := V.c2
  have h7 := V.len
  unfold qdigest_Check.f
  rw [if_neg (by omega), if_neg (by omega), if_neg (by omega)]
  rw [qdigest_Check.j0, if_neg (by simp; omega), if_neg (by omega), if_neg (by omega), qdigest_Check.j1, if_neg (by simp; omega), if_neg (by omega), quo_thr h5 h6 h3]
  have := chk_loop b K c xs V xs.length 0 0 (by omega) (.inl ⟨rfl, rfl⟩) (by simp [tot]) m (by omega)
  simpa [tot] using this
end Go.Proofs.Ytcgimjoebkeifaa.Law

/- math/bits.Len as a Lean function, with a proof that the call answers so. Conditions: the number is a uint. -/
namespace Go.Proofs.Ytcgimjoebkeifaa.PQ
open Go.RowKit Go.Proofs.YtcgimjoebkeifaaW.PrintWords
def bits_Len.f (a0 : Int) : Option Int := if 0 ≤ a0 then (if a0 ≤ 18446744073709551615 then some (Lib.bitLen a0.toNat : Int) else none) else none
theorem bits_Len.calls (a0 : Int) (r : Int) (w : World) (h : bits_Len.f a0 = some r) :
    Calls Try.prog 55 #[.int .u64 a0] w fun e w' => e = .returned (.int .i64 r) ∧ Drawn0 w w' := by
  unfold bits_Len.f at h
  by_cases h0 : 0 ≤ a0
  · rw [if_pos h0] at h
    by_cases h1 : a0 ≤ 18446744073709551615
    · rw [if_pos h1] at h
      have hc := Any.bits_Len Try.lays125 a0 w h0 h1
      change Calls Try.prog 55 _ _ _ at hc
      refine hc.mono ?_
      rintro e w' ⟨rfl, rfl⟩
      injection h with h
      exact ⟨by rw [h], Drawn0.refl _⟩
    · rw [if_neg h1] at h
      cases h
  · rw [if_neg h0] at h
    cases h
end Go.Proofs.Ytcgimjoebkeifaa.PQ

/- qdigest.span as a Lean function, with a proof that the call answers so. Conditions: small numbers. -/
namespace Go.Proofs.Ytcgimjoebkeifaa.PQ
open Go.RowKit Go.Proofs.YtcgimjoebkeifaaW.PrintWords
set_option maxHeartbeats 1000000
/-- The least and the greatest integer of the range of a node. -/
def spanLo (width id : Int) : Int := id * 2 ^ (width + 1 - (Lib.bitLen id.toNat : Int)).toNat - 2 ^ width.toNat
def spanHi (width id : Int) : Int := (id + 1) * 2 ^ (width + 1 - (Lib.bitLen id.toNat : Int)).toNat - 2 ^ width.toNat - 1
def SpanOk (width id : Int) : Prop := (1 ≤ width ∧ width ≤ 40) ∧ (0 ≤ id ∧ id ≤ 1099511627776) ∧ (Lib.bitLen id.toNat : Int) ≤ width + 1 ∧ (id + 1) * 2 ^ (width + 1 - (Lib.bitLen id.toNat : Int)).toNat ≤ 1152921504606846976
instance (a b : Int) : Decidable (SpanOk a b) := by unfold SpanOk; exact inferInstance
def qdigest_span.f (a0 : Int) (a1 : Int) : Option (Int × Int) := if SpanOk a0 a1 then some (spanLo a0 a1, spanHi a0 a1) else none
theorem pow_le_41 (n : Nat) (h : n ≤ 41) : (0 : Int) < 2 ^ n ∧ (2 : Int) ^ n ≤ 2199023255552 := by
  refine ⟨Int.pow_pos (by decide), ?_⟩
  have h1 : (2 : Nat) ^ n ≤ 2 ^ 41 := Nat.pow_le_pow_right (by decide) h
  have h2 : ((2 ^ n : Nat) : Int) ≤ ((2 ^ 41 : Nat) : Int) := Int.ofNat_le.2 h1
  simpa using h2
set_option maxRecDepth 100000 in
theorem qdigest_span.calls (a0 : Int) (a1 : Int) (r1 : Int) (r2 : Int) (w : World) (h : qdigest_span.f a0 a1 = some (r1, r2)) :
    Calls Try.prog 38 #[.int .i64 a0, .int .i64 a1] w fun e w' => e = .returned (.tuple #[.int .i64 r1, .int .i64 r2]) ∧ Drawn0 w w' := by
  unfold qdigest_span.f at h
  by_cases hk : SpanOk a0 a1
  case neg => rw [if_neg hk] at h; cases h
  rw [if_pos hk] at h
  simp only [Option.some.injEq, Prod.mk.injEq] at h
  obtain ⟨⟨h0, h1⟩, ⟨h2, h3⟩, h4, h5⟩ := hk
  have hlen := bits_Len.calls a1 (Lib.bitLen a1.toNat) 
  have hf : bits_Len.f a1 = some (Lib.bitLen a1.toNat : Int) := by
    unfold bits_Len.f
    rw [if_pos h2, if_pos (by omega)]
  have hl2 := fun W => hlen W hf
  have hu : IntKind.u64.wrap a1 = a1 := by
    rw [show IntKind.u64.wrap a1 = a1 % 18446744073709551616 from by simp [IntKind.wrap, IntKind.signed, IntKind.bits]]
    omega
  unfold spanLo spanHi at h
  generalize hb : Lib.bitLen a1.toNat = b at *
  have HH := Lib.hid h
  have HB := Lib.hid hb
  have hb0 : (0 : Int) ≤ b := by omega
  have hs0 : 0 ≤ a0 + 1 - (b : Int) := by omega
  have H5 := Lib.hid h5
  clear h hb hlen hf h5
  go_enter Try.func38, Try.ntmps38
  go_wp2_with (go_at_call 55; refine (hl2 _).mono ?_; rintro e w' ⟨rfl, hd⟩)
  go_quiet (fail)
  go_wp2
  go_ret2
  refine ⟨?_, hd.step _⟩
  obtain ⟨e1, e2⟩ := HH.out
  have h5 := H5.out
  have ee : (a0 + 1 - (b : Int)).toNat = (a0 + 1).toNat - b := by omega
  rw [ee] at e1 e2 h5
  have hP := Int.pow_pos (n := (2 : Int)) (m := (a0 + 1).toNat - b) (by decide)
  have hQ := pow_le_41 a0.toNat (by omega)
  have hx0 : 0 ≤ a1 * 2 ^ ((a0 + 1).toNat - b) := Int.mul_nonneg h2 (Int.le_of_lt hP)
  have hxy : (a1 + 1) * 2 ^ ((a0 + 1).toNat - b) = a1 * 2 ^ ((a0 + 1).toNat - b) + 2 ^ ((a0 + 1).toNat - b) := by rw [Int.add_mul, Int.one_mul]
  rw [← e1, ← e2]
  rw [hxy] at h5 ⊢
  generalize a1 * 2 ^ ((a0 + 1).toNat - b) = x at *
  generalize (2 : Int) ^ ((a0 + 1).toNat - b) = p at *
  generalize (2 : Int) ^ a0.toNat = q at *
  have f1 : wrap64 (wrap64 x - wrap64 q) = x - q := by unfold wrap64; omega
  have f2 : wrap64 (wrap64 (wrap64 (x + p) - wrap64 q) - 1) = x + p - q - 1 := by unfold wrap64; omega
  rw [f1, f2]
  rfl
end Go.Proofs.Ytcgimjoebkeifaa.PQ

/- The ranges of nodes: a child's lies in its parent's. No conditions. -/
namespace Go.Proofs.Ytcgimjoebkeifaa.Law
set_option linter.unusedSimpArgs false
set_option linter.unusedVariables false
open Go.RowKit Go.Proofs.YtcgimjoebkeifaaW.PrintWords Go.Proofs.Ytcgimjoebkeifaa.PQ Go.Proofs.Ytcgimjoebkeifaa.Quan Go.Proofs.Ytcgimjoebkeifaa.QAdd
theorem lt_aux : ∀ (f x : Nat), x < 2 ^ f → x < 2 ^ Lib.bitLenAux f x
  | 0, x, h => by simp at h; subst h; simp [Lib.bitLenAux]
  | f + 1, x, h => by
    simp only [Lib.bitLenAux]
    by_cases h0 : x = 0
    · rw [if_pos h0, h0]; decide
    · rw [if_neg h0]
      have := lt_aux f (x / 2) (by rw [Nat.pow_succ] at h; omega)
      rw [Nat.add_comm 1, Nat.pow_succ]
      omega
theorem lt_bitLen (x : Nat) (h : x < 2 ^ 64) : x < 2 ^ Lib.bitLen x := lt_aux 64 x h
theorem pow_nat {b : Int} (n : Nat) (h : b = n) : (2 : Int) ^ b.toNat = ((2 ^ n : Nat) : Int) := by subst h; simp
theorem span_ok {b id : Int} (h1 : 1 ≤ b) (h2 : b ≤ 20) (h3 : 1 ≤ id) (h4 : id < 2 * 2 ^ b.toNat) : SpanOk b id := by
  have hp := pow_pos20 h1 h2
  obtain ⟨n, rfl⟩ := Int.eq_ofNat_of_zero_le (by omega : 0 ≤ b)
  obtain ⟨m, rfl⟩ := Int.eq_ofNat_of_zero_le (by omega : 0 ≤ id)
  rw [pow_nat n rfl] at h4 hp
  have hm : m < 2 ^ (n + 1) := by rw [Nat.pow_succ]; omega
  have hl := Lib.bitLen_le m (n + 1) (by omega) hm
  have hlt := lt_bitLen m (by have : (2 : Nat) ^ (n + 1) ≤ 2 ^ 64 := Nat.pow_le_pow_right (by decide) (by omega); omega)
  refine ⟨⟨by omega, by omega⟩, ⟨by omega, by omega⟩, by simp; omega, ?_⟩
  simp only [Int.toNat_natCast]
  have e : ((n : Int) + 1 - (Lib.bitLen m : Int)).toNat = n + 1 - Lib.bitLen m := by omega
  rw [e]
  have h5 : (m + 1) * 2 ^ (n + 1 - Lib.bitLen m) ≤ 2 ^ Lib.bitLen m * 2 ^ (n + 1 - Lib.bitLen m) := Nat.mul_le_mul_right _ hlt
  rw [← Nat.pow_add, show Lib.bitLen m + (n + 1 - Lib.bitLen m) = n + 1 from by omega] at h5
  have h6 : (2 : Nat) ^ (n + 1) ≤ 2 ^ 21 := Nat.pow_le_pow_right (by decide) (by omega)
  have h7 : (((m + 1) * 2 ^ (n + 1 - Lib.bitLen m) : Nat) : Int) ≤ ((2 ^ 21 : Nat) : Int) := Int.ofNat_le.2 (Nat.le_trans h5 h6)
  have e2 : (((m + 1) * 2 ^ (n + 1 - Lib.bitLen m) : Nat) : Int) = ((m : Int) + 1) * 2 ^ (n + 1 - Lib.bitLen m) := by simp
  rw [e2] at h7
  have : ((2 ^ 21 : Nat) : Int) = 2097152 := by decide
  omega
/-- A child's range lies in its parent's. -/
theorem span_kid {b m id : Int} (h1 : 1 ≤ b) (h2 : b ≤ 20) (h3 : 1 ≤ m) (hid : id = 2 * m ∨ id = 2 * m + 1) (h4 : id < 2 * 2 ^ b.toNat) : spanLo b m ≤ spanLo b id ∧ spanHi b id ≤ spanHi b m := by
  have hp := pow_pos20 h1 h2
  obtain ⟨n, rfl⟩ := Int.eq_ofNat_of_zero_le (by omega : 0 ≤ b)
  obtain ⟨k, rfl⟩ := Int.eq_ofNat_of_zero_le (by omega : 0 ≤ m)
  obtain ⟨j, rfl⟩ := Int.eq_ofNat_of_zero_le (by omega : 0 ≤ id)
  rw [pow_nat n rfl] at h4 hp
  have hj : j < 2 ^ (n + 1) := by rw [Nat.pow_succ]; omega
  have hl := Lib.bitLen_le j (n + 1) (by omega) hj
  have h64 : j < 2 ^ 64 := by have : (2 : Nat) ^ (n + 1) ≤ 2 ^ 64 := Nat.pow_le_pow_right (by decide) (by omega); omega
  have hh := Lib.bitLen_half j (by omega) h64
  rw [show j / 2 = k from by omega] at hh
  unfold spanLo spanHi
  simp only [Int.toNat_natCast]
  have e1 : ((n : Int) + 1 - (Lib.bitLen j : Int)).toNat = n + 1 - Lib.bitLen j := by omega
  have e2 : ((n : Int) + 1 - (Lib.bitLen k : Int)).toNat = (n + 1 - Lib.bitLen j) + 1 := by omega
  rw [e1, e2, Int.pow_succ]
  have hP := Int.pow_pos (n := (2 : Int)) (m := n + 1 - Lib.bitLen j) (by decide)
  generalize (2 : Int) ^ (n + 1 - Lib.bitLen j) = P at *
  generalize (2 : Int) ^ n = q
  have a1 : (k : Int) * (P * 2) = 2 * ((k : Int) * P) := by rw [← Int.mul_assoc, Int.mul_comm]
  have a2 : ((k : Int) + 1) * (P * 2) = 2 * ((k : Int) * P) + 2 * P := by rw [Int.add_mul, Int.one_mul, a1, Int.mul_comm P 2]
  rw [a1, a2]
  rcases hid with h | h
  · rw [h]
    have a3 : 2 * (k : Int) * P = 2 * ((k : Int) * P) := by rw [Int.mul_assoc]
    have a4 : (2 * (k : Int) + 1) * P = 2 * ((k : Int) * P) + P := by rw [Int.add_mul, a3, Int.one_mul]
    rw [a3, a4]
    constructor <;> omega
  · rw [h]
    have a3 : (2 * (k : Int) + 1) * P = 2 * ((k : Int) * P) + P := by rw [Int.add_mul, Int.mul_assoc, Int.one_mul]
    have a4 : (2 * (k : Int) + 1 + 1) * P = 2 * ((k : Int) * P) + 2 * P := by rw [Int.add_mul, a3, Int.one_mul]; omega
    rw [a3, a4]
    constructor <;> omega
end Go.Proofs.Ytcgimjoebkeifaa.Law
