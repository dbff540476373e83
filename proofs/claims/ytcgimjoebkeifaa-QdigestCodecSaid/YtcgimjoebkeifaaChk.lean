/- qdigest.Check: the walk by hand. -/
import Derived.Test.YtcgimjoebkeifaaPQx0
import Derived.Lib.Hide
import Derived.Deep.LoopGhost
namespace Go.Proofs.Ytcgimjoebkeifaa.Chk
set_option linter.unusedSimpArgs false
set_option linter.unusedVariables false
open Go.RowKit Go.Proofs.YtcgimjoebkeifaaW.PrintWords Go.Proofs.Ytcgimjoebkeifaa.PQ
set_option maxHeartbeats 4000000
/-- The rounds: what the loop answers. -/
def chkL (p thr c : Int) : List S63 → Int → Int → Int
  | [], _, sum => if sum = c then 0 else 1
  | x :: xs, bef, sum => if x.f0 ≤ bef then 1 else if x.f0 ≥ 2 * p then 1 else if x.f1 < 1 then 1 else if x.f1 > c then 1 else if x.f0 < p ∧ x.f1 > thr then 1 else chkL p thr c xs x.f0 (sum + x.f1)
def chkF (b K c : Int) (xs : List S63) : Int :=
  if (1 ≤ b ∧ b ≤ 20) ∧ (1 ≤ K ∧ K ≤ 10000) ∧ (0 ≤ c ∧ c ≤ 1099511627776) ∧ xs.length ≤ 2000 then chkL (2 ^ b.toNat) (c / K) c xs 0 0 else 1
theorem ret_int {k : IntKind} {a b : Int} (h : a = b) : Ending.returned (.int k a) = .returned (.int k b) := by rw [h]
section
variable (b K c : Int) (A : Option Addr) (cap : Nat) (xs : List S63) (w : World)
theorem drop_rd (xs : List S63) (i : Nat) (h : i < xs.length) : xs.drop i = rd_T63 xs i :: xs.drop (i + 1) := by
  rw [List.drop_eq_getElem_cons h]
  simp [rd_T63, List.getD_eq_getElem?_getD, h]
theorem pow20 {b : Int} (h1 : 1 ≤ b) (h2 : b ≤ 20) : (2 : Int) ≤ 2 ^ b.toNat ∧ (2 : Int) ^ b.toNat ≤ 1048576 := by
  obtain ⟨n, rfl⟩ := Int.eq_ofNat_of_zero_le (by omega : 0 ≤ b)
  have : ∀ n : Nat, n ≤ 20 → 1 ≤ n → (2 : Int) ≤ 2 ^ (n : Int).toNat ∧ (2 : Int) ^ (n : Int).toNat ≤ 1048576 := by decide
  exact this n (by omega) (by omega)
set_option maxRecDepth 100000 in
theorem check_early (hc : xs.length ≤ cap) (h : ¬ ((1 ≤ b ∧ b ≤ 20) ∧ (1 ≤ K ∧ K ≤ 10000) ∧ (0 ≤ c ∧ c ≤ 1099511627776) ∧ xs.length ≤ 2000)) :
    Calls Try.prog 13 #[.agg #[.int .i64 b, .int .i64 K, .int .i64 c, .slice A xs.length cap]] w fun e w' => e = .returned (.int .i64 1) ∧ Below w.heap.size w w' := by
  have hbe := (Below.refl w.heap.size w).alloc (Nat.le_refl _) (.cells #[.int .i64 b, .int .i64 K, .int .i64 c, .slice A xs.length cap] 24)
  generalize xs.length = n at *
  have H : b < 1 ∨ (¬ b < 1 ∧ 20 < b) ∨ (¬ b < 1 ∧ ¬ 20 < b ∧ K < 1) ∨ (¬ b < 1 ∧ ¬ 20 < b ∧ ¬ K < 1 ∧ 10000 < K) ∨ ((¬ b < 1 ∧ ¬ 20 < b ∧ ¬ K < 1 ∧ ¬ 10000 < K) ∧ (c < 0 ∨ (¬ c < 0 ∧ 1099511627776 < c) ∨ (¬ c < 0 ∧ ¬ 1099511627776 < c ∧ (2000 : Int) < n))) := by omega
  clear h
  rcases H with h | ⟨h1, h2⟩ | ⟨h1, h2, h3⟩ | ⟨h1, h2, h3, h4⟩ | ⟨⟨h1, h2, h3, h4⟩, h | ⟨h5, h6⟩ | ⟨h5, h6, h7⟩⟩
  all_goals
    go_enter Try.func13, Try.ntmps13
    go_wp2_with fail
    go_ret
    exact ⟨rfl, hbe⟩
set_option maxRecDepth 100000 in
theorem check_main (hr : Kd.C k63 w A xs.length xs) (hc : xs.length ≤ cap) (hb : 1 ≤ b ∧ b ≤ 20) (hK : 1 ≤ K ∧ K ≤ 10000) (hcc : 0 ≤ c ∧ c ≤ 1099511627776) (hl : xs.length ≤ 2000) :
    Calls Try.prog 13 #[.agg #[.int .i64 b, .int .i64 K, .int .i64 c, .slice A xs.length cap]] w fun e w' => e = .returned (.int .i64 (chkL (2 ^ b.toNat) (c / K) c xs 0 0)) ∧ Below w.heap.size w w' := by
  obtain ⟨hb1, hb2⟩ := hb
  obtain ⟨hK1, hK2⟩ := hK
  obtain ⟨hc1, hc2⟩ := hcc
  obtain ⟨hp1, hp2⟩ := pow20 hb1 hb2
  have hthr : 0 ≤ c / K ∧ c / K ≤ c := ⟨Int.ediv_nonneg hc1 (by omega), Int.ediv_le_self K hc1⟩
  have HR := Lib.hid (fun W hW => Kd.C_below (w1 := W) hr hW)
  have hst := (Below.refl w.heap.size w).alloc (Nat.le_refl _) (.cells #[.int .i64 b, .int .i64 K, .int .i64 c, .slice A xs.length cap] 24)
  have hx := blk_new w (.cells #[.int .i64 b, .int .i64 K, .int .i64 c, .slice A xs.length cap] 24)
  generalize hR : chkL (2 ^ b.toNat) (c / K) c xs 0 0 = R
  have HRR := Lib.hid hR
  generalize hn : xs.length = n at *
  have HN := Lib.hid hn
  clear hr hR hn
  have HX := Lib.hid hx
  have HST := Lib.hid hst
  clear hx hst
  go_enter Try.func13, Try.ntmps13
  go_wp2_with fail
  go_loopg [4, 5, 48] n (fun gk s4 s5 s48 wr => ∃ (i : Nat) (bef sum : Int), s4 = .int .i64 sum ∧ s5 = .int .i64 bef ∧ s48 = .int .i64 i ∧ i ≤ n ∧ gk = n - i ∧ 0 ≤ bef ∧ (0 ≤ sum ∧ sum ≤ i * 1099511627776) ∧ chkL (2 ^ b.toNat) (c / K) c (xs.drop i) bef sum = R ∧ wr.heap[w.heap.size]? = some (.cells #[.int .i64 b, .int .i64 K, .int .i64 c, .slice A n cap] 24 (0, 0)) ∧ Below w.heap.size w wr)
  case atStart => exact ⟨0, 0, 0, rfl, rfl, rfl, by omega, by omega, by omega, ⟨by omega, by omega⟩, HRR.out, HX.out, HST.out⟩
  case round =>
    obtain ⟨i, bef, sum, rfl, rfl, rfl, hi, hgk, hbef, ⟨hs1, hs2⟩, hR, hx, hB⟩ := hrel
    have x0 := blk_cell hx 0
    have x2 := blk_cell hx 2
    have x3 := blk_cell hx 3
    simp at x0 x2 x3
    have HGK := Lib.hid hgk
    have HRi := Lib.hid hR
    have HB := Lib.hid hB
    have HX2 := Lib.hid hx
    have hlw := (Array.getElem?_eq_some_iff.1 hx).1
    clear hgk hR hB hx
    by_cases hin : i < n
    · have hini : (i : Int) < n := by omega
      obtain ⟨ad, rfl, p0, p1⟩ := at_T63 (HR.out _ HB.out) (i : Int) (by omega) (by omega)
      simp only [Int.toNat_natCast] at p0 p1
      have HRd : Hid (chkL (2 ^ b.toNat) (c / K) c (rd_T63 xs (i : Int) :: xs.drop (i + 1)) bef sum = R) := Lib.hid (by rw [← drop_rd xs i (by rw [HN.out]; exact hin)]; exact HRi.out)
      clear HRi
      obtain ⟨y, hy⟩ : ∃ y, rd_T63 xs (i : Int) = y := ⟨_, rfl⟩
      rw [hy] at p0 p1
      have HRy : Hid (chkL (2 ^ b.toNat) (c / K) c (y :: xs.drop (i + 1)) bef sum = R) := Lib.hid (by rw [← hy]; exact HRd.out)
      clear HRd hy
      have hw1 : IntKind.i64.wrap (2 * 2 ^ b.toNat) = 2 * 2 ^ b.toNat := IntWalk.i64_in _ (by omega)
      have hw2 : IntKind.i64.wrap (2 ^ b.toNat) = 2 ^ b.toNat := IntWalk.i64_in _ (by omega)
      have hw3 : IntKind.i64.wrap (1 * 2 ^ b.toNat) = 2 ^ b.toNat := by rw [Int.one_mul]; exact hw2
      by_cases g1 : y.f0 ≤ bef
      · have HV : Hid (1 = R) := Lib.hid (by have := HRy.out; rw [chkL, if_pos g1] at this; exact this)
        have d1 : decide (y.f0 ≤ bef) = true := decide_eq_true g1
        go_wp2_with fail
        go_quiet (fail)
        go_wp2_with fail
        go_ret
        exact ⟨ret_int HV.out, by first | exact pw_below_drewN (HB.out.alloc (by omega) _) _ | exact pw_below_drewN (pw_below_drewN (HB.out.alloc (by omega) _) _) _⟩
      have d1 : decide (y.f0 ≤ bef) = false := decide_eq_false g1
      have g1' : bef < y.f0 := by omega
      by_cases g2 : y.f0 ≥ 2 * 2 ^ b.toNat
      · have HV : Hid (1 = R) := Lib.hid (by have := HRy.out; rw [chkL, if_neg g1, if_pos g2] at this; exact this)
        have d2 : decide (2 * 2 ^ b.toNat ≤ y.f0) = true := decide_eq_true g2
        go_wp2_with fail
        go_quiet (fail)
        go_wp2_with fail
        go_ret
        exact ⟨ret_int HV.out, by first | exact pw_below_drewN (HB.out.alloc (by omega) _) _ | exact pw_below_drewN (pw_below_drewN (HB.out.alloc (by omega) _) _) _⟩
      have d2 : decide (2 * 2 ^ b.toNat ≤ y.f0) = false := decide_eq_false g2
      have g2' : y.f0 < 2 * 2 ^ b.toNat := by omega
      by_cases g3 : y.f1 < 1
      · have HV : Hid (1 = R) := Lib.hid (by have := HRy.out; rw [chkL, if_neg g1, if_neg g2, if_pos g3] at this; exact this)
        have d3 : decide (y.f1 < 1) = true := decide_eq_true g3
        go_wp2_with fail
        go_quiet (fail)
        go_wp2_with fail
        go_ret
        exact ⟨ret_int HV.out, by first | exact pw_below_drewN (HB.out.alloc (by omega) _) _ | exact pw_below_drewN (pw_below_drewN (HB.out.alloc (by omega) _) _) _⟩
      have d3 : decide (y.f1 < 1) = false := decide_eq_false g3
      by_cases g4 : y.f1 > c
      · have HV : Hid (1 = R) := Lib.hid (by have := HRy.out; rw [chkL, if_neg g1, if_neg g2, if_neg g3, if_pos g4] at this; exact this)
        have d4 : decide (c < y.f1) = true := decide_eq_true g4
        go_wp2_with fail
        go_quiet (fail)
        go_wp2_with fail
        go_ret
        exact ⟨ret_int HV.out, by first | exact pw_below_drewN (HB.out.alloc (by omega) _) _ | exact pw_below_drewN (pw_below_drewN (HB.out.alloc (by omega) _) _) _⟩
      have d4 : decide (c < y.f1) = false := decide_eq_false g4
      by_cases g5 : y.f0 < 2 ^ b.toNat ∧ y.f1 > c / K
      · have HV : Hid (1 = R) := Lib.hid (by have := HRy.out; rw [chkL, if_neg g1, if_neg g2, if_neg g3, if_neg g4, if_pos g5] at this; exact this)
        obtain ⟨g6, g7⟩ := g5
        have d5 : decide (y.f0 < 2 ^ b.toNat) = true := decide_eq_true g6
        have d6 : decide (c / K < y.f1) = true := decide_eq_true g7
        go_wp2_with fail
        go_quiet (fail)
        go_wp2_with fail
        go_quiet (fail)
        go_wp2_with fail
        go_ret
        exact ⟨ret_int HV.out, by first | exact pw_below_drewN (HB.out.alloc (by omega) _) _ | exact pw_below_drewN (pw_below_drewN (HB.out.alloc (by omega) _) _) _⟩
      have HV : Hid (chkL (2 ^ b.toNat) (c / K) c (xs.drop (i + 1)) y.f0 (sum + y.f1) = R) := Lib.hid (by have := HRy.out; rw [chkL, if_neg g1, if_neg g2, if_neg g3, if_neg g4, if_neg g5] at this; exact this)
      clear HRy
      have hsum : sum + y.f1 ≤ ((i + 1 : Nat) : Int) * 1099511627776 := by omega
      have hsl : sum ≤ 2199023255552000 := by omega
      by_cases g6 : y.f0 < 2 ^ b.toNat
      all_goals
        have d6 : decide (c / K < y.f1) = false ∨ decide (y.f0 < 2 ^ b.toNat) = false := by first | exact .inr (decide_eq_false g6) | exact .inl (decide_eq_false (fun h => g5 ⟨g6, h⟩))
        clear g5
      · have d5 : decide (y.f0 < 2 ^ b.toNat) = true := decide_eq_true g6
        have d7 : decide (c / K < y.f1) = false := by simpa [g6] using d6
        clear d6
        go_wp2_with fail
        go_quiet (fail)
        go_wp2_with fail
        go_quiet (fail)
        go_wp2_with fail
        go_roundg (n - (i + 1))
        case rel => exact ⟨i + 1, y.f0, sum + y.f1, rfl, rfl, by go_num, by omega, rfl, by omega, ⟨by omega, hsum⟩, HV.out, blk_alloc HX2.out _, by first | exact pw_below_drewN (HB.out.alloc (by omega) _) _ | exact pw_below_drewN (pw_below_drewN (HB.out.alloc (by omega) _) _) _⟩
        case measure => rw [HGK.out]; omega
      · have d5 : decide (y.f0 < 2 ^ b.toNat) = false := decide_eq_false g6
        clear d6
        go_wp2_with fail
        go_quiet (fail)
        go_wp2_with fail
        go_quiet (fail)
        go_wp2_with fail
        go_roundg (n - (i + 1))
        case rel => exact ⟨i + 1, y.f0, sum + y.f1, rfl, rfl, by go_num, by omega, rfl, by omega, ⟨by omega, hsum⟩, HV.out, blk_alloc HX2.out _, by first | exact pw_below_drewN (HB.out.alloc (by omega) _) _ | exact pw_below_drewN (pw_below_drewN (HB.out.alloc (by omega) _) _) _⟩
        case measure => rw [HGK.out]; omega
    · have hin' : ¬ (i : Int) < n := by omega
      have HRe : Hid ((if sum = c then 0 else 1) = R) := Lib.hid (by
        have := HRi.out
        rw [List.drop_eq_nil_of_le (by rw [HN.out]; omega)] at this
        exact this)
      by_cases hs : sum = c
      · have hs' : (sum != c) = false := by rw [bne_eq_false_iff_eq]; exact hs
        have HS := Lib.hid hs
        clear hs
        go_wp2_with fail
        go_ret
        have := HRe.out
        rw [if_pos HS.out] at this
        exact ⟨ret_int this, HB.out⟩
      · have hs' : (sum != c) = true := by rw [bne_iff_ne]; exact hs
        have HS := Lib.hid hs
        clear hs
        go_wp2_with fail
        go_ret
        have := HRe.out
        rw [if_neg HS.out] at this
        exact ⟨ret_int this, HB.out⟩
end
end Go.Proofs.Ytcgimjoebkeifaa.Chk
