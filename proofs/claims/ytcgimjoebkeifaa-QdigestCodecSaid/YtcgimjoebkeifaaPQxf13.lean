/- qdigest.Check as a Lean function (definitions written by wip/patch_print.py), with a proof by hand that the call answers so. No conditions beyond the theorems' own. -/
import Derived.Test.YtcgimjoebkeifaaPQx0
import Derived.Test.YtcgimjoebkeifaaChk
namespace Go.Proofs.Ytcgimjoebkeifaa.PQ
open Go.RowKit Go.Proofs.YtcgimjoebkeifaaW.PrintWords Go.Proofs.YtcgimjoebkeifaaW.PrintLast Go.Proofs.YtcgimjoebkeifaaW.PrintMore
attribute [local go_sem] max2_int min2_int max_two min_two max_three min_three max_four min_four   -- for this text's walks alone
set_option linter.unusedVariables false
set_option linter.unusedSimpArgs false

/-! ### qdigest_Check: function 13 -/
mutual
def qdigest_Check.j0 : Nat → Bool → Int → Int → Int → List (S63) → Option (Int)
  | 0, _, _, _, _, _ => none
  | k + 1, x25, x107000, x107001, x107002, x107003 => if x25 = true then (some 1) else (if x107002 < 0 then (qdigest_Check.j1 k true x107000 x107001 x107002 x107003) else (if x107002 > 1099511627776 then (qdigest_Check.j1 k true x107000 x107001 x107002 x107003) else (qdigest_Check.j1 k (decide ((x107003.length : Int) > 2000)) x107000 x107001 x107002 x107003)))
def qdigest_Check.j1 : Nat → Bool → Int → Int → Int → List (S63) → Option (Int)
  | 0, _, _, _, _, _ => none
  | k + 1, x39, x107000, x107001, x107002, x107003 => if x39 = true then (some 1) else (if x107001 = 0 then (none) else (qdigest_Check.l0 k (wrap64 (Int.tdiv x107002 x107001)) 0 0 x107003 (x107003.length : Int) 0 x107000 x107001 x107002 x107003))
def qdigest_Check.l0 : Nat → Int → Int → Int → List (S63) → Int → Int → Int → Int → Int → List (S63) → Option (Int)
  | 0, _, _, _, _, _, _, _, _, _, _ => none
  | k + 1, x3, x4, x5, x46, x47, x48, x107000, x107001, x107002, x107003 => if x48 < x47 then (if 0 ≤ x48 then (if x48 < (x46.length : Int) then (if ((rd_T63 x46 x48).f0) ≤ x5 then (qdigest_Check.j3 k x3 x4 x46 x47 x48 true x107000 x107001 x107002 x107003 ((rd_T63 x46 x48).f0) ((rd_T63 x46 x48).f1)) else (if 0 ≤ x107000 then (if ((rd_T63 x46 x48).f0) ≥ (shl .i64 2 x107000) then (qdigest_Check.j3 k x3 x4 x46 x47 x48 true x107000 x107001 x107002 x107003 ((rd_T63 x46 x48).f0) ((rd_T63 x46 x48).f1)) else (if ((rd_T63 x46 x48).f1) < 1 then (qdigest_Check.j3 k x3 x4 x46 x47 x48 true x107000 x107001 x107002 x107003 ((rd_T63 x46 x48).f0) ((rd_T63 x46 x48).f1)) else (qdigest_Check.j3 k x3 x4 x46 x47 x48 (decide (((rd_T63 x46 x48).f1) > x107002)) x107000 x107001 x107002 x107003 ((rd_T63 x46 x48).f0) ((rd_T63 x46 x48).f1)))) else (none))) else (none)) else (none)) else (if x4 = x107002 then (some 0) else (some 1))
def qdigest_Check.j3 : Nat → Int → Int → List (S63) → Int → Int → Bool → Int → Int → Int → List (S63) → Int → Int → Option (Int)
  | 0, _, _, _, _, _, _, _, _, _, _, _, _ => none
  | k + 1, x3, x4, x46, x47, x48, x75, x107000, x107001, x107002, x107003, x109000, x109001 => if x75 = true then (some 1) else (if 0 ≤ x107000 then (if x109000 < (shl .i64 1 x107000) then (if x109001 > x3 then (some 1) else (qdigest_Check.l0 k x3 (wrap64 (x4 + x109001)) x109000 x46 x47 (wrap64 (x48 + 1)) x107000 x107001 x107002 x107003)) else (qdigest_Check.l0 k x3 (wrap64 (x4 + x109001)) x109000 x46 x47 (wrap64 (x48 + 1)) x107000 x107001 x107002 x107003)) else (none))
end
def qdigest_Check.f (k : Nat) (a0_0 : Int) (a0_1 : Int) (a0_2 : Int) (l0_3 : List (S63)) : Option (Int) := if a0_0 < 1 then (qdigest_Check.j0 k true a0_0 a0_1 a0_2 l0_3) else (if a0_0 > 20 then (qdigest_Check.j0 k true a0_0 a0_1 a0_2 l0_3) else (if a0_1 < 1 then (qdigest_Check.j0 k true a0_0 a0_1 a0_2 l0_3) else (qdigest_Check.j0 k (decide (a0_1 > 10000)) a0_0 a0_1 a0_2 l0_3)))
theorem qdigest_Check.mono_l : ∀ k, (∀ y0 y1 y2 y3 y4, LeO (qdigest_Check.j0 k y0 y1 y2 y3 y4) (qdigest_Check.j0 (k + 1) y0 y1 y2 y3 y4)) ∧ (∀ y0 y1 y2 y3 y4, LeO (qdigest_Check.j1 k y0 y1 y2 y3 y4) (qdigest_Check.j1 (k + 1) y0 y1 y2 y3 y4)) ∧ (∀ y0 y1 y2 y3 y4 y5 y6 y7 y8 y9, LeO (qdigest_Check.l0 k y0 y1 y2 y3 y4 y5 y6 y7 y8 y9) (qdigest_Check.l0 (k + 1) y0 y1 y2 y3 y4 y5 y6 y7 y8 y9)) ∧ (∀ y0 y1 y2 y3 y4 y5 y6 y7 y8 y9 y10 y11, LeO (qdigest_Check.j3 k y0 y1 y2 y3 y4 y5 y6 y7 y8 y9 y10 y11) (qdigest_Check.j3 (k + 1) y0 y1 y2 y3 y4 y5 y6 y7 y8 y9 y10 y11))
  | 0 => ⟨fun _ _ _ _ _ r h => by simp [qdigest_Check.j0] at h, fun _ _ _ _ _ r h => by simp [qdigest_Check.j1] at h, fun _ _ _ _ _ _ _ _ _ _ r h => by simp [qdigest_Check.l0] at h, fun _ _ _ _ _ _ _ _ _ _ _ _ r h => by simp [qdigest_Check.j3] at h⟩
  | k + 1 => by
    obtain ⟨ih0, ih1, ih2, ih3⟩ := qdigest_Check.mono_l k
    refine ⟨?_, ?_, ?_, ?_⟩
    · intro y0 y1 y2 y3 y4
      unfold qdigest_Check.j0
      repeat' first
      | (with_reducible exact ih0 _ _ _ _ _)
      | (with_reducible exact ih1 _ _ _ _ _)
      | (with_reducible exact ih2 _ _ _ _ _ _ _ _ _ _)
      | (with_reducible exact ih3 _ _ _ _ _ _ _ _ _ _ _ _)
      | (with_reducible exact LeO.refl _)
      | (with_reducible exact LeO.none _)
      | (with_reducible refine LeO.ite ?_ ?_)
      | (with_reducible refine LeO.bind ?_ (fun _ => ?_))
      | exact ih0 _ _ _ _ _
      | exact ih1 _ _ _ _ _
      | exact ih2 _ _ _ _ _ _ _ _ _ _
      | exact ih3 _ _ _ _ _ _ _ _ _ _ _ _
      | exact LeO.none _
      | refine LeO.ite ?_ ?_
      | refine LeO.bind ?_ (fun _ => ?_)
    · intro y0 y1 y2 y3 y4
      unfold qdigest_Check.j1
      repeat' first
      | (with_reducible exact ih0 _ _ _ _ _)
      | (with_reducible exact ih1 _ _ _ _ _)
      | (with_reducible exact ih2 _ _ _ _ _ _ _ _ _ _)
      | (with_reducible exact ih3 _ _ _ _ _ _ _ _ _ _ _ _)
      | (with_reducible exact LeO.refl _)
      | (with_reducible exact LeO.none _)
      | (with_reducible refine LeO.ite ?_ ?_)
      | (with_reducible refine LeO.bind ?_ (fun _ => ?_))
      | exact ih0 _ _ _ _ _
      | exact ih1 _ _ _ _ _
      | exact ih2 _ _ _ _ _ _ _ _ _ _
      | exact ih3 _ _ _ _ _ _ _ _ _ _ _ _
      | exact LeO.none _
      | refine LeO.ite ?_ ?_
      | refine LeO.bind ?_ (fun _ => ?_)
    · intro y0 y1 y2 y3 y4 y5 y6 y7 y8 y9
      unfold qdigest_Check.l0
      repeat' first
      | (with_reducible exact ih0 _ _ _ _ _)
      | (with_reducible exact ih1 _ _ _ _ _)
      | (with_reducible exact ih2 _ _ _ _ _ _ _ _ _ _)
      | (with_reducible exact ih3 _ _ _ _ _ _ _ _ _ _ _ _)
      | (with_reducible exact LeO.refl _)
      | (with_reducible exact LeO.none _)
      | (with_reducible refine LeO.ite ?_ ?_)
      | (with_reducible refine LeO.bind ?_ (fun _ => ?_))
      | exact ih0 _ _ _ _ _
      | exact ih1 _ _ _ _ _
      | exact ih2 _ _ _ _ _ _ _ _ _ _
      | exact ih3 _ _ _ _ _ _ _ _ _ _ _ _
      | exact LeO.none _
      | refine LeO.ite ?_ ?_
      | refine LeO.bind ?_ (fun _ => ?_)
    · intro y0 y1 y2 y3 y4 y5 y6 y7 y8 y9 y10 y11
      unfold qdigest_Check.j3
      repeat' first
      | (with_reducible exact ih0 _ _ _ _ _)
      | (with_reducible exact ih1 _ _ _ _ _)
      | (with_reducible exact ih2 _ _ _ _ _ _ _ _ _ _)
      | (with_reducible exact ih3 _ _ _ _ _ _ _ _ _ _ _ _)
      | (with_reducible exact LeO.refl _)
      | (with_reducible exact LeO.none _)
      | (with_reducible refine LeO.ite ?_ ?_)
      | (with_reducible refine LeO.bind ?_ (fun _ => ?_))
      | exact ih0 _ _ _ _ _
      | exact ih1 _ _ _ _ _
      | exact ih2 _ _ _ _ _ _ _ _ _ _
      | exact ih3 _ _ _ _ _ _ _ _ _ _ _ _
      | exact LeO.none _
      | refine LeO.ite ?_ ?_
      | refine LeO.bind ?_ (fun _ => ?_)
theorem qdigest_Check.mono : ∀ a0 a1 a2 a3 k, LeO (qdigest_Check.f k a0 a1 a2 a3) (qdigest_Check.f (k + 1) a0 a1 a2 a3) := by
  intro a0 a1 a2 a3 k
  obtain ⟨ih0, ih1, ih2, ih3⟩ := qdigest_Check.mono_l k
  unfold qdigest_Check.f
  repeat' first
      | (with_reducible exact ih0 _ _ _ _ _)
      | (with_reducible exact ih1 _ _ _ _ _)
      | (with_reducible exact ih2 _ _ _ _ _ _ _ _ _ _)
      | (with_reducible exact ih3 _ _ _ _ _ _ _ _ _ _ _ _)
      | (with_reducible exact LeO.refl _)
      | (with_reducible exact LeO.none _)
      | (with_reducible refine LeO.ite ?_ ?_)
      | (with_reducible refine LeO.bind ?_ (fun _ => ?_))
      | exact ih0 _ _ _ _ _
      | exact ih1 _ _ _ _ _
      | exact ih2 _ _ _ _ _ _ _ _ _ _
      | exact ih3 _ _ _ _ _ _ _ _ _ _ _ _
      | exact LeO.none _
      | refine LeO.ite ?_ ?_
      | refine LeO.bind ?_ (fun _ => ?_)
open Go.Proofs.Ytcgimjoebkeifaa.Chk
theorem qdigest_Check.shl1 {b : Int} (h1 : 1 ≤ b) (h2 : b ≤ 20) : shl .i64 1 b = 2 ^ b.toNat ∧ shl .i64 2 b = 2 * 2 ^ b.toNat := by
  obtain ⟨n, rfl⟩ := Int.eq_ofNat_of_zero_le (by omega : 0 ≤ b)
  have : ∀ n : Nat, n ≤ 20 → shl .i64 1 (n : Int) = 2 ^ (n : Int).toNat ∧ shl .i64 2 (n : Int) = 2 * 2 ^ (n : Int).toNat := by decide
  exact this n (by omega)
theorem qdigest_Check.next {s x c : Int} {i : Nat} (h1 : 0 ≤ s) (h2 : s ≤ i * 1099511627776) (h3 : ¬ x < 1) (h4 : ¬ x > c) (hc : c ≤ 1099511627776) (hi : i < 2000) : wrap64 (s + x) = s + x ∧ 0 ≤ s + x ∧ s + x ≤ ((i + 1 : Nat) : Int) * 1099511627776 := by
  unfold wrap64; omega
theorem qdigest_Check.inext {i : Nat} (hi : i < 2000) : wrap64 ((i : Int) + 1) = ((i + 1 : Nat) : Int) := by unfold wrap64; omega
set_option maxHeartbeats 2000000 in
theorem qdigest_Check.l0_is (b K c p thr : Int) (xs : List S63) (e1 : shl .i64 1 b = p) (e2 : shl .i64 2 b = 2 * p) (hb1 : 0 ≤ b) (hc2 : c ≤ 1099511627776) (hl : xs.length ≤ 2000) : ∀ (k i : Nat) (bef sum r : Int), (0 ≤ sum ∧ sum ≤ i * 1099511627776) → i ≤ xs.length →
    qdigest_Check.l0 k thr sum bef xs xs.length i b K c xs = some r → r = chkL p thr c (xs.drop i) bef sum := by
  intro k
  induction k using Nat.strongRecOn with
  | ind k ih =>
    intro i bef sum r hs hi h
    match k, h with
    | 0, h => simp [qdigest_Check.l0] at h
    | k + 1, h =>
      rw [qdigest_Check.l0] at h
      by_cases hin : (i : Int) < xs.length
      case neg =>
        rw [if_neg hin] at h
        rw [List.drop_eq_nil_of_le (by omega), chkL]
        split at h <;> simp_all
      rw [if_pos hin, if_pos (by omega), if_pos hin, if_pos hb1, e2] at h
      rw [Chk.drop_rd xs i (by omega), chkL]
      generalize rd_T63 xs (i : Int) = y at *
      match k, h with
      | 0, h =>
        simp only [qdigest_Check.j3] at h
        split at h <;> (try split at h) <;> (try split at h) <;> simp at h
      | k + 1, h =>
        simp only [qdigest_Check.j3, e1, if_true, decide_eq_true_eq] at h
        by_cases g1 : y.f0 ≤ bef
        · rw [if_pos g1] at h ⊢; exact (Option.some.inj h).symm
        rw [if_neg g1] at h ⊢
        by_cases g2 : y.f0 ≥ 2 * p
        · rw [if_pos g2] at h ⊢; exact (Option.some.inj h).symm
        rw [if_neg g2] at h ⊢
        by_cases g3 : y.f1 < 1
        · rw [if_pos g3] at h ⊢; exact (Option.some.inj h).symm
        rw [if_neg g3] at h ⊢
        by_cases g4 : y.f1 > c
        · rw [if_pos g4] at h ⊢; exact (Option.some.inj h).symm
        rw [if_neg g4, if_pos hb1] at h
        rw [if_neg g4]
        have hi2 : i < 2000 := by omega
        obtain ⟨hw, hn1, hn2⟩ := qdigest_Check.next hs.1 hs.2 g3 g4 hc2 hi2
        have hi3 : i + 1 ≤ xs.length := by omega
        rw [hw, qdigest_Check.inext hi2] at h
        by_cases g5 : y.f0 < p
        · rw [if_pos g5] at h
          by_cases g6 : y.f1 > thr
          · rw [if_pos g6] at h
            rw [if_pos ⟨g5, g6⟩]
            exact (Option.some.inj h).symm
          · rw [if_neg g6] at h
            rw [if_neg (fun hh => g6 hh.2)]
            exact ih k (by omega) (i + 1) _ _ r ⟨hn1, hn2⟩ hi3 h
        · rw [if_neg g5] at h
          rw [if_neg (fun hh => g5 hh.1)]
          exact ih k (by omega) (i + 1) _ _ r ⟨hn1, hn2⟩ hi3 h
theorem qdigest_Check.f_is {k : Nat} {b K c r : Int} {xs : List S63} (h : qdigest_Check.f k b K c xs = some r) : r = chkF b K c xs := by
  have one0 : ∀ {k}, qdigest_Check.j0 k true b K c xs = some r → r = 1 := fun {k} h => by
    cases k with
    | zero => simp [qdigest_Check.j0] at h
    | succ k => rw [qdigest_Check.j0, if_pos rfl] at h; exact (Option.some.inj h).symm
  have one1 : ∀ {k}, qdigest_Check.j1 k true b K c xs = some r → r = 1 := fun {k} h => by
    cases k with
    | zero => simp [qdigest_Check.j1] at h
    | succ k => rw [qdigest_Check.j1, if_pos rfl] at h; exact (Option.some.inj h).symm
  unfold qdigest_Check.f at h
  unfold chkF
  by_cases h1 : b < 1
  · rw [if_pos h1] at h; rw [if_neg (by omega)]; exact one0 h
  rw [if_neg h1] at h
  by_cases h2 : b > 20
  · rw [if_pos h2] at h; rw [if_neg (by omega)]; exact one0 h
  rw [if_neg h2] at h
  by_cases h3 : K < 1
  · rw [if_pos h3] at h; rw [if_neg (by omega)]; exact one0 h
  rw [if_neg h3] at h
  by_cases h4 : K > 10000
  · rw [decide_eq_true h4] at h; rw [if_neg (by omega)]; exact one0 h
  rw [decide_eq_false h4] at h
  match k, h with
  | 0, h => simp [qdigest_Check.j0] at h
  | k + 1, h =>
    rw [qdigest_Check.j0, if_neg (by decide)] at h
    by_cases h5 : c < 0
    · rw [if_pos h5] at h; rw [if_neg (by omega)]; exact one1 h
    rw [if_neg h5] at h
    by_cases h6 : c > 1099511627776
    · rw [if_pos h6] at h; rw [if_neg (by omega)]; exact one1 h
    rw [if_neg h6] at h
    by_cases h7 : (xs.length : Int) > 2000
    · rw [decide_eq_true h7] at h; rw [if_neg (by omega)]; exact one1 h
    rw [decide_eq_false h7] at h
    match k, h with
    | 0, h => simp [qdigest_Check.j1] at h
    | k + 1, h =>
      have hq : wrap64 (Int.tdiv c K) = c / K := by
        rw [Int.tdiv_eq_ediv_of_nonneg (by omega)]
        have := Int.ediv_nonneg (by omega : 0 ≤ c) (by omega : 0 ≤ K)
        have := Int.ediv_le_self K (by omega : 0 ≤ c)
        unfold wrap64
        omega
      rw [qdigest_Check.j1, if_neg (by decide), if_neg (by omega), hq] at h
      rw [if_pos (by omega)]
      obtain ⟨e1, e2⟩ := qdigest_Check.shl1 (b := b) (by omega) (by omega)
      have := qdigest_Check.l0_is b K c _ (c / K) xs e1 e2 (by omega) (by omega) (by omega) k 0 0 0 r ⟨by omega, by omega⟩ (by omega) h
      rwa [List.drop_zero] at this
theorem qdigest_Check.calls (k : Nat) (a0_0 : Int) (a0_1 : Int) (a0_2 : Int) (A0_3 : Option Addr) (c0_3 : Nat) (l0_3 : List (S63)) (r : Int) (w : World) (hr0_3 : Kd.C k63 w A0_3 l0_3.length l0_3) (hc0_3 : l0_3.length ≤ c0_3) (h : qdigest_Check.f k a0_0 a0_1 a0_2 l0_3 = some r) :
    Calls Try.prog 13 #[.agg #[.int .i64 a0_0, .int .i64 a0_1, .int .i64 a0_2, .slice A0_3 l0_3.length c0_3]] w fun e w' => e = .returned (.int .i64 r) ∧ Below w.heap.size w w' := by
  rw [qdigest_Check.f_is h]
  unfold chkF
  by_cases hv : (1 ≤ a0_0 ∧ a0_0 ≤ 20) ∧ (1 ≤ a0_1 ∧ a0_1 ≤ 10000) ∧ (0 ≤ a0_2 ∧ a0_2 ≤ 1099511627776) ∧ l0_3.length ≤ 2000
  · rw [if_pos hv]
    exact check_main a0_0 a0_1 a0_2 A0_3 c0_3 l0_3 w hr0_3 hc0_3 hv.1 hv.2.1 hv.2.2.1 hv.2.2.2
  · rw [if_neg hv]
    exact check_early a0_0 a0_1 a0_2 A0_3 c0_3 l0_3 w hc0_3 hv
end Go.Proofs.Ytcgimjoebkeifaa.PQ
