/- Parts of one proof, one behind the other (put together by wip/merge.py out of: Hquan, PQxf31, AwakeP, Awake, RowC, PureI). No conditions beyond each theorem's own. -/
import Derived.KernelRfl
import Derived.Test.YtcgimjoebkeifaaRows
import Derived.WalkKit
import Derived.ProofKit
import Derived.OpenShut
import Derived.ShutString
import Derived.ChangeOld
import Derived.Below
import Derived.SizedLaws
import Derived.Carry
import Derived.Test.YtcgimjoebkeifaaQC1
import Derived.Test.YtcgimjoebkeifaaQC2
import Derived.Test.YtcgimjoebkeifaaQC3
import Derived.Test.YtcgimjoebkeifaaQC4
import Derived.Test.YtcgimjoebkeifaaQC5
import Derived.Test.YtcgimjoebkeifaaQC6
import Derived.Test.YtcgimjoebkeifaaQC7
/- qdigest.Quantile as a Lean function, with a proof that the call answers so. Conditions: the nodes lie in memory as given. -/
namespace Go.Proofs.Ytcgimjoebkeifaa.PQ
set_option linter.unusedSimpArgs false
set_option linter.unusedVariables false
open Go.RowKit Go.Proofs.YtcgimjoebkeifaaW.PrintWords Go.Proofs.Ytcgimjoebkeifaa.Quan Go.Proofs.YtcgimjoebkeifaaW.PrintLast Go.Proofs.YtcgimjoebkeifaaW.PrintMore
def qdigest_Quantile.f (k : Nat) (a0_0 : Int) (a0_1 : Int) (a0_2 : Int) (l0_3 : List (S63)) (a1_0 : Int) (a1_1 : Int) : Option (Int × Int × Int) :=
  (qdigest_Check.f k a0_0 a0_1 a0_2 l0_3).bind fun t => if t = 0 then ((ratio_Check.f k a1_0 a1_1).bind fun u => if u = 0 then quanF a0_0 a0_2 l0_3 a1_0 a1_1 else some (0, 0, 1)) else some (0, 0, 1)
theorem qdigest_Quantile.mono : ∀ a0 a1 a2 a3 a4 a5 k, LeO (qdigest_Quantile.f k a0 a1 a2 a3 a4 a5) (qdigest_Quantile.f (k + 1) a0 a1 a2 a3 a4 a5) := by
  intro a0 a1 a2 a3 a4 a5 k
  unfold qdigest_Quantile.f
  refine LeO.bind (qdigest_Check.mono _ _ _ _ _) (fun t => ?_)
  refine LeO.ite ?_ (LeO.refl _)
  refine LeO.bind (ratio_Check.mono _ _ _) (fun u => ?_)
  exact LeO.refl _
theorem qdigest_Quantile.calls (k : Nat) (a0_0 : Int) (a0_1 : Int) (a0_2 : Int) (A0_3 : Option Addr) (c0_3 : Nat) (l0_3 : List (S63)) (a1_0 : Int) (a1_1 : Int) (r1 : Int) (r2 : Int) (r3 : Int) (w : World) (hr0_3 : Kd.C k63 w A0_3 l0_3.length l0_3) (hc0_3 : l0_3.length ≤ c0_3) (h : qdigest_Quantile.f k a0_0 a0_1 a0_2 l0_3 a1_0 a1_1 = some (r1, r2, r3)) :
    Calls Try.prog 25 #[.agg #[.int .i64 a0_0, .int .i64 a0_1, .int .i64 a0_2, .slice A0_3 l0_3.length c0_3], .agg #[.int .i64 a1_0, .int .i64 a1_1]] w fun e w' => e = .returned (.tuple #[.int .i64 r1, .int .i64 r2, .int .i64 r3]) ∧ Below w.heap.size w w' := by
  unfold qdigest_Quantile.f at h
  obtain ⟨t, ht, h⟩ := Option.bind_eq_some_iff.1 h
  by_cases h0 : t = 0
  · rw [if_pos h0] at h
    subst h0
    obtain ⟨u, hu, h⟩ := Option.bind_eq_some_iff.1 h
    by_cases h1 : u = 0
    · rw [if_pos h1] at h
      subst h1
      unfold quanF at h
      by_cases hq : a1_0 < 0 ∨ a1_1 < a1_0
      · rw [if_pos hq] at h
        simp only [Option.some.injEq, Prod.mk.injEq] at h
        obtain ⟨rfl, rfl, rfl⟩ := h
        exact quan_few k a0_0 a0_1 a0_2 a1_0 a1_1 2 A0_3 c0_3 l0_3 w hr0_3 hc0_3 ht hu (.inl ⟨hq, rfl⟩)
      · rw [if_neg hq] at h
        by_cases hz : a0_2 = 0
        · rw [if_pos hz] at h
          simp only [Option.some.injEq, Prod.mk.injEq] at h
          obtain ⟨rfl, rfl, rfl⟩ := h
          exact quan_few k a0_0 a0_1 a0_2 a1_0 a1_1 28 A0_3 c0_3 l0_3 w hr0_3 hc0_3 ht hu (.inr ⟨hq, hz, rfl⟩)
        · rw [if_neg hz] at h
          by_cases hok : QuanOk a0_0 a0_2 l0_3 a1_0 a1_1
          case neg => rw [if_neg hok] at h; cases h
          rw [if_pos hok] at h
          simp only [Option.some.injEq, Prod.mk.injEq] at h
          obtain ⟨rfl, rfl, rfl⟩ := h
          obtain ⟨n2, rfl⟩ := Int.eq_ofNat_of_zero_le hok.2.2.1.1
          obtain ⟨num, rfl⟩ := Int.eq_ofNat_of_zero_le hok.1.1
          obtain ⟨den, rfl⟩ := Int.eq_ofNat_of_zero_le (Int.le_of_lt hok.2.1.1)
          exact quan_yes k a0_0 a0_1 n2 num den A0_3 c0_3 l0_3 w hr0_3 hc0_3 ht hu (by omega) (by omega) hok
    · rw [if_neg h1] at h
      simp only [Option.some.injEq, Prod.mk.injEq] at h
      obtain ⟨rfl, rfl, rfl⟩ := h
      exact quan_no k a0_0 a0_1 a0_2 a1_0 a1_1 A0_3 c0_3 l0_3 0 u w hr0_3 hc0_3 ht (.inr ⟨rfl, hu, h1⟩)
  · rw [if_neg h0] at h
    simp only [Option.some.injEq, Prod.mk.injEq] at h
    obtain ⟨rfl, rfl, rfl⟩ := h
    exact quan_no k a0_0 a0_1 a0_2 a1_0 a1_1 A0_3 c0_3 l0_3 t 0 w hr0_3 hc0_3 ht (.inl h0)
end Go.Proofs.Ytcgimjoebkeifaa.PQ

/- Written by a program of this session (wip/patch_print.py): Go functions as Lean functions, each with a proof that the call does what its function says. No conditions beyond each theorem's own. -/
namespace Go.Proofs.Ytcgimjoebkeifaa.PQ
open Go.RowKit Go.Proofs.YtcgimjoebkeifaaW.PrintWords Go.Proofs.YtcgimjoebkeifaaW.PrintLast Go.Proofs.YtcgimjoebkeifaaW.PrintMore
attribute [local go_sem] max2_int min2_int max_two min_two max_three min_three max_four min_four   -- for this text's walks alone
set_option linter.unusedVariables false
set_option linter.unusedSimpArgs false

attribute [local go_sem high] eqA63
/-! ### api_DigestNode_31: function 31 -/
def api_DigestNode_31.l0 : Nat → List (S63) → List (S63) → Int → Int → Option (Bool)
  | 0, _, _, _, _ => none
  | k + 1, x0, x1, x12, x13 => if x13 < x12 then (if 0 ≤ x13 then (if x13 < (x0.length : Int) then (if x13 < (x1.length : Int) then (if (!(((rd_T63 x0 x13).f0) == ((rd_T63 x1 x13).f0)) || (!(((rd_T63 x0 x13).f1) == ((rd_T63 x1 x13).f1)))) = true then (some false) else (api_DigestNode_31.l0 k x0 x1 x12 (wrap64 (x13 + 1)))) else (none)) else (none)) else (none)) else (some true)
def api_DigestNode_31.f (k : Nat) (l0 : List (S63)) (l1 : List (S63)) : Option (Bool) := if (l0.length : Int) = (l1.length : Int) then (api_DigestNode_31.l0 k l0 l1 (l0.length : Int) 0) else (some false)
theorem api_DigestNode_31.mono_l : ∀ k, (∀ y0 y1 y2 y3, LeO (api_DigestNode_31.l0 k y0 y1 y2 y3) (api_DigestNode_31.l0 (k + 1) y0 y1 y2 y3))
  | 0 => fun _ _ _ _ r h => by simp [api_DigestNode_31.l0] at h
  | k + 1 => by
    have ih0 := api_DigestNode_31.mono_l k
    · intro y0 y1 y2 y3
      unfold api_DigestNode_31.l0
      repeat' first
      | (with_reducible exact ih0 _ _ _ _)
      | (with_reducible exact LeO.refl _)
      | (with_reducible exact LeO.none _)
      | (with_reducible refine LeO.ite ?_ ?_)
      | (with_reducible refine LeO.bind ?_ (fun _ => ?_))
      | exact ih0 _ _ _ _
      | exact LeO.none _
      | refine LeO.ite ?_ ?_
      | refine LeO.bind ?_ (fun _ => ?_)
theorem api_DigestNode_31.mono : ∀ a0 a1 k, LeO (api_DigestNode_31.f k a0 a1) (api_DigestNode_31.f (k + 1) a0 a1) := by
  intro a0 a1 k
  have ih0 := api_DigestNode_31.mono_l k
  unfold api_DigestNode_31.f
  repeat' first
      | (with_reducible exact ih0 _ _ _ _)
      | (with_reducible exact LeO.refl _)
      | (with_reducible exact LeO.none _)
      | (with_reducible refine LeO.ite ?_ ?_)
      | (with_reducible refine LeO.bind ?_ (fun _ => ?_))
      | exact ih0 _ _ _ _
      | exact LeO.none _
      | refine LeO.ite ?_ ?_
      | refine LeO.bind ?_ (fun _ => ?_)
set_option maxHeartbeats 8000000 in
set_option maxRecDepth 100000 in
theorem api_DigestNode_31.calls (k : Nat) (A0 : Option Addr) (c0 : Nat) (l0 : List (S63)) (A1 : Option Addr) (c1 : Nat) (l1 : List (S63)) (r : Bool) (w : World) (hr0 : Kd.C k63 w A0 l0.length l0) (hc0 : l0.length ≤ c0) (hr1 : Kd.C k63 w A1 l1.length l1) (hc1 : l1.length ≤ c1) (h : api_DigestNode_31.f k l0 l1 = some r) :
    Calls Try.prog 31 #[.slice A0 l0.length c0, .slice A1 l1.length c1] w fun e w' => e = .returned (.bool r) ∧ Drawn0 w w' := by
  have hu63 := Try.underlying63
  have HR0 := Aside0.mk hr0
  have HC0 := Aside0.mk hc0
  clear hr0 hc0
  have HR1 := Aside0.mk hr1
  have HC1 := Aside0.mk hc1
  clear hr1 hc1
  have H : (if (l0.length : Int) = (l1.length : Int) then (api_DigestNode_31.l0 k l0 l1 (l0.length : Int) 0) else (some false)) = some r := h
  clear h
  by_cases c3 : (l0.length : Int) = (l1.length : Int)
  · rw [if_pos c3] at H
    have c3b0 : ((l0.length : Int) == (l1.length : Int)) = true := beq_iff_eq.mpr c3
    have c3b1 : ((l0.length : Int) != (l1.length : Int)) = false := bne_eq_false_iff_eq.mpr c3
    have c3b2 : (l0.length == l1.length) = true := by first | simpa using c3 | (simp at c3 ⊢; omega)
    clear c3
    have H' := Aside0.mk H
    clear H
    go_enter Try.func31, Try.ntmps31
    go_wp2
    repeat (go_quiet (fail); try go_wp2)
    go_loopg [13] k (fun kq v13 w' => ∃ (x13_1 : Int), v13 = .int .i64 x13_1 ∧ Aside0 (api_DigestNode_31.l0 kq l0 l1 (l0.length : Int) x13_1 = some r) ∧ Aside0 (kq ≤ k) ∧ Drawn0 w w')
    case atStart => exact ⟨(0), (by first | rfl | (simp; done) | (simp [*]; done)), H', ⟨Nat.le_refl _⟩, by repeat (first | exact Drawn0.refl _ | apply Drawn0.step)⟩
    case round =>
      clear H'
      try clear c1
      try clear p2
      try clear c3
      try clear c3b0
      try clear c3b1
      try clear c3b2
      obtain ⟨x13_1, rfl, HA, HK1, ⟨m1, rfl⟩⟩ := hrel
      cases gk with
      | zero => exact absurd HA.out (by simp [api_DigestNode_31.l0])
      | succ k1 =>
        have H := HA.out
        clear HA
        simp only [api_DigestNode_31.l0] at H
        by_cases c4 : x13_1 < (l0.length : Int)
        · rw [if_pos c4] at H
          have c4b0 : decide (x13_1 < (l0.length : Int)) = true := decide_eq_true c4
          clear c4
          by_cases c5 : 0 ≤ x13_1
          · rw [if_pos c5] at H
            have c5b0 : decide (0 ≤ x13_1) = true := decide_eq_true c5
            clear c5
            by_cases c6 : x13_1 < (l0.length : Int)
            · rw [if_pos c6] at H
              have c6b0 : decide (x13_1 < (l0.length : Int)) = true := decide_eq_true c6
              clear c6
              by_cases c7 : x13_1 < (l1.length : Int)
              · rw [if_pos c7] at H
                have c7b0 : decide (x13_1 < (l1.length : Int)) = true := decide_eq_true c7
                clear c7
                by_cases c8 : (!(((rd_T63 l0 x13_1).f0) == ((rd_T63 l1 x13_1).f0)) || (!(((rd_T63 l0 x13_1).f1) == ((rd_T63 l1 x13_1).f1)))) = true
                · rw [if_pos c8] at H
                  have c8b0 : (!(((rd_T63 l0 x13_1).f0) == ((rd_T63 l1 x13_1).f0)) || (!(((rd_T63 l0 x13_1).f1) == ((rd_T63 l1 x13_1).f1)))) = true := c8
                  clear c8
                  obtain rfl := Option.some.inj H
                  have p158 : 0 ≤ (x13_1 : Int) := of_decide_eq_true (by first | (with_reducible assumption) | assumption)
                  have q158 : x13_1 < (l0.length : Int) := of_decide_eq_true (by first | (with_reducible assumption) | assumption)
                  obtain ⟨ad158, e158, hx158_0, hx158_1⟩ := at_T63 HR0.out x13_1 p158 q158
                  cases e158
                  replace p158 := eq_true p158
                  replace q158 := eq_true q158
                  have p159 : 0 ≤ (x13_1 : Int) := of_decide_eq_true (by first | (with_reducible assumption) | assumption)
                  have q159 : x13_1 < (l1.length : Int) := of_decide_eq_true (by first | (with_reducible assumption) | assumption)
                  obtain ⟨ad159, e159, hx159_0, hx159_1⟩ := at_T63 HR1.out x13_1 p159 q159
                  cases e159
                  replace p159 := eq_true p159
                  replace q159 := eq_true q159
                  go_wp2
                  repeat (go_quiet (fail); try go_wp2)
                  go_ret
                  exact ⟨by first | rfl | (simp; done) | (simp [*]; done), by repeat (first | exact Drawn0.refl _ | apply Drawn0.step)⟩
                · rw [if_neg c8] at H
                  have c8b0 : (!(((rd_T63 l0 x13_1).f0) == ((rd_T63 l1 x13_1).f0)) || (!(((rd_T63 l0 x13_1).f1) == ((rd_T63 l1 x13_1).f1)))) = false := by simpa using c8
                  clear c8
                  have H' := Aside0.mk H
                  clear H
                  have p158 : 0 ≤ (x13_1 : Int) := of_decide_eq_true (by first | (with_reducible assumption) | assumption)
                  have q158 : x13_1 < (l0.length : Int) := of_decide_eq_true (by first | (with_reducible assumption) | assumption)
                  obtain ⟨ad158, e158, hx158_0, hx158_1⟩ := at_T63 HR0.out x13_1 p158 q158
                  cases e158
                  replace p158 := eq_true p158
                  replace q158 := eq_true q158
                  have p159 : 0 ≤ (x13_1 : Int) := of_decide_eq_true (by first | (with_reducible assumption) | assumption)
                  have q159 : x13_1 < (l1.length : Int) := of_decide_eq_true (by first | (with_reducible assumption) | assumption)
                  obtain ⟨ad159, e159, hx159_0, hx159_1⟩ := at_T63 HR1.out x13_1 p159 q159
                  cases e159
                  replace p159 := eq_true p159
                  replace q159 := eq_true q159
                  go_wp2
                  repeat (go_quiet (fail); try go_wp2)
                  go_roundg k1
                  case measure => have := HK1.out; omega
                  case rel => exact ⟨(wrap64 (x13_1 + 1)), (by first | rfl | (simp; done) | (simp [*]; done)), H', ⟨by have := HK1.out; omega⟩, by repeat (first | exact Drawn0.refl _ | apply Drawn0.step)⟩
              · rw [if_neg c7] at H
                exact absurd H (by simp)
            · rw [if_neg c6] at H
              exact absurd H (by simp)
          · rw [if_neg c5] at H
            exact absurd H (by simp)
        · rw [if_neg c4] at H
          have c4b0 : decide (x13_1 < (l0.length : Int)) = false := decide_eq_false c4
          clear c4
          obtain rfl := Option.some.inj H
          go_wp2
          repeat (go_quiet (fail); try go_wp2)
          go_ret
          exact ⟨by first | rfl | (simp; done) | (simp [*]; done), by repeat (first | exact Drawn0.refl _ | apply Drawn0.step)⟩
  · rw [if_neg c3] at H
    have c3b0 : ((l0.length : Int) == (l1.length : Int)) = false := beq_eq_false_iff_ne.mpr c3
    have c3b1 : ((l0.length : Int) != (l1.length : Int)) = true := bne_iff_ne.mpr c3
    have c3b2 : (l0.length == l1.length) = false := by first | simpa using c3 | (simp at c3 ⊢; omega)
    obtain rfl := Option.some.inj H
    go_enter Try.func31, Try.ntmps31
    go_wp2
    repeat (go_quiet (fail); try go_wp2)
    go_ret
    exact ⟨by first | rfl | (simp; done) | (simp [*]; done), by repeat (first | exact Drawn0.refl _ | apply Drawn0.step)⟩

end Go.Proofs.Ytcgimjoebkeifaa.PQ

/- The chapter's example, in plain numbers. -/
namespace Go.Proofs.Ytcgimjoebkeifaa.LawC
set_option linter.unusedSimpArgs false
set_option linter.unusedVariables false
open Go.RowKit Go.Proofs.YtcgimjoebkeifaaW.PrintWords Go.Proofs.Ytcgimjoebkeifaa.PQ Go.Proofs.Ytcgimjoebkeifaa.QComp Go.Proofs.QComp Go.Proofs.QHeap Go.Proofs.Ytcgimjoebkeifaa.Quan
instance : DecidableEq S63 := fun a b => decidable_of_iff (a.f0 = b.f0 ∧ a.f1 = b.f1) (by cases a; cases b; simp)
def exX : List S63 := [⟨9, 2⟩, ⟨13, 1⟩, ⟨14, 1⟩]
def exY : List S63 := [⟨2, 2⟩, ⟨3, 2⟩]
theorem ex_of : lookoutlaw31_of.f 20 3 2 [1, 1, 5, 6] = some (3, 2, 4, exX, true) := by decide +kernel
theorem ex_rank : qdigest_Rank.f 20 3 2 4 exY 5 = some (2, 4, 0) := by decide +kernel
theorem ex_equal : api_DigestNode_31.f 20 exY exY = some true := by decide +kernel
theorem ex_check : qdigest_Check.f 20 3 2 4 exX = some 0 := by decide +kernel
theorem ex_checkY : qdigest_Check.f 20 3 2 4 exY = some 0 := by decide +kernel
theorem ex_ratio : ratio_Check.f 20 1 2 = some 0 := by decide +kernel
/-- The one ascending permutation. -/
theorem sorted_eq {cs ds : Cs} (hp : ds.Perm cs) (hs : ds.Pairwise (fun a b => a.1 < b.1)) : sorted cs = ds := by
  have hs2 : (sorted cs).Pairwise (fun a b => a.1 ≤ b.1) := by
    unfold sorted
    refine (List.pairwise_mergeSort ?_ ?_ _).imp (fun h => by simpa using h)
    · intro a b c h1 h2; simp at *; omega
    · intro a b; simp; omega
  have hinj : ∀ a ∈ ds, ∀ b ∈ ds, a.1 = b.1 → a = b := by
    clear hs2 hp
    induction ds with
    | nil => intro a ha; simp at ha
    | cons x ds ih =>
      obtain ⟨h1, h2⟩ := List.pairwise_cons.1 hs
      intro a ha b hb e
      rcases List.mem_cons.1 ha with ea | ha'
      · rcases List.mem_cons.1 hb with eb | hb'
        · rw [ea, eb]
        · have := h1 b hb'; rw [← ea] at this; omega
      · rcases List.mem_cons.1 hb with eb | hb'
        · have := h1 a ha'; rw [← eb] at this; omega
        · exact ih h2 a ha' b hb' e
  have hp2 : (sorted cs).Perm ds := (List.mergeSort_perm _ _).trans hp.symm
  refine List.Perm.eq_of_pairwise (le := fun a b => a.1 ≤ b.1) ?_ hs2 (hs.imp (fun h => Int.le_of_lt h)) hp2
  intro a b ha hb h1 h2
  exact hinj a (hp2.mem_iff.1 ha) b hb (Int.le_antisymm h1 h2)
theorem ex_loop : ∃ cs, loop (4 / 2) (2 ^ (3 : Int).toNat) 20 (fillS (exX.map pair) [] []).1 (heapInit (fillS (exX.map pair) [] []).2) = some cs ∧ [((2 : Int), (2 : Int)), (3, 2)].Perm cs ∧ Keyed cs ∧ cs.length ≤ 1000000 := by
  refine ⟨[(2, 2), (3, 2)], ?_, ?_, ?_, ?_⟩
  · decide +kernel
  · decide +kernel
  · decide +kernel
  · decide
theorem ex_comp : qdigest_Compress.f 20 3 2 4 exX = some (3, 2, 4, exY, 0) := by
  unfold qdigest_Compress.f
  rw [ex_check, Option.bind_some, if_pos rfl]
  obtain ⟨cs, h1, h2, h3, h4⟩ := ex_loop
  have : comp 20 3 2 4 (exX.map pair) = some [(2, 2), (3, 2)] := by
    unfold comp
    rw [if_pos (by decide +kernel), h1, Option.bind_some, if_pos ⟨h3, h4⟩, sorted_eq h2 (by decide)]
  rw [this]
  rfl
theorem ex_quan : qdigest_Quantile.f 20 3 2 4 exY 1 2 = some (0, 3, 0) := by
  unfold qdigest_Quantile.f
  rw [ex_checkY, Option.bind_some, if_pos rfl, ex_ratio, Option.bind_some, if_pos rfl]
  unfold quanF
  rw [if_neg (by decide), if_neg (by decide), if_pos (by decide +kernel)]
  have h1 := walkR_reachF (spanLo 3) (rankF 1 2 4) (List.Perm.refl exY) (by decide +kernel) (by decide) (by decide) (by decide)
  have h2 := walkR_reachF (spanHi 3) (rankF 1 2 4) (List.Perm.refl exY) (by decide +kernel) (by decide) (by decide) (by decide)
  rw [← h1, ← h2]
  decide +kernel
end Go.Proofs.Ytcgimjoebkeifaa.LawC

/- lookoutlaw31.awake: the chapter's example holds: the walk. -/
namespace Go.Proofs.Ytcgimjoebkeifaa.LawC
set_option linter.unusedSimpArgs false
set_option linter.unusedVariables false
open Go.RowKit Go.Proofs.YtcgimjoebkeifaaW.PrintWords Go.Proofs.Ytcgimjoebkeifaa.PQ Go.Proofs.Ytcgimjoebkeifaa.QComp Go.Proofs.Ytcgimjoebkeifaa.QHeap
set_option maxHeartbeats 4000000
theorem four_ints (w : World) : Kd.C (Kd.int .i64) (w.alloc (.cells #[.int .i64 1, .int .i64 1, .int .i64 5, .int .i64 6] 3)) (some ⟨w.heap.size, 0, none⟩) 4 ([1, 1, 5, 6] : List Int) := by
  refine ⟨rfl, by decide, fun _ => ⟨_, rfl, fun j p hj => ⟨[.int .i64 p], rfl, ?_, fun i u hu => ?_⟩⟩⟩
  · match j, hj with
    | 0, hj => simp at hj; subst hj; rfl
    | 1, hj => simp at hj; subst hj; rfl
    | 2, hj => simp at hj; subst hj; rfl
    | 3, hj => simp at hj; subst hj; rfl
  · have hb := blk_new w (.cells #[.int .i64 1, .int .i64 1, .int .i64 5, .int .i64 6] 3)
    match i, hu with
    | 0, hu =>
      simp at hu
      subst hu
      rw [Addr.add_lit]
      match j, hj with
      | 0, hj => simp at hj; subst hj; exact blk_cell hb 0
      | 1, hj => simp at hj; subst hj; exact blk_cell hb 1
      | 2, hj => simp at hj; subst hj; exact blk_cell hb 2
      | 3, hj => simp at hj; subst hj; exact blk_cell hb 3
theorem two_nodes (w : World) : Kd.C k63 (w.alloc (.cells #[.int .i64 2, .int .i64 2, .int .i64 3, .int .i64 2] 63)) (some ⟨w.heap.size, 0, none⟩) 2 exY := by
  refine ⟨rfl, by decide, fun _ => ⟨_, rfl, fun j p hj => ⟨[.int .i64 p.f0, .int .i64 p.f1], rfl, k63_mk _ _, fun i u hu => ?_⟩⟩⟩
  have hb := blk_new w (.cells #[.int .i64 2, .int .i64 2, .int .i64 3, .int .i64 2] 63)
  rw [Addr.add_lit]
  match i, hu with
  | 0, hu =>
    simp at hu
    subst hu
    match j, hj with
    | 0, hj => simp [exY] at hj; subst hj; exact blk_cell hb 0
    | 1, hj => simp [exY] at hj; subst hj; exact blk_cell hb 2
  | 1, hu =>
    simp at hu
    subst hu
    match j, hj with
    | 0, hj => simp [exY] at hj; subst hj; exact blk_cell hb 1
    | 1, hj => simp [exY] at hj; subst hj; exact blk_cell hb 3
set_option maxRecDepth 100000 in
theorem awake_holds : AwakeHolds := by
  intro w
  have hof := fun W A c (hW : Kd.C (Kd.int .i64) W A 4 [1, 1, 5, 6]) (hc : 4 ≤ c) => lookoutlaw31_of.calls 20 3 2 A c [1, 1, 5, 6] 3 2 4 exX true W hW hc ex_of
  have hcm := fun W A c (hW : Kd.C k63 W A exX.length exX) hc => qdigest_Compress.calls 20 3 2 4 A c exX 3 2 4 exY 0 W hW hc ex_comp
  have HRK := Lib.hid (fun W A c (hW : Kd.C k63 W A exY.length exY) hc => qdigest_Rank.calls 20 3 2 4 A c exY 5 2 4 0 W hW hc ex_rank)
  have HQU := Lib.hid (fun W A c (hW : Kd.C k63 W A exY.length exY) hc => qdigest_Quantile.calls 20 3 2 4 A c exY 1 2 0 3 0 W hW hc ex_quan)
  have HEQ := Lib.hid (fun W A c A' c' (hW : Kd.C k63 W A exY.length exY) hc (hW' : Kd.C k63 W A' exY.length exY) hc' => api_DigestNode_31.calls 20 A c exY A' c' exY true W hW hc hW' hc' ex_equal)
  have hlY : exY.length = 2 := rfl
  go_enter Try.func10, Try.ntmps10
  go_wp2_with fail
  refine (hof _ _ _ (four_ints w) (by decide)).mono ?_
  rintro e w1 ⟨v1, rfl, hR1, hB1⟩
  obtain ⟨A1, c1, rfl, hc1, hC1⟩ := Kd.R_reads hR1
  have hcm1 := hcm (w1.alloc (.cells (dcells 3 2 4 (.slice A1 exX.length c1)) 24)) A1 c1 (Kd.C_alloc hC1 _) hc1
  have H1 := Lib.hid (((Below.refl w.heap.size w).alloc (Nat.le_refl _) (.cells #[.int .i64 1, .int .i64 1, .int .i64 5, .int .i64 6] 3)).trans (hB1.mono (by simp)))
  clear hR1 hC1 hof hcm hB1
  go_wp2_with fail
  refine hcm1.mono ?_
  rintro e w2 ⟨v2, rfl, hR2, hB2⟩
  obtain ⟨A2, c2, rfl, hc2, hC2⟩ := Kd.R_reads hR2
  have H2 := Lib.hid (H1.out.trans ((((Below.refl w1.heap.size w1).alloc (Nat.le_refl _) (.cells (dcells 3 2 4 (.slice A1 exX.length c1)) 24)).trans (hB2.mono (by simp))).mono H1.out.size))
  rw [hlY] at hc2 hC2 ⊢
  have hy := blk_new w2 (.cells (dcells 3 2 4 (.slice A2 2 c2)) 24)
  have hC3 := Kd.C_alloc hC2 (.cells (dcells 3 2 4 (.slice A2 2 c2)) 24)
  have hb3 := (Below.refl w2.heap.size w2).alloc (Nat.le_refl _) (.cells (dcells 3 2 4 (.slice A2 2 c2)) 24)
  have hlt : w2.heap.size < (w2.alloc (.cells (dcells 3 2 4 (.slice A2 2 c2)) 24)).heap.size := by simp
  have H3 := Lib.hid (H2.out.trans (hb3.mono H2.out.size))
  have hrk := HRK.out _ A2 c2 hC3 hc2
  clear hcm1 hR2 hB2 H2 hb3
  go_wp2_with fail
  refine hrk.mono ?_
  rintro e w4 ⟨rfl, hB4⟩
  have BY4 := Lib.hid ((hB4.block _ hlt).trans hy)
  have HC4 := Lib.hid (Kd.C_below hC3 hB4)
  have H4 := Lib.hid (H3.out.trans (hB4.mono H3.out.size))
  have hlt4 : w2.heap.size < w4.heap.size := by have := hB4.size; omega
  clear hrk hy hC3 hB4 H3 hC2
  have y0 := blk_cell BY4.out 0
  have y1 := blk_cell BY4.out 1
  have y2 := blk_cell BY4.out 2
  have y3 := blk_cell BY4.out 3
  simp at y0 y1 y2 y3
  have hqu := HQU.out w4 A2 c2 HC4.out hc2
  go_wp2_with fail
  refine hqu.mono ?_
  rintro e w5 ⟨rfl, hB5⟩
  have BY5 := Lib.hid ((hB5.block _ hlt4).trans BY4.out)
  have HC5 := Lib.hid (Kd.C_below HC4.out hB5)
  have H5 := Lib.hid (H4.out.trans (hB5.mono H4.out.size))
  clear hqu hB5 y0 y1 y2 y3
  have y3 := blk_cell BY5.out 3
  simp at y3
  have hbe := (Below.refl w5.heap.size w5).alloc (Nat.le_refl _) (.cells #[.int .i64 2, .int .i64 2, .int .i64 3, .int .i64 2] 63)
  have heq := HEQ.out _ A2 c2 _ 2 (Kd.C_below HC5.out hbe) hc2 (two_nodes w5) (by decide)
  go_wp2_with fail
  refine heq.mono ?_
  rintro e w6 ⟨rfl, hd⟩
  go_wp2_with fail
  go_ret
  have H6 := H5.out.trans (hbe.mono H5.out.size)
  exact ⟨rfl, H6.trans (hd.below.mono H6.size)⟩
end Go.Proofs.Ytcgimjoebkeifaa.LawC

/- The law QdigestCompress: the row, out of the walk and the pure part. -/
namespace Go.Proofs.Ytcgimjoebkeifaa.qdigestCompress
open Go.ChangeShapes Go.WideShapes Go.ChangeAt Go.RowKit Go.Proofs.YtcgimjoebkeifaaW.PrintWords Go.Proofs.Ytcgimjoebkeifaa.PQ Go.Proofs.Ytcgimjoebkeifaa.LawC
set_option linter.unusedVariables false
theorem own : ownKnob Try.prog.godebug = none := by kernel_rfl
theorem laidOut : laidOutB Try.prog = true := by kernel_rfl
/-- What is to be shown in plain numbers. -/
def Pure : Prop := ∀ (b K c v : Int) (xs : List S63), I64 b → I64 K → I64 c → (∀ x ∈ xs, I64 x.f0 ∧ I64 x.f1) → (0 ≤ v ∧ v ≤ 255) →
  lookoutref31_Great.f b K c xs = some true ∨
  (lookoutref31_Great.f b K c xs = some false ∧ ∃ k t, lookoutref31_Check.f k b K c xs = some t ∧ ¬ t = 0) ∨
  (lookoutref31_Great.f b K c xs = some false ∧ (1 ≤ b ∧ b ≤ 20) ∧ (1 ≤ K ∧ K ≤ 10000) ∧ ∃ (k : Nat) (ys : List S63) (lo hi lo2 hi2 : Int), lookoutref31_Check.f k b K c xs = some 0 ∧
    qdigest_Compress.f k b K c xs = some (b, K, c, ys, 0) ∧ qdigest_Compress.f k b K c ys = some (b, K, c, ys, 0) ∧
    qdigest_Rank.f k b K c xs (v % 2 ^ b.toNat) = some (lo, hi, 0) ∧ qdigest_Rank.f k b K c ys (v % 2 ^ b.toNat) = some (lo2, hi2, 0) ∧
    qdigest_Check.f k b K c ys = some 0 ∧ lookoutref31_Same.f k b K c ys b K c ys = some true ∧ (ys.length : Int) < 4 * K ∧ lo2 ≤ lo ∧ hi ≤ hi2)
theorem walk (P : Pure) (b K c v : Int) (A : Option Addr) (cap : Nat) (xs : List S63) (w : World) (wb : I64 b) (wK : I64 K) (wc : I64 c) (hn : ∀ x ∈ xs, I64 x.f0 ∧ I64 x.f1) (hv : (Lit.int .u8 v).wf = true) (hr : Kd.C k63 w A xs.length xs) (hc : xs.length ≤ cap) :
    Calls Try.prog 3 #[.agg #[.int .i64 b, .int .i64 K, .int .i64 c, .slice A xs.length cap], .int .u8 v] w fun e w' => e = .returned (.bool true) ∧ Below w.heap.size w w' := by
  have hv' : 0 ≤ v ∧ v ≤ 255 := by
    simp [Lit.wf, IntKind.min, IntKind.max, IntKind.signed, IntKind.bits] at hv
    omega
  rcases P b K c v xs wb wK wc hn hv' with h | ⟨h, k, t, h2, h3⟩ | ⟨h, hb, hK, k, ys, lo, hi, lo2, hi2, h2, h3, h4, h5, h6, h7, h8, h9, h10, h11⟩
  · exact law_great awake_holds b K c v A cap xs w hr hc h
  · exact law_invalid awake_holds k b K c v t A cap xs w hr hc h h2 h3
  · exact law_valid awake_holds k b K c v A cap xs ys lo hi lo2 hi2 w hr hc h h2 hb hK hv' h3 h4 h5 h6 h7 h8 h9 h10 h11
set_option maxRecDepth 100000 in
theorem lifted (P : Pure) (os : Os) (started : os.Started) (H : Type) (enc : TypeId × Value → H) :
    ReturnsInHanded {} Try.checked os 3 .any (Rows.qdigestCompressSpec.pre6 enc Try.prog Try.f3 Rows.qdigestCompressRow.domain false) (Rows.qdigestCompressSpec.post enc Try.prog Try.f3 false true false false) := by
  refine returnsInHanded_of_change_sized (C := Try.checked) own started (by kernel_rfl) Try.func3
    (ChangeSpec.witness6 (enc := enc) (C := Try.checked) false ⟨#[], #[.agg #[.int .i64 0, .int .i64 0, .int .i64 0, .slice none 0 0], .int .u8 0], []⟩ 8 (by kernel_rfl) (by kernel_rfl) (by kernel_rfl) (by kernel_rfl)) ?_
  intro W base args ds gs before hval0 hW hcnd hsz0 _
  have hval : ∀ (j : Nat) t v, Try.f3.params[j]? = some t → args[j]? = some v → Value.okWide Try.prog W .any base t v := hval0
  have hW' := hW
  obtain ⟨p, q, hA0, hV, rfl, hfz, hnd⟩ := hW
  have hA : DataW.TrodAll enc Try.prog W 0 (fun _ => true) true Try.f3.params.toList args.toList ds p := hA0
  rw [Try.params3] at hA hval
  obtain ⟨v0, vs0, d0, ds0, p0, q0, hargs, rfl, rfl, h0, r0⟩ := trodAll_cons hA
  obtain ⟨v1, vs1, d1, ds1, p1, q1, rfl, rfl, rfl, h1, r1⟩ := trodAll_cons r0
  obtain ⟨rfl, rfl, rfl⟩ := trodAll_nil r1
  obtain rfl : args = #[v0, v1] := by cases args; simp_all
  obtain ⟨rfl, rfl⟩ := trodVars_none hV
  have k0 := h0
  have lt0 : ∀ x ∈ p0, x.block < W.heap.size := by obtain ⟨m, hm⟩ := k0; exact DataW.trod_lt m _ _ _ hm
  obtain ⟨b, K, c, A, cap, xs, rfl, wb, wK, wc, hcap, hC, hn⟩ := open_digest (hval 0 24 v0 rfl rfl) h0
  obtain ⟨a1, rfl, rfl, rfl, w1⟩ := open_int Try.underlying5 (hval 1 5 v1 rfl rfl) h1
  clear hA0 hval0 hsz0
  refine (walk P b K c a1 A cap xs W wb wK wc hn w1 hC hcap).mono fun e W' ⟨he, bel⟩ => ?_
  subst he
  exact ⟨_, rfl, _, _, _, [], _, [], hW', trodAll_mk1 (shut_bool Try.underlying4 _), (trodAll_cons_mk (Below.trod laidOut (by kernel_rfl) (of_decide_eq_true (by kernel_rfl)) k0 bel lt0) (trodAll_cons_mk (shut_int Try.underlying5 w1) trodAll_mk0)), rfl, bel.frame _, fun h => by cases h⟩
theorem over (P : Pure) : Rows.qdigestCompressRow.holds Try.pinned (OpenSpec.ofChange Rows.qdigestCompressSpec) :=
  OpenClaim.holds_of_wide 3 Try.f3 rfl rfl rfl rfl rfl rfl rfl ⟨rfl, rfl, rfl, rfl, rfl⟩ rfl rfl rfl rfl rfl (by kernel_rfl) Try.func3 (by kernel_rfl)
    (of_decide_eq_true (by kernel_rfl)) (by unfold Func.isWrapper; first | (rw [if_pos (by decide +kernel)]; kernel_rfl) | (rw [if_neg (by decide +kernel)]; exact ⟨rfl, rfl⟩))
    (fun os started H enc _ => lifted P os started H enc)
end Go.Proofs.Ytcgimjoebkeifaa.qdigestCompress

/- The law QdigestCompress in plain numbers. No conditions. -/
namespace Go.Proofs.Ytcgimjoebkeifaa.Law
set_option linter.unusedSimpArgs false
set_option linter.unusedVariables false
open Go.RowKit Go.Proofs.QHeap Go.Proofs.QComp Go.Proofs.YtcgimjoebkeifaaW.PrintWords Go.Proofs.Ytcgimjoebkeifaa.PQ Go.Proofs.Ytcgimjoebkeifaa.QComp Go.Proofs.Ytcgimjoebkeifaa.Quan Go.Proofs.Ytcgimjoebkeifaa.QAdd Go.Proofs.Ytcgimjoebkeifaa.LawC
theorem ref_up {b K c r : Int} {xs : List S63} {k0 k : Nat} (h : k0 ≤ k) (hf : lookoutref31_Check.f k0 b K c xs = some r) : lookoutref31_Check.f k b K c xs = some r := by
  induction h with
  | refl => exact hf
  | step _ ih => exact lookoutref31_Check.mono _ _ _ _ _ _ ih
theorem sorted_pw (cs : Cs) : (sorted cs).Pairwise (fun a b => a.1 ≤ b.1) := by
  unfold sorted
  refine (List.pairwise_mergeSort ?_ ?_ _).imp (fun h => by simpa using h)
  · intro a b c h1 h2; simp at *; omega
  · intro a b; simp; omega
theorem sorted_perm (cs : Cs) : (sorted cs).Perm cs := List.mergeSort_perm _ _
theorem keys_perm {a b : Cs} (hp : a.Perm b) : (keys a).Perm (keys b) := hp.map (fun q : Int × Int => q.1)
theorem sorted_strict {cs : Cs} (hn : (keys cs).Nodup) : (sorted cs).Pairwise (fun a b => a.1 < b.1) := by
  have h1 : (keys (sorted cs)).Nodup := ((keys_perm (sorted_perm cs)).nodup_iff).2 hn
  have h2 : (sorted cs).Pairwise (fun a b => a.1 ≠ b.1) := List.pairwise_map.1 h1
  exact ((sorted_pw cs).and h2).imp (fun h => by omega)
theorem tot_pair : ∀ (xs : List S63), wsum (fun _ v => v) (xs.map pair) = tot xs
  | [] => rfl
  | x :: xs => by simp only [List.map_cons, wsum, tot, tot_pair xs, pair]
theorem upTo_pair (ed : Int → Int) (v : Int) : ∀ (xs : List S63), wsum (rk ed v) (xs.map pair) = upTo ed v xs
  | [] => rfl
  | x :: xs => by simp only [List.map_cons, wsum, upTo, upTo_pair ed v xs, pair, rk]
theorem pair_unpair (D : Cs) : (D.map unpair).map pair = D := by
  rw [List.map_map]
  conv => rhs; rw [← List.map_id D]
  rfl
theorem ids_le (B : Int) (hB : 0 ≤ B) : ∀ (cs : Cs), (∀ q ∈ cs, q.1 ≤ B) → wsum (fun k _ => k) cs ≤ cs.length * B
  | [], _ => by simp [wsum]
  | q :: cs, h => by
    have h1 := ids_le B hB cs (fun x hx => h x (List.mem_cons_of_mem _ hx))
    have h2 := h q (List.mem_cons_self ..)
    simp only [wsum, List.length_cons]
    rw [Int.natCast_add, Int.add_mul]
    omega
theorem Inv_perm {p thr c : Int} {a b : Cs} (hI : Inv p thr c a) (hp : b.Perm a) : Inv p thr c b :=
  ⟨((keys_perm hp).nodup_iff).2 hI.nd, fun q hq => hI.ent q (hp.mem_iff.1 hq), (wsum_perm _ hp).trans hI.sum⟩
theorem keys_valid {b K c : Int} {xs : List S63} (V : Valid b K c xs) : (keys (xs.map pair)).Nodup := by
  unfold keys
  rw [List.map_map]
  exact List.pairwise_map.2 (V.asc.imp (fun h e => by simp [pair] at e; omega))
theorem Inv_valid {b K c : Int} {xs : List S63} (V : Valid b K c xs) : Inv (2 ^ b.toNat) (c / K) c (xs.map pair) := by
  refine ⟨keys_valid V, fun q hq => ?_, (tot_pair xs).trans V.sum⟩
  obtain ⟨x, hx, rfl⟩ := List.mem_map.1 hq
  have := V.node x hx
  exact ⟨this.1, this.2.1, this.2.2.1, this.2.2.2.2⟩
theorem valid_Inv {b K c : Int} {xs : List S63} (V : Valid b K c xs) {D : Cs} (hI : Inv (2 ^ b.toNat) (c / K) c D) (hs : D.Pairwise (fun a b => a.1 < b.1)) (hl : D.length ≤ 2000) : Valid b K c (D.map unpair) := by
  refine ⟨V.b1, V.b2, V.K1, V.K2, V.c1, V.c2, by rw [List.length_map]; exact hl, List.pairwise_map.2 hs, fun x hx => ?_, ?_⟩
  · obtain ⟨q, hq, rfl⟩ := List.mem_map.1 hx
    have he := hI.ent q hq
    have hm := (mem_le_sum D (fun q hq => by have := (hI.ent q hq).2.2.1; omega)).2 q hq
    rw [hI.sum] at hm
    exact ⟨he.1, he.2.1, he.2.2.1, hm, he.2.2.2⟩
  · rw [← tot_pair, pair_unpair, hI.sum]
/-- What a fill makes of a valid digest's nodes. -/
theorem start {b K c : Int} {xs : List S63} (V : Valid b K c xs) (hl : xs.length ≤ 24) :
    (fillS (xs.map pair) [] []).1.Perm (xs.map pair) ∧ (∀ t ∈ heapInit (fillS (xs.map pair) [] []).2, 1 ≤ t ∧ t < 2 * 2 ^ b.toNat) ∧ (heapInit (fillS (xs.map pair) [] []).2).length ≤ 24 ∧
    (∀ m, Cand (c / K) (fillS (xs.map pair) [] []).1 m → m ∈ heapInit (fillS (xs.map pair) [] []).2) := by
  have hI := Inv_valid V
  have hp := fill_perm (xs.map pair) [] [] (by rw [List.append_nil]; exact hI.nd)
  rw [List.append_nil] at hp
  have hI2 := Inv_perm hI hp
  have hmem : ∀ t, t ∈ heapInit (fillS (xs.map pair) [] []).2 ↔ ∃ q ∈ xs.map pair, 1 < q.1 ∧ t = q.1 / 2 := fun t => by
    rw [(heapInit_perm _).mem_iff, fill_td]
    simp
  refine ⟨hp, fun t ht => ?_, ?_, fun m hm => ?_⟩
  · obtain ⟨q, hq, h1, rfl⟩ := (hmem t).1 ht
    have := hI.ent q hq
    omega
  · rw [(heapInit_perm _).length_eq]
    have := fillS_td_len (xs.map pair) [] []
    simp at this
    omega
  · rw [hmem]
    obtain ⟨h1, h2, h3⟩ := hm
    unfold kids at h2
    rcases get_zero_or hI2 (2 * m) with e | e
    · rcases get_zero_or hI2 (2 * m + 1) with e' | e'
      · omega
      · exact ⟨_, hp.mem_iff.1 e', by simp only; omega, by simp only; omega⟩
    · exact ⟨_, hp.mem_iff.1 e, by simp only; omega, by simp only; omega⟩
theorem guards {b K c : Int} {xs : List S63} (V : Valid b K c xs) : (1 ≤ b ∧ b ≤ 40) ∧ (1 ≤ K ∧ K ≤ 1099511627776) ∧ (0 ≤ c ∧ c ≤ 1125899906842624) ∧ Okay (xs.map pair) := by
  have h1 := V.b1
  have h2 := V.b2
  have h3 := V.K1
  have h4 := V.K2
  have h5 := V.c1
  have h6 := V.c2
  have h7 := V.len
  have hp := pow_pos20 h1 h2
  refine ⟨⟨by omega, by omega⟩, ⟨by omega, by omega⟩, ⟨by omega, by omega⟩, by simp; omega, fun q hq => ?_⟩
  obtain ⟨x, hx, rfl⟩ := List.mem_map.1 hq
  obtain ⟨n1, n2, n3, n4, _⟩ := V.node x hx
  exact ⟨⟨by simp only [pair]; omega, by simp only [pair]; omega⟩, by simp only [pair]; omega, by simp only [pair]; omega⟩
theorem keyed {b K c : Int} {xs : List S63} (V : Valid b K c xs) {cs : Cs} (hI : Inv (2 ^ b.toNat) (c / K) c cs) : Keyed cs := fun q hq => by
  have h6 := V.c2
  have hp := pow_pos20 V.b1 V.b2
  have he := hI.ent q hq
  have hm := (mem_le_sum cs (fun q hq => by have := (hI.ent q hq).2.2.1; omega)).2 q hq
  rw [hI.sum] at hm
  exact ⟨⟨by omega, by omega⟩, by omega, by omega⟩
theorem compressed {b K c : Int} {xs : List S63} (V : Valid b K c xs) (hl : xs.length ≤ 24) : ∃ (N : Nat) (ys : List S63), Valid b K c ys ∧ ys.length ≤ 24 ∧ (ys.length : Int) < 4 * K ∧
    (∀ k, N < k → qdigest_Compress.f k b K c xs = some (b, K, c, ys, 0)) ∧ (∀ k, N < k → qdigest_Compress.f k b K c ys = some (b, K, c, ys, 0)) ∧
    (∀ v, upTo (spanHi b) v ys ≤ upTo (spanHi b) v xs ∧ upTo (spanLo b) v xs ≤ upTo (spanLo b) v ys) := by
  have hpw := pow_pos20 V.b1 V.b2
  have hc2 := V.c2
  obtain ⟨hp, ht, htl, hcd⟩ := start V hl
  have hI := Inv_perm (Inv_valid V) hp
  have hlen : (fillS (xs.map pair) [] []).1.length = xs.length := by rw [hp.length_eq, List.length_map]
  have hids := ids_le (2 * 2 ^ b.toNat) (by omega) (fillS (xs.map pair) [] []).1 (fun q hq => by have := (hI.ent q hq).2.1; omega)
  have hidn := ids_nonneg (fillS (xs.map pair) [] []).1 (fun q hq => (hI.ent q hq).1)
  rw [hlen] at hids
  have hids2 : (xs.length : Int) * (2 * 2 ^ b.toNat) ≤ 24 * 2097152 := Int.mul_le_mul (by omega) (by omega) (by omega) (by omega)
  obtain ⟨N, hN⟩ : ∃ N : Nat, N = (4 * wsum (fun k _ => k) (fillS (xs.map pair) [] []).1).toNat + (heapInit (fillS (xs.map pair) [] []).2).length := ⟨_, rfl⟩
  obtain ⟨cs', hrun, hD⟩ := loop_runs (p := 2 ^ b.toNat) (thr := c / K) (c := c) ⟨by omega, by omega⟩ hc2 N _ _ hI ht hcd (by omega) (by omega) (by omega)
  have hcl : cs'.length ≤ 24 := by have := hD.len; omega
  have hsI : Inv (2 ^ b.toNat) (c / K) c (sorted cs') := Inv_perm hD.inv (sorted_perm cs')
  have hsl : (sorted cs').length = cs'.length := (sorted_perm cs').length_eq
  have VY := valid_Inv V hsI (sorted_strict hD.inv.nd) (by omega)
  have hyl : ((sorted cs').map unpair).length = cs'.length := by rw [List.length_map, hsl]
  have hfew := few hD.inv hD.none (by omega : (1 : Int) ≤ 2 ^ b.toNat) V.K1 rfl V.c1
  obtain ⟨hp2, ht2, htl2, _⟩ := start VY (by omega)
  rw [pair_unpair] at hp2 ht2 htl2
  have hpp : (fillS (sorted cs') [] []).1.Perm cs' := hp2.trans (sorted_perm cs')
  have hI2 := Inv_perm hD.inv hpp
  have hn2 : ∀ m, ¬ Cand (c / K) (fillS (sorted cs') [] []).1 m := fun m hm => by
    obtain ⟨h1, h2, h3⟩ := hm
    unfold kids at h2 h3
    rw [get_perm hpp hI2.nd, get_perm hpp hI2.nd] at h2
    rw [get_perm hpp hI2.nd, get_perm hpp hI2.nd, get_perm hpp hI2.nd] at h3
    exact hD.none m ⟨h1, h2, h3⟩
  have hl2 : (fillS (sorted cs') [] []).1.length = cs'.length := hpp.length_eq
  have hidle := loop_idle hI2 ⟨by omega, by omega⟩ hc2 hn2 (by omega) 24 _ htl2 (by omega) ht2
  have hso : sorted (fillS (sorted cs') [] []).1 = sorted cs' := by
    have h1 := sorted_strict hI2.nd
    have h2 := sorted_strict hD.inv.nd
    refine List.Perm.eq_of_pairwise (le := fun a b => a.1 ≤ b.1) ?_ (sorted_pw _) (sorted_pw _) (((sorted_perm _).trans hpp).trans (sorted_perm cs').symm)
    intro x y hx hy e1 e2
    have hx' : x ∈ cs' := hpp.mem_iff.1 ((sorted_perm _).mem_iff.1 hx)
    have hy' : y ∈ cs' := (sorted_perm cs').mem_iff.1 hy
    have e : x.1 = y.1 := Int.le_antisymm e1 e2
    obtain ⟨a, u⟩ := x
    obtain ⟨a', u'⟩ := y
    simp only at e
    subst e
    have g1 := (lookup_mem hD.inv.nd).2 hx'
    have g2 := (lookup_mem hD.inv.nd).2 hy'
    rw [g1] at g2
    injection g2 with g2
    rw [g2]
  refine ⟨N + 100, (sorted cs').map unpair, VY, by omega, by rw [hyl]; exact hfew, fun k hk => ?_, fun k hk => ?_, fun v => ?_⟩
  · unfold qdigest_Compress.f
    rw [chk_valid V k (by omega), Option.bind_some, if_pos rfl]
    unfold comp
    rw [if_pos (guards V), hrun k (by omega), Option.bind_some, if_pos ⟨keyed V hD.inv, by omega⟩]
    rfl
  · unfold qdigest_Compress.f
    rw [chk_valid VY k (by omega), Option.bind_some, if_pos rfl]
    have hg := guards VY
    rw [pair_unpair] at hg ⊢
    unfold comp
    rw [if_pos hg, hidle k (by omega), Option.bind_some, if_pos ⟨keyed V hI2, by omega⟩, hso]
    rfl
  · rw [← upTo_pair, ← upTo_pair, ← upTo_pair, ← upTo_pair, pair_unpair, wsum_perm _ (sorted_perm cs'), wsum_perm _ (sorted_perm cs'), ← wsum_perm _ hp, ← wsum_perm _ hp]
    exact ⟨hD.least _ v (fun m id h1 h2 h3 => (span_kid V.b1 V.b2 h1 h2 h3).2), hD.most _ v (fun m id h1 h2 h3 => (span_kid V.b1 V.b2 h1 h2 h3).1)⟩
theorem pure_compress : qdigestCompress.Pure := by
  intro b K c v xs _ _ _ _ hv
  by_cases hg : (xs.length : Int) > 24
  · left
    unfold lookoutref31_Great.f
    rw [decide_eq_true hg]
  · right
    have hG : lookoutref31_Great.f b K c xs = some false := by
      unfold lookoutref31_Great.f
      rw [decide_eq_false hg]
    have hl : xs.length ≤ 24 := by omega
    obtain ⟨k0, r, hr, hV⟩ := ref_check b K c xs hl
    by_cases h0 : r = 0
    · right
      subst h0
      have V := hV rfl
      obtain ⟨N, ys, VY, hyl, hfew, h3, h4, h5⟩ := compressed V hl
      have hp := pow_pos20 V.b1 V.b2
      have hm0 := Int.emod_nonneg v (show (2 : Int) ^ b.toNat ≠ 0 by omega)
      have hm1 := Int.emod_lt_of_pos v (show (0 : Int) < 2 ^ b.toNat by omega)
      refine ⟨hG, ⟨V.b1, V.b2⟩, ⟨V.K1, V.K2⟩, k0 + N + 100, ys, _, _, _, _, ref_up (by omega) hr, h3 _ (by omega), h4 _ (by omega), rank_valid V hm0 hm1 _ (by omega), rank_valid VY hm0 hm1 _ (by omega), chk_valid VY _ (by omega), same_self b K c ys VY.len _ (by omega), hfew, ?_, ?_⟩
      · exact (h5 _).1
      · exact (h5 _).2
    · left
      exact ⟨hG, k0, r, hr, h0⟩
end Go.Proofs.Ytcgimjoebkeifaa.Law
namespace Go.Proofs.Ytcgimjoebkeifaa
theorem qdigestCompress_holds : Rows.QdigestCompressSaid := qdigestCompress.over Law.pure_compress
end Go.Proofs.Ytcgimjoebkeifaa
