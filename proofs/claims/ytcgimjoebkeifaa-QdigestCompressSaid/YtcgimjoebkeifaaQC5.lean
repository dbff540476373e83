/- Parts of one proof, one behind the other (put together by wip/merge.py out of: PQxf12, PureD, Open, HeapB, HeapC, HeapD1, HeapE, CompState, CompA, CompC, CompE). No conditions beyond each theorem's own. -/
import Derived.Deep.SlicePairs
import Derived.Lib.SmallJoins
import Derived.WideShapes
import Derived.Laws.AppendOwn
import Derived.Maps.AppendAt
import Derived.Deep.AppendLies
import Derived.OneCell
import Derived.Maps.OwnOps
import Derived.Maps.OwnSet
import Derived.Maps.RangeWalk
import Derived.Maps.Views
import Derived.Deep.LoopGhost
import Derived.Laws.MakeOwn
import Derived.Test.YtcgimjoebkeifaaQC1
import Derived.Test.YtcgimjoebkeifaaQC2
import Derived.Test.YtcgimjoebkeifaaQC3
import Derived.Test.YtcgimjoebkeifaaQC4
/- Written by a program of this session (wip/patch_print.py): Go functions as Lean functions, each with a proof that the call does what its function says. No conditions beyond each theorem's own. -/
namespace Go.Proofs.Ytcgimjoebkeifaa.PQ
open Go.RowKit Go.Proofs.YtcgimjoebkeifaaW.PrintWords Go.Proofs.YtcgimjoebkeifaaW.PrintLast Go.Proofs.YtcgimjoebkeifaaW.PrintMore
attribute [local go_sem] max2_int min2_int max_two min_two max_three min_three max_four min_four   -- for this text's walks alone
set_option linter.unusedVariables false
set_option linter.unusedSimpArgs false

/-! ### qdigest_Rank: function 12 -/
mutual
def qdigest_Rank.j0 : Nat → Int → Bool → Int → Int → Int → List (S63) → Option (Int × Int × Int)
  | 0, _, _, _, _, _, _ => none
  | k + 1, x1, x24, x113000, x113001, x113002, x113003 => if x24 = true then (some (0, 0, 2)) else (qdigest_Rank.l0 k x1 0 0 x113003 (x113003.length : Int) 0 x113000 x113001 x113002 x113003)
def qdigest_Rank.l0 : Nat → Int → Int → Int → List (S63) → Int → Int → Int → Int → Int → List (S63) → Option (Int × Int × Int)
  | 0, _, _, _, _, _, _, _, _, _, _ => none
  | k + 1, x1, x7, x8, x26, x27, x28, x113000, x113001, x113002, x113003 => if x28 < x27 then (if 0 ≤ x28 then (if x28 < (x26.length : Int) then ((qdigest_span.f x113000 ((rd_T63 x26 x28).f0)).bind fun bt116 => (if bt116.2 ≤ x1 then (qdigest_Rank.j2 k x1 (wrap64 (x7 + ((rd_T63 x26 x28).f1))) x8 bt116.1 x26 x27 x28 x113000 x113001 x113002 x113003 ((rd_T63 x26 x28).f0) ((rd_T63 x26 x28).f1)) else (qdigest_Rank.j2 k x1 x7 x8 bt116.1 x26 x27 x28 x113000 x113001 x113002 x113003 ((rd_T63 x26 x28).f0) ((rd_T63 x26 x28).f1)))) else (none)) else (none)) else (some (x7, x8, 0))
def qdigest_Rank.j2 : Nat → Int → Int → Int → Int → List (S63) → Int → Int → Int → Int → Int → List (S63) → Int → Int → Option (Int × Int × Int)
  | 0, _, _, _, _, _, _, _, _, _, _, _, _, _ => none
  | k + 1, x1, x7, x8, x11, x26, x27, x28, x113000, x113001, x113002, x113003, x116000, x116001 => if x11 ≤ x1 then (qdigest_Rank.l0 k x1 x7 (wrap64 (x8 + x116001)) x26 x27 (wrap64 (x28 + 1)) x113000 x113001 x113002 x113003) else (qdigest_Rank.l0 k x1 x7 x8 x26 x27 (wrap64 (x28 + 1)) x113000 x113001 x113002 x113003)
end
def qdigest_Rank.f (k : Nat) (a0_0 : Int) (a0_1 : Int) (a0_2 : Int) (l0_3 : List (S63)) (a1 : Int) : Option (Int × Int × Int) := (qdigest_Check.f k a0_0 a0_1 a0_2 l0_3).bind fun t113 => (if t113 = 0 then (if a1 < 0 then (qdigest_Rank.j0 k a1 true a0_0 a0_1 a0_2 l0_3) else (if 0 ≤ a0_0 then (qdigest_Rank.j0 k a1 (decide (a1 ≥ (shl .i64 1 a0_0))) a0_0 a0_1 a0_2 l0_3) else (none))) else (some (0, 0, 1)))
theorem qdigest_Rank.mono_l : ∀ k, (∀ y0 y1 y2 y3 y4 y5, LeO (qdigest_Rank.j0 k y0 y1 y2 y3 y4 y5) (qdigest_Rank.j0 (k + 1) y0 y1 y2 y3 y4 y5)) ∧ (∀ y0 y1 y2 y3 y4 y5 y6 y7 y8 y9, LeO (qdigest_Rank.l0 k y0 y1 y2 y3 y4 y5 y6 y7 y8 y9) (qdigest_Rank.l0 (k + 1) y0 y1 y2 y3 y4 y5 y6 y7 y8 y9)) ∧ (∀ y0 y1 y2 y3 y4 y5 y6 y7 y8 y9 y10 y11 y12, LeO (qdigest_Rank.j2 k y0 y1 y2 y3 y4 y5 y6 y7 y8 y9 y10 y11 y12) (qdigest_Rank.j2 (k + 1) y0 y1 y2 y3 y4 y5 y6 y7 y8 y9 y10 y11 y12))
  | 0 => ⟨fun _ _ _ _ _ _ r h => by simp [qdigest_Rank.j0] at h, fun _ _ _ _ _ _ _ _ _ _ r h => by simp [qdigest_Rank.l0] at h, fun _ _ _ _ _ _ _ _ _ _ _ _ _ r h => by simp [qdigest_Rank.j2] at h⟩
  | k + 1 => by
    obtain ⟨ih0, ih1, ih2⟩ := qdigest_Rank.mono_l k
    refine ⟨?_, ?_, ?_⟩
    · intro y0 y1 y2 y3 y4 y5
      unfold qdigest_Rank.j0
      repeat' first
      | (with_reducible exact ih0 _ _ _ _ _ _)
      | (with_reducible exact ih1 _ _ _ _ _ _ _ _ _ _)
      | (with_reducible exact ih2 _ _ _ _ _ _ _ _ _ _ _ _ _)
      | (with_reducible exact qdigest_Check.mono _ _ _ _ _)
      | (with_reducible exact LeO.refl _)
      | (with_reducible exact LeO.none _)
      | (with_reducible refine LeO.ite ?_ ?_)
      | (with_reducible refine LeO.bind ?_ (fun _ => ?_))
      | exact ih0 _ _ _ _ _ _
      | exact ih1 _ _ _ _ _ _ _ _ _ _
      | exact ih2 _ _ _ _ _ _ _ _ _ _ _ _ _
      | exact qdigest_Check.mono _ _ _ _ _
      | exact LeO.none _
      | refine LeO.ite ?_ ?_
      | refine LeO.bind ?_ (fun _ => ?_)
    · intro y0 y1 y2 y3 y4 y5 y6 y7 y8 y9
      unfold qdigest_Rank.l0
      repeat' first
      | (with_reducible exact ih0 _ _ _ _ _ _)
      | (with_reducible exact ih1 _ _ _ _ _ _ _ _ _ _)
      | (with_reducible exact ih2 _ _ _ _ _ _ _ _ _ _ _ _ _)
      | (with_reducible exact qdigest_Check.mono _ _ _ _ _)
      | (with_reducible exact LeO.refl _)
      | (with_reducible exact LeO.none _)
      | (with_reducible refine LeO.ite ?_ ?_)
      | (with_reducible refine LeO.bind ?_ (fun _ => ?_))
      | exact ih0 _ _ _ _ _ _
      | exact ih1 _ _ _ _ _ _ _ _ _ _
      | exact ih2 _ _ _ _ _ _ _ _ _ _ _ _ _
      | exact qdigest_Check.mono _ _ _ _ _
      | exact LeO.none _
      | refine LeO.ite ?_ ?_
      | refine LeO.bind ?_ (fun _ => ?_)
    · intro y0 y1 y2 y3 y4 y5 y6 y7 y8 y9 y10 y11 y12
      unfold qdigest_Rank.j2
      repeat' first
      | (with_reducible exact ih0 _ _ _ _ _ _)
      | (with_reducible exact ih1 _ _ _ _ _ _ _ _ _ _)
      | (with_reducible exact ih2 _ _ _ _ _ _ _ _ _ _ _ _ _)
      | (with_reducible exact qdigest_Check.mono _ _ _ _ _)
      | (with_reducible exact LeO.refl _)
      | (with_reducible exact LeO.none _)
      | (with_reducible refine LeO.ite ?_ ?_)
      | (with_reducible refine LeO.bind ?_ (fun _ => ?_))
      | exact ih0 _ _ _ _ _ _
      | exact ih1 _ _ _ _ _ _ _ _ _ _
      | exact ih2 _ _ _ _ _ _ _ _ _ _ _ _ _
      | exact qdigest_Check.mono _ _ _ _ _
      | exact LeO.none _
      | refine LeO.ite ?_ ?_
      | refine LeO.bind ?_ (fun _ => ?_)
theorem qdigest_Rank.mono : ∀ a0 a1 a2 a3 a4 k, LeO (qdigest_Rank.f k a0 a1 a2 a3 a4) (qdigest_Rank.f (k + 1) a0 a1 a2 a3 a4) := by
  intro a0 a1 a2 a3 a4 k
  obtain ⟨ih0, ih1, ih2⟩ := qdigest_Rank.mono_l k
  unfold qdigest_Rank.f
  repeat' first
      | (with_reducible exact ih0 _ _ _ _ _ _)
      | (with_reducible exact ih1 _ _ _ _ _ _ _ _ _ _)
      | (with_reducible exact ih2 _ _ _ _ _ _ _ _ _ _ _ _ _)
      | (with_reducible exact qdigest_Check.mono _ _ _ _ _)
      | (with_reducible exact LeO.refl _)
      | (with_reducible exact LeO.none _)
      | (with_reducible refine LeO.ite ?_ ?_)
      | (with_reducible refine LeO.bind ?_ (fun _ => ?_))
      | exact ih0 _ _ _ _ _ _
      | exact ih1 _ _ _ _ _ _ _ _ _ _
      | exact ih2 _ _ _ _ _ _ _ _ _ _ _ _ _
      | exact qdigest_Check.mono _ _ _ _ _
      | exact LeO.none _
      | refine LeO.ite ?_ ?_
      | refine LeO.bind ?_ (fun _ => ?_)
set_option maxHeartbeats 8000000 in
set_option maxRecDepth 100000 in
theorem qdigest_Rank.calls (k : Nat) (a0_0 : Int) (a0_1 : Int) (a0_2 : Int) (A0_3 : Option Addr) (c0_3 : Nat) (l0_3 : List (S63)) (a1 : Int) (r1 : Int) (r2 : Int) (r3 : Int) (w : World) (hr0_3 : Kd.C k63 w A0_3 l0_3.length l0_3) (hc0_3 : l0_3.length ≤ c0_3) (h : qdigest_Rank.f k a0_0 a0_1 a0_2 l0_3 a1 = some (r1, r2, r3)) :
    Calls Try.prog 12 #[.agg #[.int .i64 a0_0, .int .i64 a0_1, .int .i64 a0_2, .slice A0_3 l0_3.length c0_3], .int .i64 a1] w fun e w' => e = .returned (.tuple #[.int .i64 r1, .int .i64 r2, .int .i64 r3]) ∧ Below w.heap.size w w' := by
  have hu24 := Try.underlying24
  have hu63 := Try.underlying63
  have HR0_3 := Aside0.mk hr0_3
  have HC0_3 := Aside0.mk hc0_3
  clear hr0_3 hc0_3
  have HB := Aside0.mk (Below.refl w.heap.size w)
  have H : ((qdigest_Check.f k a0_0 a0_1 a0_2 l0_3).bind fun t113 => (if t113 = 0 then (if a1 < 0 then (qdigest_Rank.j0 k a1 true a0_0 a0_1 a0_2 l0_3) else (if 0 ≤ a0_0 then (qdigest_Rank.j0 k a1 (decide (a1 ≥ (shl .i64 1 a0_0))) a0_0 a0_1 a0_2 l0_3) else (none))) else (some (0, 0, 1)))) = some (r1, r2, r3) := h
  clear h
  replace H := Option.bind_eq_some_iff.mp H
  obtain ⟨t113, A30, H⟩ := H
  replace H : (if t113 = 0 then (if a1 < 0 then (qdigest_Rank.j0 k a1 true a0_0 a0_1 a0_2 l0_3) else (if 0 ≤ a0_0 then (qdigest_Rank.j0 k a1 (decide (a1 ≥ (shl .i64 1 a0_0))) a0_0 a0_1 a0_2 l0_3) else (none))) else (some (0, 0, 1))) = some (r1, r2, r3) := H
  have A3 := Aside0.mk A30
  clear A30
  by_cases c4 : t113 = 0
  · rw [if_pos c4] at H
    have c4b0 : (t113 == 0) = true := beq_iff_eq.mpr c4
    have c4b1 : (t113 != 0) = false := bne_eq_false_iff_eq.mpr c4
    clear c4
    have HC5 := Aside0.mk H
    clear H
    go_enter Try.func12, Try.ntmps12
    go_upto_region 3 with (first | ((with_reducible refine gate_dst (N := 2) rfl ?_); refine box_event ?hg (N := 2) ?hd (cs := #[.int .i64 a0_0, .int .i64 a0_1, .int .i64 a0_2, .slice A0_3 l0_3.length c0_3]) (t := 24) ?hr ?_; (case hd => rfl); (case hg => rfl); (case hr => first | (go_simp; done) | (go_simp; rfl)); intro gb112 hg w6 hbox hb; have n0_ := Aside0.mk (below_step (by repeat (first | (with_reducible first | exact HB.out | apply below_alloc | apply pw_below_drewN | apply below_drew1) | exact HB.out)) hb); have n1_ := Aside0.mk (hbox); have n2_ := Aside0.mk ((by rw [hg]; exact (below_size (by repeat (first | (with_reducible first | exact HB.out | apply below_alloc | apply pw_below_drewN | apply below_drew1) | exact HB.out))) : w.heap.size ≤ gb112)); have n3_ := Aside0.mk ((by rw [hg]; exact (below_size (by repeat (first | (with_reducible first | exact HB.out | apply below_alloc | apply pw_below_drewN | apply below_drew1) | exact HB.out))) : w.heap.size ≤ gb112)); clear HB; have HB := n0_; have BK112 := n1_; have GW112 := n2_; have GE112 := n3_; clear n0_ n1_ n2_ n3_; clear hb hbox hg; have hcz7_0 : w6.cell? ⟨gb112, 0, none⟩ = some (.int .i64 a0_0) := (blk_cell BK112.out 0).trans rfl; have hcz7_1 : w6.cell? ⟨gb112, 1, none⟩ = some (.int .i64 a0_1) := (blk_cell BK112.out 1).trans rfl; have hcz7_2 : w6.cell? ⟨gb112, 2, none⟩ = some (.int .i64 a0_2) := (blk_cell BK112.out 2).trans rfl; have hcz7_3 : w6.cell? ⟨gb112, 3, none⟩ = some (.slice A0_3 l0_3.length c0_3) := (blk_cell BK112.out 3).trans rfl; have hfz7_0 := blk_frozen BK112.out 0; have hfz7_1 := blk_frozen BK112.out 1; have hfz7_2 := blk_frozen BK112.out 2; have hfz7_3 := blk_frozen BK112.out 3) | ((with_reducible refine gate_callee (f := 13) rfl ?_); refine goesL_ (some 14) rfl rfl Try.func13 (by kernel_rfl) rfl #[.agg #[.int .i64 a0_0, .int .i64 a0_1, .int .i64 a0_2, .slice A0_3 l0_3.length c0_3]] rfl (by (try simp only [List.map_toArray, List.map_cons, List.map_nil]); first | done | rfl | (simp only [List.length_drop, List.length_take]; rfl)) ?_; (with_reducible refine (qdigest_Check.calls k a0_0 a0_1 a0_2 _ _ l0_3 t113 _ ?side1 ?side2 A3.out).mono ?_); (case side1 => repeat (first | exact (Kd.C_below HR0_3.out HB.out) | (with_reducible refine Kd.C_alloc ?_ _) | (with_reducible refine Kd.C_drewN ?_ _) | (with_reducible refine Kd.C_drew ?_))); (case side2 => exact HC0_3.out); rintro e w8 ⟨rfl, hb⟩; refine ⟨_, rfl, ?_⟩; have n0_ := Aside0.mk (blk_below (g := gb112) (o := .cells #[.int .i64 a0_0, .int .i64 a0_1, .int .i64 a0_2, .slice A0_3 l0_3.length c0_3] 24 (0, 0)) (by (with_reducible repeat (first | refine blk_drewN ?_ _ | refine blk_drew ?_ | refine blk_alloc ?_ _)); exact BK112.out) hb); have n1_ := Aside0.mk (below_step (by repeat (first | (with_reducible first | exact HB.out | apply below_alloc | apply pw_below_drewN | apply below_drew1 | refine below_set ?_ GE112.out) | exact HB.out)) hb); clear BK112; clear HB; have BK112 := n0_; have HB := n1_; clear n0_ n1_; (try clear hb); (try clear hb2); (try clear hk); (try clear hi)))
    (try simp only [Act.put, List.setIfInBounds_toArray, List.set_cons_zero, List.set_cons_succ])
    go_cut [24] (fun v24 wc => ∃ (kq : Nat) (x24_4 : Bool), v24 = .bool x24_4 ∧ Aside0 (qdigest_Rank.j0 kq a1 x24_4 a0_0 a0_1 a0_2 l0_3 = some (r1, r2, r3)) ∧ Aside0 (kq ≤ k) ∧ Aside0 (wc.heap[gb112]? = some (.cells #[.int .i64 a0_0, .int .i64 a0_1, .int .i64 a0_2, (.slice A0_3 l0_3.length c0_3)] 24 (0, 0))) ∧ Aside0 (Below w.heap.size w wc))
    case first =>
      have H := HC5.out
      clear HC5
      by_cases c9 : a1 < 0
      · rw [if_pos c9] at H
        have c9b0 : decide (a1 < 0) = true := decide_eq_true c9
        clear c9
        (first | rw [c9b0] | (simp only [i64_w, i32_w]; rw [c9b0]) | skip)
        have H' := Aside0.mk H
        clear H
        go_wp2
        go_meet
        case rel => exact ⟨_, (true), (by first | rfl | (simp; done) | (simp [*]; done)), H', ⟨by first | omega | exact Nat.le_refl _⟩, ⟨by (with_reducible repeat (first | refine blk_drewN ?_ _ | refine blk_drew ?_ | refine blk_alloc ?_ _)); exact BK112.out⟩, ⟨by repeat (first | (with_reducible first | exact HB.out | apply below_alloc | apply pw_below_drewN | apply below_drew1 | refine below_set ?_ GE112.out) | exact HB.out)⟩⟩
      · rw [if_neg c9] at H
        have c9b0 : decide (a1 < 0) = false := decide_eq_false c9
        clear c9
        (first | rw [c9b0] | (simp only [i64_w, i32_w]; rw [c9b0]) | skip)
        by_cases c10 : 0 ≤ a0_0
        · rw [if_pos c10] at H
          have c10b0 := eq_true c10
          have c10b1 : decide (0 ≤ a0_0) = true := decide_eq_true c10
          clear c10
          obtain ⟨ji11, hji11⟩ : ∃ j_ : Int, (shl .i64 1 a0_0) = j_ := ⟨_, rfl⟩
          replace H : (qdigest_Rank.j0 k a1 (decide (a1 ≥ (ji11))) a0_0 a0_1 a0_2 l0_3) = some (r1, r2, r3) := by first | (rw [hji11] at H; exact H) | (simp only [hji11] at H ⊢; exact H)
          have hji11_ : (IntKind.i64.wrap (1 * 2 ^ min a0_0.toNat 64)) = ji11 := hji11
          have hji11z : a0_0 ≤ 64 → (IntKind.i64.wrap (1 * 2 ^ a0_0.toNat)) = ji11 := shl_small hji11
          have hji11u : (IntKind.i64.wrap (2 ^ min a0_0.toNat 64)) = ji11 := by have h_ := hji11_; rw [Int.one_mul] at h_; exact h_
          have hji11v : a0_0 ≤ 64 → (IntKind.i64.wrap (2 ^ a0_0.toNat)) = ji11 := fun hle_ => by have h_ := hji11z hle_; rw [Int.one_mul] at h_; exact h_
          have hji11y : (wrap64 (1 * 2 ^ min a0_0.toNat 64)) = ji11 := (i64_w _).symm.trans hji11_
          have hji11x : a0_0 ≤ 64 → (wrap64 (1 * 2 ^ a0_0.toNat)) = ji11 := fun h_ => (i64_w _).symm.trans (hji11z h_)
          have H' := Aside0.mk H
          clear H
          have hcz12_0 : w8.cell? ⟨gb112, 0, none⟩ = some (.int .i64 a0_0) := (blk_cell BK112.out 0).trans rfl
          have hcz12_1 : w8.cell? ⟨gb112, 1, none⟩ = some (.int .i64 a0_1) := (blk_cell BK112.out 1).trans rfl
          have hcz12_2 : w8.cell? ⟨gb112, 2, none⟩ = some (.int .i64 a0_2) := (blk_cell BK112.out 2).trans rfl
          have hcz12_3 : w8.cell? ⟨gb112, 3, none⟩ = some (.slice A0_3 l0_3.length c0_3) := (blk_cell BK112.out 3).trans rfl
          have hfz12_0 := blk_frozen BK112.out 0
          have hfz12_1 := blk_frozen BK112.out 1
          have hfz12_2 := blk_frozen BK112.out 2
          have hfz12_3 := blk_frozen BK112.out 3
          go_wp2
          go_meet
          case rel => exact ⟨_, (decide (a1 ≥ (ji11))), (by first | rfl | (simp; done) | (simp only [← hji11] <;> (first | rfl | simp)) | (simp [*]; done)), H', ⟨by first | omega | exact Nat.le_refl _⟩, ⟨by (with_reducible repeat (first | refine blk_drewN ?_ _ | refine blk_drew ?_ | refine blk_alloc ?_ _)); exact BK112.out⟩, ⟨by repeat (first | (with_reducible first | exact HB.out | apply below_alloc | apply pw_below_drewN | apply below_drew1 | refine below_set ?_ GE112.out) | exact HB.out)⟩⟩
        · rw [if_neg c10] at H
          exact absurd H (by simp)
    case rest =>
      clear HC5
      try clear c1
      try clear p2
      try clear c4
      try clear c4b0
      try clear c4b1
      try clear p6
      try clear c9
      try clear c9b0
      try clear c10
      try clear c10b0
      try clear c10b1
      try clear c12
      try clear hcz12_0
      try clear hcz12_1
      try clear hcz12_2
      try clear hcz12_3
      try clear hcz7_0
      try clear hcz7_1
      try clear hcz7_2
      try clear hcz7_3
      try clear hfz12_0
      try clear hfz12_1
      try clear hfz12_2
      try clear hfz12_3
      try clear hfz7_0
      try clear hfz7_1
      try clear hfz7_2
      try clear hfz7_3
      obtain ⟨kq, x24_4, rfl, HA, HJ4, BK112, HB⟩ := hcut
      cases kq with
      | zero => exact absurd HA.out (by simp [qdigest_Rank.j0])
      | succ kj4 =>
        have H := HA.out
        clear HA
        simp only [qdigest_Rank.j0] at H
        by_cases c13 : x24_4 = true
        · subst c13
          have H1 : (some (0, 0, 2)) = some (r1, r2, r3) := by rw [if_pos rfl] at H; exact H
          clear H
          have H := H1
          clear H1
          simp only [Option.some.injEq, Prod.mk.injEq] at H
          obtain ⟨rfl, rfl, rfl⟩ := H
          go_wp2
          go_ret3
          exact ⟨by first | rfl | (simp [errW_none, errW_some] <;> rfl) | (simp [*, errW_none, errW_some] <;> rfl), by repeat (first | (with_reducible first | exact HB.out | apply below_alloc | apply pw_below_drewN | apply below_drew1 | refine below_set ?_ GE112.out) | exact HB.out)⟩
        · replace c13 := Bool.eq_false_iff.mpr c13
          subst c13
          have H1 : (qdigest_Rank.l0 kj4 a1 0 0 l0_3 (l0_3.length : Int) 0 a0_0 a0_1 a0_2 l0_3) = some (r1, r2, r3) := by rw [if_neg (show ¬ (false = true) by decide)] at H; exact H
          clear H
          have H := H1
          clear H1
          have H' := Aside0.mk H
          clear H
          have hcz14_0 : wc.cell? ⟨gb112, 0, none⟩ = some (.int .i64 a0_0) := (blk_cell BK112.out 0).trans rfl
          have hcz14_1 : wc.cell? ⟨gb112, 1, none⟩ = some (.int .i64 a0_1) := (blk_cell BK112.out 1).trans rfl
          have hcz14_2 : wc.cell? ⟨gb112, 2, none⟩ = some (.int .i64 a0_2) := (blk_cell BK112.out 2).trans rfl
          have hcz14_3 : wc.cell? ⟨gb112, 3, none⟩ = some (.slice A0_3 l0_3.length c0_3) := (blk_cell BK112.out 3).trans rfl
          have hfz14_0 := blk_frozen BK112.out 0
          have hfz14_1 := blk_frozen BK112.out 1
          have hfz14_2 := blk_frozen BK112.out 2
          have hfz14_3 := blk_frozen BK112.out 3
          go_wp2
          go_loopg [7, 8, 28] kj4 (fun kq v7 v8 v28 w' => ∃ (x7_2 : Int) (x8_2 : Int) (x28_2 : Int), v7 = .int .i64 x7_2 ∧ v8 = .int .i64 x8_2 ∧ v28 = .int .i64 x28_2 ∧ Aside0 (qdigest_Rank.l0 kq a1 x7_2 x8_2 l0_3 (l0_3.length : Int) x28_2 a0_0 a0_1 a0_2 l0_3 = some (r1, r2, r3)) ∧ Aside0 (kq ≤ kj4) ∧ Aside0 (w'.heap[gb112]? = some (.cells #[.int .i64 a0_0, .int .i64 a0_1, .int .i64 a0_2, (.slice A0_3 l0_3.length c0_3)] 24 (0, 0))) ∧ Aside0 (Below w.heap.size w w'))
          case atStart => exact ⟨(0), (0), (0), (by first | rfl | (simp; done) | (simp [*]; done)), (by first | rfl | (simp; done) | (simp [*]; done)), (by first | rfl | (simp; done) | (simp [*]; done)), H', ⟨Nat.le_refl _⟩, ⟨by (with_reducible repeat (first | refine blk_drewN ?_ _ | refine blk_drew ?_ | refine blk_alloc ?_ _)); exact BK112.out⟩, ⟨by repeat (first | (with_reducible first | exact HB.out | apply below_alloc | apply pw_below_drewN | apply below_drew1 | refine below_set ?_ GE112.out) | exact HB.out)⟩⟩
          case round =>
            clear H'
            try clear c1
            try clear p2
            try clear c4
            try clear c4b0
            try clear c4b1
            try clear p6
            try clear c9
            try clear c9b0
            try clear c10
            try clear c10b0
            try clear c10b1
            try clear c12
            try clear c13
            try clear hcz12_0
            try clear hcz12_1
            try clear hcz12_2
            try clear hcz12_3
            try clear hcz14_0
            try clear hcz14_1
            try clear hcz14_2
            try clear hcz14_3
            try clear hcz7_0
            try clear hcz7_1
            try clear hcz7_2
            try clear hcz7_3
            try clear hfz12_0
            try clear hfz12_1
            try clear hfz12_2
            try clear hfz12_3
            try clear hfz14_0
            try clear hfz14_1
            try clear hfz14_2
            try clear hfz14_3
            try clear hfz7_0
            try clear hfz7_1
            try clear hfz7_2
            try clear hfz7_3
            try clear p2
            try clear p6
            obtain ⟨x7_2, x8_2, x28_2, rfl, rfl, rfl, HA, HK2, BK112, HB⟩ := hrel
            cases gk with
            | zero => exact absurd HA.out (by simp [qdigest_Rank.l0])
            | succ k2 =>
              have H := HA.out
              clear HA
              simp only [qdigest_Rank.l0] at H
              by_cases c15 : x28_2 < (l0_3.length : Int)
              · rw [if_pos c15] at H
                have c15b0 : decide (x28_2 < (l0_3.length : Int)) = true := decide_eq_true c15
                clear c15
                by_cases c16 : 0 ≤ x28_2
                · rw [if_pos c16] at H
                  have c16b0 : decide (0 ≤ x28_2) = true := decide_eq_true c16
                  clear c16
                  by_cases c17 : x28_2 < (l0_3.length : Int)
                  · rw [if_pos c17] at H
                    have c17b0 : decide (x28_2 < (l0_3.length : Int)) = true := decide_eq_true c17
                    clear c17
                    replace H := Option.bind_eq_some_iff.mp H
                    obtain ⟨⟨t116, t117⟩, A180, H⟩ := H
                    replace H : (if t117 ≤ a1 then (qdigest_Rank.j2 k2 a1 (wrap64 (x7_2 + ((rd_T63 l0_3 x28_2).f1))) x8_2 t116 l0_3 (l0_3.length : Int) x28_2 a0_0 a0_1 a0_2 l0_3 ((rd_T63 l0_3 x28_2).f0) ((rd_T63 l0_3 x28_2).f1)) else (qdigest_Rank.j2 k2 a1 x7_2 x8_2 t116 l0_3 (l0_3.length : Int) x28_2 a0_0 a0_1 a0_2 l0_3 ((rd_T63 l0_3 x28_2).f0) ((rd_T63 l0_3 x28_2).f1))) = some (r1, r2, r3) := H
                    have A18 := Aside0.mk A180
                    clear A180
                    have HC19 := Aside0.mk H
                    clear H
                    have p114 : 0 ≤ (x28_2 : Int) := of_decide_eq_true (by first | (with_reducible assumption) | assumption)
                    have q114 : x28_2 < (l0_3.length : Int) := of_decide_eq_true (by first | (with_reducible assumption) | assumption)
                    obtain ⟨ad114, e114, hx114_0, hx114_1⟩ := at_T63 HR0_3.out x28_2 p114 q114
                    cases e114
                    replace hx114_0 := (HB.out.cell (World.block_lt_of_cell? w _ hx114_0)).trans hx114_0
                    replace hx114_1 := (HB.out.cell (World.block_lt_of_cell? w _ hx114_1)).trans hx114_1
                    replace p114 := eq_true p114
                    replace q114 := eq_true q114
                    go_upto_if 42 with (first | ((with_reducible refine gate_dst (N := 10) rfl ?_); refine box_event ?hg (N := 10) ?hd (cs := #[.int .i64 0, .int .i64 0]) (t := 63) ?hr ?_; (case hd => rfl); (case hg => rfl); (case hr => first | (go_simp; done) | (go_simp; rfl)); intro gb115 hg w20 hbox hb; have n0_ := Aside0.mk (blk_below (g := gb112) (o := .cells #[.int .i64 a0_0, .int .i64 a0_1, .int .i64 a0_2, .slice (some ad114) l0_3.length c0_3] 24 (0, 0)) (by (with_reducible repeat (first | refine blk_drewN ?_ _ | refine blk_drew ?_ | refine blk_alloc ?_ _)); exact BK112.out) hb); have n1_ := Aside0.mk (below_step (by repeat (first | (with_reducible first | exact HB.out | apply below_alloc | apply pw_below_drewN | apply below_drew1 | refine below_set ?_ GE112.out) | exact HB.out)) hb); have n2_ := Aside0.mk (hbox); have n3_ := Aside0.mk ((by rw [hg]; exact (below_size (by repeat (first | (with_reducible first | exact HB.out | apply below_alloc | apply pw_below_drewN | apply below_drew1 | refine below_set ?_ GE112.out) | exact HB.out))) : w.heap.size ≤ gb115)); have n4_ := Aside0.mk ((by rw [hg]; exact (below_size (by repeat (first | (with_reducible first | exact HB.out | apply below_alloc | apply pw_below_drewN | apply below_drew1 | refine below_set ?_ GE112.out) | exact HB.out))) : w.heap.size ≤ gb115)); have n5_ := Aside0.mk ((by rw [hg]; exact Nat.ne_of_lt (blk_lt (g := gb112) (o := .cells #[.int .i64 a0_0, .int .i64 a0_1, .int .i64 a0_2, .slice (some ad114) l0_3.length c0_3] 24 (0, 0)) (by (with_reducible repeat (first | refine blk_drewN ?_ _ | refine blk_drew ?_ | refine blk_alloc ?_ _)); exact BK112.out)) : gb112 ≠ gb115)); have n6_ := Aside0.mk ((by rw [hg]; exact Nat.ne_of_gt (blk_lt (g := gb112) (o := .cells #[.int .i64 a0_0, .int .i64 a0_1, .int .i64 a0_2, .slice (some ad114) l0_3.length c0_3] 24 (0, 0)) (by (with_reducible repeat (first | refine blk_drewN ?_ _ | refine blk_drew ?_ | refine blk_alloc ?_ _)); exact BK112.out)) : gb115 ≠ gb112)); clear BK112; clear HB; have BK112 := n0_; have HB := n1_; have BK115 := n2_; have GW115 := n3_; have GE115 := n4_; have NB112_115 := n5_; have NB115_112 := n6_; clear n0_ n1_ n2_ n3_ n4_ n5_ n6_; clear hb hbox hg; have hnb21 := NB115_112.out; have hnc21 := NB112_115.out; have hcz22_0 : w20.cell? ⟨gb115, 0, none⟩ = some (.int .i64 0) := (blk_cell BK115.out 0).trans rfl; have hcz22_1 : w20.cell? ⟨gb115, 1, none⟩ = some (.int .i64 0) := (blk_cell BK115.out 1).trans rfl; have hfz22_0 := blk_frozen BK115.out 0; have hfz22_1 := blk_frozen BK115.out 1; have hcz23_0 : w20.cell? ⟨gb112, 0, none⟩ = some (.int .i64 a0_0) := (blk_cell BK112.out 0).trans rfl; have hcz23_1 : w20.cell? ⟨gb112, 1, none⟩ = some (.int .i64 a0_1) := (blk_cell BK112.out 1).trans rfl; have hcz23_2 : w20.cell? ⟨gb112, 2, none⟩ = some (.int .i64 a0_2) := (blk_cell BK112.out 2).trans rfl; have hcz23_3 : w20.cell? ⟨gb112, 3, none⟩ = some (.slice (some ad114) l0_3.length c0_3) := (blk_cell BK112.out 3).trans rfl; have hfz23_0 := blk_frozen BK112.out 0; have hfz23_1 := blk_frozen BK112.out 1; have hfz23_2 := blk_frozen BK112.out 2; have hfz23_3 := blk_frozen BK112.out 3) | ((with_reducible refine gate_callee (f := 38) rfl ?_); refine goesL_ (some 37) rfl rfl Try.func38 (by kernel_rfl) rfl #[.int .i64 a0_0, .int .i64 ((rd_T63 l0_3 x28_2).f0)] rfl (by (try simp only [List.map_toArray, List.map_cons, List.map_nil]); first | done | rfl | (simp only [List.length_drop, List.length_take]; rfl)) ?_; (with_reducible refine (qdigest_span.calls a0_0 ((rd_T63 l0_3 x28_2).f0) t116 t117 _ A18.out).mono ?_); rintro e w' ⟨rfl, ⟨nd, rfl⟩⟩; refine ⟨_, rfl, ?_⟩))
                    (try simp only [Act.put, List.setIfInBounds_toArray, List.set_cons_zero, List.set_cons_succ])
                    go_cut [7] (fun v7 wc => ∃ (kq : Nat) (x7_18 : Int), v7 = .int .i64 x7_18 ∧ Aside0 (qdigest_Rank.j2 kq a1 x7_18 x8_2 t116 l0_3 (l0_3.length : Int) x28_2 a0_0 a0_1 a0_2 l0_3 ((rd_T63 l0_3 x28_2).f0) ((rd_T63 l0_3 x28_2).f1) = some (r1, r2, r3)) ∧ Aside0 (kq ≤ k2) ∧ Aside0 (wc.heap[gb112]? = some (.cells #[.int .i64 a0_0, .int .i64 a0_1, .int .i64 a0_2, (.slice (some ad114) l0_3.length c0_3)] 24 (0, 0))) ∧ Aside0 (wc.heap[gb115]? = some (.cells #[.int .i64 ((rd_T63 l0_3 x28_2).f0), .int .i64 ((rd_T63 l0_3 x28_2).f1)] 63 (0, 0))) ∧ Aside0 (Below w.heap.size w wc))
                    case first =>
                      have H := HC19.out
                      clear HC19
                      by_cases c24 : t117 ≤ a1
                      · rw [if_pos c24] at H
                        have c24b0 : decide (t117 ≤ a1) = true := decide_eq_true c24
                        clear c24
                        (first | rw [c24b0] | (simp only [i64_w, i32_w]; rw [c24b0]) | skip)
                        have H' := Aside0.mk H
                        clear H
                        have hnb25 := NB115_112.out
                        have hnc25 := NB112_115.out
                        have hcz26_0 : w20.cell? ⟨gb115, 0, none⟩ = some (.int .i64 0) := (blk_cell BK115.out 0).trans rfl
                        have hcz26_1 : w20.cell? ⟨gb115, 1, none⟩ = some (.int .i64 0) := (blk_cell BK115.out 1).trans rfl
                        have hfz26_0 := blk_frozen BK115.out 0
                        have hfz26_1 := blk_frozen BK115.out 1
                        go_wp2
                        go_meet
                        case rel => exact ⟨_, (wrap64 (x7_2 + ((rd_T63 l0_3 x28_2).f1))), (by first | rfl | (simp; done) | (simp [*]; done)), H', ⟨by have := HJ4.out; have := HK2.out; first | omega | exact Nat.le_refl _⟩, ⟨by (with_reducible repeat (first | refine blk_drewN ?_ _ | refine blk_drew ?_ | refine blk_alloc ?_ _)); refine blk_far ?_ NB112_115.out _; (with_reducible repeat (first | refine blk_drewN ?_ _ | refine blk_drew ?_ | refine blk_alloc ?_ _)); refine blk_far ?_ NB112_115.out _; (with_reducible repeat (first | refine blk_drewN ?_ _ | refine blk_drew ?_ | refine blk_alloc ?_ _)); exact BK112.out⟩, ⟨by (with_reducible repeat (first | refine blk_drewN ?_ _ | refine blk_drew ?_ | refine blk_alloc ?_ _)); refine blk_put (cs := #[.int .i64 ((rd_T63 l0_3 x28_2).f0), .int .i64 0]) ?_ 1 _ rfl; (with_reducible repeat (first | refine blk_drewN ?_ _ | refine blk_drew ?_ | refine blk_alloc ?_ _)); refine blk_put (cs := #[.int .i64 0, .int .i64 0]) ?_ 0 _ rfl; (with_reducible repeat (first | refine blk_drewN ?_ _ | refine blk_drew ?_ | refine blk_alloc ?_ _)); exact BK115.out⟩, ⟨by repeat (first | (with_reducible first | exact HB.out | apply below_alloc | apply pw_below_drewN | apply below_drew1 | refine below_set ?_ GE112.out | refine below_set ?_ GE115.out) | exact HB.out)⟩⟩
                      · rw [if_neg c24] at H
                        have c24b0 : decide (t117 ≤ a1) = false := decide_eq_false c24
                        clear c24
                        (first | rw [c24b0] | (simp only [i64_w, i32_w]; rw [c24b0]) | skip)
                        have H' := Aside0.mk H
                        clear H
                        go_wp2
                        go_meet
                        case rel => exact ⟨_, (x7_2), (by first | rfl | (simp; done) | (simp [*]; done)), H', ⟨by have := HJ4.out; have := HK2.out; first | omega | exact Nat.le_refl _⟩, ⟨by (with_reducible repeat (first | refine blk_drewN ?_ _ | refine blk_drew ?_ | refine blk_alloc ?_ _)); refine blk_far ?_ NB112_115.out _; (with_reducible repeat (first | refine blk_drewN ?_ _ | refine blk_drew ?_ | refine blk_alloc ?_ _)); refine blk_far ?_ NB112_115.out _; (with_reducible repeat (first | refine blk_drewN ?_ _ | refine blk_drew ?_ | refine blk_alloc ?_ _)); exact BK112.out⟩, ⟨by (with_reducible repeat (first | refine blk_drewN ?_ _ | refine blk_drew ?_ | refine blk_alloc ?_ _)); refine blk_put (cs := #[.int .i64 ((rd_T63 l0_3 x28_2).f0), .int .i64 0]) ?_ 1 _ rfl; (with_reducible repeat (first | refine blk_drewN ?_ _ | refine blk_drew ?_ | refine blk_alloc ?_ _)); refine blk_put (cs := #[.int .i64 0, .int .i64 0]) ?_ 0 _ rfl; (with_reducible repeat (first | refine blk_drewN ?_ _ | refine blk_drew ?_ | refine blk_alloc ?_ _)); exact BK115.out⟩, ⟨by repeat (first | (with_reducible first | exact HB.out | apply below_alloc | apply pw_below_drewN | apply below_drew1 | refine below_set ?_ GE112.out | refine below_set ?_ GE115.out) | exact HB.out)⟩⟩
                    case rest =>
                      clear HC19
                      try clear c1
                      try clear p1
                      try clear q1
                      try clear hx1
                      try clear c2
                      try clear p2
                      try clear c3
                      try clear c4
                      try clear c4b0
                      try clear c4b1
                      try clear p6
                      try clear c9
                      try clear c9b0
                      try clear c10
                      try clear c10b0
                      try clear c10b1
                      try clear p11
                      try clear q11
                      try clear hx11
                      try clear c12
                      try clear c13
                      try clear c15
                      try clear c15b0
                      try clear c16
                      try clear c16b0
                      try clear c17
                      try clear c17b0
                      try clear c21
                      try clear c24
                      try clear c24b0
                      try clear c25
                      try clear hcz12_0
                      try clear hcz12_1
                      try clear hcz12_2
                      try clear hcz12_3
                      try clear hcz14_0
                      try clear hcz14_1
                      try clear hcz14_2
                      try clear hcz14_3
                      try clear hcz22_0
                      try clear hcz22_1
                      try clear hcz23_0
                      try clear hcz23_1
                      try clear hcz23_2
                      try clear hcz23_3
                      try clear hcz26_0
                      try clear hcz26_1
                      try clear hcz7_0
                      try clear hcz7_1
                      try clear hcz7_2
                      try clear hcz7_3
                      try clear hfz12_0
                      try clear hfz12_1
                      try clear hfz12_2
                      try clear hfz12_3
                      try clear hfz14_0
                      try clear hfz14_1
                      try clear hfz14_2
                      try clear hfz14_3
                      try clear hfz22_0
                      try clear hfz22_1
                      try clear hfz23_0
                      try clear hfz23_1
                      try clear hfz23_2
                      try clear hfz23_3
                      try clear hfz26_0
                      try clear hfz26_1
                      try clear hfz7_0
                      try clear hfz7_1
                      try clear hfz7_2
                      try clear hfz7_3
                      try clear hx114_0
                      try clear hx114_1
                      try clear p114
                      try clear p2
                      try clear p6
                      try clear q114
                      obtain ⟨kq, x7_18, rfl, HA, HJ18, BK112, BK115, HB⟩ := hcut
                      cases kq with
                      | zero => exact absurd HA.out (by simp [qdigest_Rank.j2])
                      | succ kj18 =>
                        have H := HA.out
                        clear HA
                        simp only [qdigest_Rank.j2] at H
                        by_cases c27 : t116 ≤ a1
                        · rw [if_pos c27] at H
                          have c27b0 : decide (t116 ≤ a1) = true := decide_eq_true c27
                          clear c27
                          have H' := Aside0.mk H
                          clear H
                          have hnb28 := NB115_112.out
                          have hnc28 := NB112_115.out
                          have hcz29_0 : wc.cell? ⟨gb115, 0, none⟩ = some (.int .i64 ((rd_T63 l0_3 x28_2).f0)) := (blk_cell BK115.out 0).trans rfl
                          have hcz29_1 : wc.cell? ⟨gb115, 1, none⟩ = some (.int .i64 ((rd_T63 l0_3 x28_2).f1)) := (blk_cell BK115.out 1).trans rfl
                          have hfz29_0 := blk_frozen BK115.out 0
                          have hfz29_1 := blk_frozen BK115.out 1
                          go_wp2
                          go_roundg kj18
                          case measure => have := HJ4.out; have := HK2.out; have := HJ18.out; omega
                          case rel => exact ⟨(x7_18), (wrap64 (x8_2 + ((rd_T63 l0_3 x28_2).f1))), (wrap64 (x28_2 + 1)), (by first | rfl | (simp; done) | (simp [*]; done)), (by first | rfl | (simp; done) | (simp [*]; done)), (by first | rfl | (simp; done) | (simp [*]; done)), H', ⟨by have := HJ4.out; have := HK2.out; have := HJ18.out; omega⟩, ⟨by (with_reducible repeat (first | refine blk_drewN ?_ _ | refine blk_drew ?_ | refine blk_alloc ?_ _)); exact BK112.out⟩, ⟨by repeat (first | (with_reducible first | exact HB.out | apply below_alloc | apply pw_below_drewN | apply below_drew1 | refine below_set ?_ GE112.out | refine below_set ?_ GE115.out) | exact HB.out)⟩⟩
                        · rw [if_neg c27] at H
                          have c27b0 : decide (t116 ≤ a1) = false := decide_eq_false c27
                          clear c27
                          have H' := Aside0.mk H
                          clear H
                          go_wp2
                          go_roundg kj18
                          case measure => have := HJ4.out; have := HK2.out; have := HJ18.out; omega
                          case rel => exact ⟨(x7_18), (x8_2), (wrap64 (x28_2 + 1)), (by first | rfl | (simp; done) | (simp [*]; done)), (by first | rfl | (simp; done) | (simp [*]; done)), (by first | rfl | (simp; done) | (simp [*]; done)), H', ⟨by have := HJ4.out; have := HK2.out; have := HJ18.out; omega⟩, ⟨by (with_reducible repeat (first | refine blk_drewN ?_ _ | refine blk_drew ?_ | refine blk_alloc ?_ _)); exact BK112.out⟩, ⟨by repeat (first | (with_reducible first | exact HB.out | apply below_alloc | apply pw_below_drewN | apply below_drew1 | refine below_set ?_ GE112.out | refine below_set ?_ GE115.out) | exact HB.out)⟩⟩
                  · rw [if_neg c17] at H
                    exact absurd H (by simp)
                · rw [if_neg c16] at H
                  exact absurd H (by simp)
              · rw [if_neg c15] at H
                have c15b0 : decide (x28_2 < (l0_3.length : Int)) = false := decide_eq_false c15
                clear c15
                simp only [Option.some.injEq, Prod.mk.injEq] at H
                obtain ⟨rfl, rfl, rfl⟩ := H
                go_wp2
                go_ret3
                exact ⟨by first | rfl | (simp [errW_none, errW_some] <;> rfl) | (simp [*, errW_none, errW_some] <;> rfl), by repeat (first | (with_reducible first | exact HB.out | apply below_alloc | apply pw_below_drewN | apply below_drew1 | refine below_set ?_ GE112.out) | exact HB.out)⟩
  · rw [if_neg c4] at H
    have c4b0 : (t113 == 0) = false := beq_eq_false_iff_ne.mpr c4
    have c4b1 : (t113 != 0) = true := bne_iff_ne.mpr c4
    simp only [Option.some.injEq, Prod.mk.injEq] at H
    obtain ⟨rfl, rfl, rfl⟩ := H
    go_enter Try.func12, Try.ntmps12
    go_wp2_with (first | ((with_reducible refine gate_dst (N := 2) rfl ?_); refine box_event ?hg (N := 2) ?hd (cs := #[.int .i64 a0_0, .int .i64 a0_1, .int .i64 a0_2, .slice A0_3 l0_3.length c0_3]) (t := 24) ?hr ?_; (case hd => rfl); (case hg => rfl); (case hr => first | (go_simp; done) | (go_simp; rfl)); intro gb112 hg w30 hbox hb; have n0_ := Aside0.mk (below_step (by repeat (first | (with_reducible first | exact HB.out | apply below_alloc | apply pw_below_drewN | apply below_drew1) | exact HB.out)) hb); have n1_ := Aside0.mk (hbox); have n2_ := Aside0.mk ((by rw [hg]; exact (below_size (by repeat (first | (with_reducible first | exact HB.out | apply below_alloc | apply pw_below_drewN | apply below_drew1) | exact HB.out))) : w.heap.size ≤ gb112)); have n3_ := Aside0.mk ((by rw [hg]; exact (below_size (by repeat (first | (with_reducible first | exact HB.out | apply below_alloc | apply pw_below_drewN | apply below_drew1) | exact HB.out))) : w.heap.size ≤ gb112)); clear HB; have HB := n0_; have BK112 := n1_; have GW112 := n2_; have GE112 := n3_; clear n0_ n1_ n2_ n3_; clear hb hbox hg; have hcz31_0 : w30.cell? ⟨gb112, 0, none⟩ = some (.int .i64 a0_0) := (blk_cell BK112.out 0).trans rfl; have hcz31_1 : w30.cell? ⟨gb112, 1, none⟩ = some (.int .i64 a0_1) := (blk_cell BK112.out 1).trans rfl; have hcz31_2 : w30.cell? ⟨gb112, 2, none⟩ = some (.int .i64 a0_2) := (blk_cell BK112.out 2).trans rfl; have hcz31_3 : w30.cell? ⟨gb112, 3, none⟩ = some (.slice A0_3 l0_3.length c0_3) := (blk_cell BK112.out 3).trans rfl; have hfz31_0 := blk_frozen BK112.out 0; have hfz31_1 := blk_frozen BK112.out 1; have hfz31_2 := blk_frozen BK112.out 2; have hfz31_3 := blk_frozen BK112.out 3) | ((with_reducible refine gate_callee (f := 13) rfl ?_); refine goesL_ (some 14) rfl rfl Try.func13 (by kernel_rfl) rfl #[.agg #[.int .i64 a0_0, .int .i64 a0_1, .int .i64 a0_2, .slice A0_3 l0_3.length c0_3]] rfl (by (try simp only [List.map_toArray, List.map_cons, List.map_nil]); first | done | rfl | (simp only [List.length_drop, List.length_take]; rfl)) ?_; (with_reducible refine (qdigest_Check.calls k a0_0 a0_1 a0_2 _ _ l0_3 t113 _ ?side1 ?side2 A3.out).mono ?_); (case side1 => repeat (first | exact (Kd.C_below HR0_3.out HB.out) | (with_reducible refine Kd.C_alloc ?_ _) | (with_reducible refine Kd.C_drewN ?_ _) | (with_reducible refine Kd.C_drew ?_))); (case side2 => exact HC0_3.out); rintro e w32 ⟨rfl, hb⟩; refine ⟨_, rfl, ?_⟩; have n0_ := Aside0.mk (blk_below (g := gb112) (o := .cells #[.int .i64 a0_0, .int .i64 a0_1, .int .i64 a0_2, .slice A0_3 l0_3.length c0_3] 24 (0, 0)) (by (with_reducible repeat (first | refine blk_drewN ?_ _ | refine blk_drew ?_ | refine blk_alloc ?_ _)); exact BK112.out) hb); have n1_ := Aside0.mk (below_step (by repeat (first | (with_reducible first | exact HB.out | apply below_alloc | apply pw_below_drewN | apply below_drew1 | refine below_set ?_ GE112.out) | exact HB.out)) hb); clear BK112; clear HB; have BK112 := n0_; have HB := n1_; clear n0_ n1_; (try clear hb); (try clear hb2); (try clear hk); (try clear hi)))
    go_ret3
    exact ⟨by first | rfl | (simp [errW_none, errW_some] <;> rfl) | (simp [*, errW_none, errW_some] <;> rfl), by repeat (first | (with_reducible first | exact HB.out | apply below_alloc | apply pw_below_drewN | apply below_drew1 | refine below_set ?_ GE112.out) | exact HB.out)⟩

end Go.Proofs.Ytcgimjoebkeifaa.PQ

/- Rank of a valid digest, and Same of a digest with itself. No conditions. -/
namespace Go.Proofs.Ytcgimjoebkeifaa.Law
set_option linter.unusedSimpArgs false
set_option linter.unusedVariables false
open Go.RowKit Go.Proofs.YtcgimjoebkeifaaW.PrintWords Go.Proofs.Ytcgimjoebkeifaa.PQ Go.Proofs.Ytcgimjoebkeifaa.Quan Go.Proofs.Ytcgimjoebkeifaa.QAdd
theorem upTo_take (ed : Int → Int) (e : Int) (xs : List S63) (i : Nat) (h : i < xs.length) : upTo ed e (xs.take (i + 1)) = upTo ed e (xs.take i) + (if ed (rd_T63 xs i).f0 ≤ e then (rd_T63 xs i).f1 else 0) := by
  induction xs generalizing i with
  | nil => simp at h
  | cons x xs ih =>
    cases i with
    | zero => simp [upTo, rd_T63]
    | succ i =>
      have := ih i (by simpa using h)
      have e1 : rd_T63 (x :: xs) ((i + 1 : Nat) : Int) = rd_T63 xs i := by simp [rd_T63]
      rw [e1, List.take_succ_cons, List.take_succ_cons]
      simp only [upTo]
      rw [this]
      omega
theorem add_if {s x c : Int} {i n : Nat} (q : Prop) [Decidable q] (hb : 0 ≤ s ∧ s ≤ i * 1099511627776) (hx : 1 ≤ x ∧ x ≤ c) (hc : c ≤ 1099511627776) (hi : i < n) (hn : n ≤ 2000) :
    0 ≤ s + (if q then x else 0) ∧ s + (if q then x else 0) ≤ ((i + 1 : Nat) : Int) * 1099511627776 ∧ (if q then wrap64 (s + x) else s) = s + (if q then x else 0) := by
  have h1 := sum_next hb hx hc hi hn
  by_cases h : q
  · simp only [if_pos h]; exact ⟨h1.2.1, h1.2.2, h1.1⟩
  · simp only [if_neg h]; omega
theorem rank_loop (b K c v : Int) (xs : List S63) (V : Valid b K c xs) (d : Nat) : ∀ (i : Nat), i + d = xs.length →
    (0 ≤ upTo (spanHi b) v (xs.take i) ∧ upTo (spanHi b) v (xs.take i) ≤ i * 1099511627776) → (0 ≤ upTo (spanLo b) v (xs.take i) ∧ upTo (spanLo b) v (xs.take i) ≤ i * 1099511627776) →
    ∀ k, 2 * d + 1 ≤ k → qdigest_Rank.l0 k v (upTo (spanHi b) v (xs.take i)) (upTo (spanLo b) v (xs.take i)) xs xs.length i b K c xs = some (upTo (spanHi b) v xs, upTo (spanLo b) v xs, 0) := by
  induction d with
  | zero =>
    intro i hd _ _ k hk
    obtain rfl : i = xs.length := hd
    obtain ⟨m, rfl⟩ : ∃ m, k = m + 1 := ⟨k - 1, by omega⟩
    rw [qdigest_Rank.l0, if_neg (Int.lt_irrefl _), List.take_of_length_le (Nat.le_refl _)]
  | succ d ih =>
    intro i hd hb1 hb2 k hk
    have hi : i < xs.length := by omega
    have hn := V.node _ (List.getElem_mem hi)
    rw [← rd_mem xs i hi] at hn
    obtain ⟨m, rfl⟩ : ∃ m, k = m + 2 := ⟨k - 2, by omega⟩
    obtain ⟨e1, e2, e3⟩ := add_if (spanHi b (rd_T63 xs i).f0 ≤ v) hb1 ⟨hn.2.2.1, hn.2.2.2.1⟩ V.c2 hi V.len
    obtain ⟨g1, g2, g3⟩ := add_if (spanLo b (rd_T63 xs i).f0 ≤ v) hb2 ⟨hn.2.2.1, hn.2.2.2.1⟩ V.c2 hi V.len
    have hsp : qdigest_span.f b (rd_T63 xs i).f0 = some (spanLo b (rd_T63 xs i).f0, spanHi b (rd_T63 xs i).f0) := by
      unfold qdigest_span.f
      rw [if_pos (span_ok V.b1 V.b2 hn.1 hn.2.1)]
    have step := ih (i + 1) (by omega) (by rw [upTo_take _ _ _ _ hi]; exact ⟨e1, e2⟩) (by rw [upTo_take _ _ _ _ hi]; exact ⟨g1, g2⟩) m (by omega)
    rw [upTo_take _ _ _ _ hi, upTo_take _ _ _ _ hi, ← e3, ← g3] at step
    rw [qdigest_Rank.l0, if_pos (Int.ofNat_lt.2 hi), if_pos (Int.natCast_nonneg i), if_pos (Int.ofNat_lt.2 hi), hsp, Option.bind_some]
    simp only [qdigest_Rank.j2, idx_next hi V.len]
    by_cases h1 : spanHi b (rd_T63 xs i).f0 ≤ v
    · rw [if_pos h1] at step ⊢
      by_cases h2 : spanLo b (rd_T63 xs i).f0 ≤ v
      · rw [if_pos h2] at step ⊢; exact step
      · rw [if_neg h2] at step ⊢; exact step
    · rw [if_neg h1] at step ⊢
      by_cases h2 : spanLo b (rd_T63 xs i).f0 ≤ v
      · rw [if_pos h2] at step ⊢; exact step
      · rw [if_neg h2] at step ⊢; exact step
theorem rank_valid {b K c v : Int} {xs : List S63} (V : Valid b K c xs) (h0 : 0 ≤ v) (h1 : v < 2 ^ b.toNat) : ∀ k, 2 * xs.length + 4 ≤ k → qdigest_Rank.f k b K c xs v = some (upTo (spanHi b) v xs, upTo (spanLo b) v xs, 0) := by
  intro k hk
  obtain ⟨m, rfl⟩ : ∃ m, k = m + 1 := ⟨k - 1, by omega⟩
  have hb1 := V.b1
  unfold qdigest_Rank.f
  rw [chk_valid V _ hk, Option.bind_some, if_pos rfl, if_neg (by omega), if_pos (by omega), shl1 V.b1 V.b2, qdigest_Rank.j0, if_neg (by simpa using h1)]
  have := rank_loop b K c v xs V xs.length 0 (by omega) (by simp [upTo]) (by simp [upTo]) m (by omega)
  simpa [upTo] using this
theorem same_loop (b K c : Int) (xs : List S63) (hl : xs.length ≤ 2000) (d : Nat) : ∀ (i : Nat), i + d = xs.length → ∀ k, d + 1 ≤ k → lookoutref31_Same.l0 k i b K c xs b K c xs = some true := by
  induction d with
  | zero =>
    intro i hd k hk
    obtain rfl : i = xs.length := hd
    obtain ⟨m, rfl⟩ : ∃ m, k = m + 1 := ⟨k - 1, by omega⟩
    rw [lookoutref31_Same.l0, if_neg (Int.lt_irrefl _)]
  | succ d ih =>
    intro i hd k hk
    have hi : i < xs.length := by omega
    obtain ⟨m, rfl⟩ : ∃ m, k = m + 1 := ⟨k - 1, by omega⟩
    rw [lookoutref31_Same.l0, if_pos (Int.ofNat_lt.2 hi), if_pos (Int.natCast_nonneg i), if_pos (Int.ofNat_lt.2 hi), if_neg (by simp), idx_next hi hl]
    exact ih (i + 1) (by omega) m (by omega)
theorem same_self (b K c : Int) (xs : List S63) (hl : xs.length ≤ 2000) : ∀ k, xs.length + 2 ≤ k → lookoutref31_Same.f k b K c xs b K c xs = some true := by
  intro k hk
  obtain ⟨m, rfl⟩ : ∃ m, k = m + 1 := ⟨k - 1, by omega⟩
  unfold lookoutref31_Same.f
  rw [if_pos rfl, if_pos rfl, if_pos rfl, lookoutref31_Same.j0, if_neg (by simp)]
  exact same_loop b K c xs hl xs.length 0 (by omega) m (by omega)
end Go.Proofs.Ytcgimjoebkeifaa.Law

/- An argument of type api.Digest, opened: its numbers, and its nodes as a row that is read. -/
namespace Go.Proofs.Ytcgimjoebkeifaa.LawC
set_option linter.unusedSimpArgs false
set_option linter.unusedVariables false
open Go.RowKit Go.ChangeShapes Go.WideShapes Go.Deep Go.Proofs.YtcgimjoebkeifaaW.PrintWords Go.Proofs.Ytcgimjoebkeifaa.PQ
set_option maxHeartbeats 1000000
set_option maxRecDepth 10000
theorem cells24 : Try.prog.cellsOf 24 = 4 := by kernel_rfl
theorem cells3 : Try.prog.cellsOf 3 = 1 := by kernel_rfl
theorem cells22 : Try.prog.cellsOf 22 = 1 := by kernel_rfl
theorem cells63 : Try.prog.cellsOf 63 = 2 := by kernel_rfl
/-- A number of Go's int. -/
def I64 (n : Int) : Prop := (Lit.int .i64 n).wf = true
theorem open_digest {H : Type} {enc : TypeId × Value → H} {W : World} {base : Nat} {sp : Nat → Bool} {v : Value} {d : DataW H} {ps : List MemPlace} (hok : Value.okWide Try.prog W .any base 24 v) (hT : DataW.Trod enc Try.prog W 0 sp true 24 v d ps) :
    ∃ (b K c : Int) (A : Option Addr) (cap : Nat) (xs : List S63), v = .agg #[.int .i64 b, .int .i64 K, .int .i64 c, .slice A xs.length cap] ∧ I64 b ∧ I64 K ∧ I64 c ∧ xs.length ≤ cap ∧ Kd.C k63 W A xs.length xs ∧ ∀ x ∈ xs, I64 x.f0 ∧ I64 x.f1 := by
  obtain ⟨fuel, hv⟩ := hT
  obtain ⟨y0, y1, y2, y3, m', hx', hl, u0, u1, u2, u3⟩ := Go.Joins.trod_struct4 Try.underlying24 hv
  rw [cells24] at hl
  obtain ⟨c0, c1, c2, c3, hc⟩ : ∃ c0 c1 c2 c3, v.cells.toList = [c0, c1, c2, c3] := by
    match hcs : v.cells.toList, hl with
    | [a, b, c, d], _ => exact ⟨a, b, c, d, rfl⟩
  rw [hc] at u0 u1 u2 u3
  simp only [cells3, cells22, List.drop, List.take] at u0 u1 u2 u3
  obtain ⟨b, hc0, _, wb⟩ := DataW.trod_int Try.underlying3 u0
  obtain ⟨K, hc1, _, wK⟩ := DataW.trod_int Try.underlying3 u1
  obtain ⟨c, hc2, _, wc⟩ := DataW.trod_int Try.underlying3 u2
  simp only [List.cons.injEq, and_true] at hc0 hc1 hc2
  subst hc0; subst hc1; subst hc2
  have hv' : v = .agg #[.int .i64 b, .int .i64 K, .int .i64 c, c3] := by
    cases v <;> simp [Value.cells, Value.okWide, Try.underlying24] at hc hok ⊢
    rename_i cs
    obtain ⟨l⟩ := cs
    simpa using hc
  rcases open_slice_pairs Try.underlying22 Try.underlying63 cells63 rfl rfl cells3 cells3 u3 with ⟨h0, _⟩ | ⟨a, len, cap, m, n, V0, V1, D0, D1, P0, P1, h0, _, hlc, hcm, hm, _, hcell⟩
  · simp only [List.cons.injEq, and_true] at h0
    subst h0
    exact ⟨b, K, c, none, 0, [], hv', wb, wK, wc, Nat.le_refl _, Kd.C_nil _ _, fun x hx => by simp at hx⟩
  · simp only [List.cons.injEq, and_true] at h0
    subst h0
    have hlm : len ≤ m := by rw [hm]; split <;> omega
    have each : ∀ i, i < len → ∃ q : Int × Int, W.cell? (a.add (i * 2)) = some (.int .i64 q.1) ∧ W.cell? (a.add (i * 2 + 1)) = some (.int .i64 q.2) ∧ I64 q.1 ∧ I64 q.2 := fun i hi => by
      obtain ⟨g0, g1, t0, t1⟩ := hcell i (by omega)
      obtain ⟨x0, e0, _, w0⟩ := DataW.trod_int Try.underlying3 t0
      obtain ⟨x1, e1, _, w1⟩ := DataW.trod_int Try.underlying3 t1
      simp only [List.cons.injEq, and_true] at e0 e1
      rw [e0] at g0
      rw [e1] at g1
      exact ⟨(x0, x1), g0, g1, w0, w1⟩
    obtain ⟨q, hq⟩ := choose_lt each
    have hlen : ((List.range len).map (fun i => (⟨(q i).1, (q i).2⟩ : S63))).length = len := by simp
    refine ⟨b, K, c, some a, cap, (List.range len).map (fun i => ⟨(q i).1, (q i).2⟩), by rw [hlen]; exact hv', wb, wK, wc, by rw [hlen]; exact hlc, ?_, ?_⟩
    · rw [hlen]
      refine ⟨hlen, by unfold maxLen at hcm; omega, fun _ => ⟨a, rfl, fun j p hj => ⟨[.int .i64 p.f0, .int .i64 p.f1], rfl, k63_mk _ _, fun i u hu => ?_⟩⟩⟩
      have hj' : j < len := by rw [← hlen]; exact (List.getElem?_eq_some_iff.1 hj).1
      rw [List.getElem?_map, List.getElem?_range hj'] at hj
      simp only [Option.map_some, Option.some.injEq] at hj
      subst hj
      obtain ⟨g0, g1, _, _⟩ := hq j hj'
      match i, hu with
      | 0, hu => simp at hu; subst hu; exact g0
      | 1, hu => simp at hu; subst hu; exact g1
    · intro x hx
      obtain ⟨i, hi, rfl⟩ := List.mem_map.1 hx
      obtain ⟨_, _, w0, w1⟩ := hq i (List.mem_range.1 hi)
      exact ⟨w0, w1⟩
end Go.Proofs.Ytcgimjoebkeifaa.LawC

/- container/heap's up and down over *qdigest.greatest. -/
namespace Go.Proofs.Ytcgimjoebkeifaa.QHeap
open Go.RowKit Go.Proofs.YtcgimjoebkeifaaW.PrintWords Go.Proofs.QHeap
set_option maxHeartbeats 1000000
/-- What a heap's step leaves. -/
def After (B g r cap : Nat) (R : List Int) (w : World) (e : Ending) (w' : World) : Prop := e = .returned (.tuple #[]) ∧ Hp w' B g r cap R ∧ Fr (fun k => k = r) w w'
theorem LessI {w : World} {B g r cap : Nat} {L : List Int} (h : Hp w B g r cap L) (n : Nat) (hn : L.length = n) (i j : Int) (hi0 : 0 ≤ i) (hi : i < n) (hj0 : 0 ≤ j) (hj : j < n) :
    Calls Try.prog 138 #[.slice (some ⟨r, 0, none⟩) n cap, .int .i64 i, .int .i64 j] w fun e w' => e = .returned (.bool (decide (L.getD j.toNat 0 < L.getD i.toNat 0))) ∧ ∃ m, w' = w.drewN m := by
  subst hn
  obtain ⟨i, rfl⟩ := Int.eq_ofNat_of_zero_le hi0
  obtain ⟨j, rfl⟩ := Int.eq_ofNat_of_zero_le hj0
  exact Less_calls h i j (by omega) (by omega)
theorem SwapI {w : World} {B g r cap : Nat} {L : List Int} (h : Hp w B g r cap L) (n : Nat) (hn : L.length = n) (i j : Int) (hi0 : 0 ≤ i) (hi : i < n) (hj0 : 0 ≤ j) (hj : j < n) :
    Calls Try.prog 139 #[.slice (some ⟨r, 0, none⟩) n cap, .int .i64 i, .int .i64 j] w fun e w' => e = .returned (.tuple #[]) ∧ Hp w' B g r cap (swapL L i.toNat j.toNat) ∧ Fr (fun k => k = r) w w' := by
  subst hn
  obtain ⟨i, rfl⟩ := Int.eq_ofNat_of_zero_le hi0
  obtain ⟨j, rfl⟩ := Int.eq_ofNat_of_zero_le hj0
  exact Swap_calls h i j (by omega) (by omega)
theorem Hp.cellN {w : World} {B g r cap : Nat} {L : List Int} (h : Hp w B g r cap L) (n : Nat) (hn : L.length = n) : w.cell? ⟨g, 0, none⟩ = some (.slice (some ⟨r, 0, none⟩) n cap) := by subst hn; exact h.cell
set_option maxRecDepth 100000 in
theorem up_calls (w : World) (B g r cap n : Nat) (L : List Int) (h : Hp w B g r cap L) (j : Nat) (hn : L.length = n) (hj : j < n) (hm : n ≤ 9223372036854775807) :
    Calls Try.prog 60 #[.iface 70 (.pointer (some ⟨g, 0, none⟩)), .int .i64 j] w (After B g r cap (upF L j) w) := by
  have HN := Lib.hid hn
  clear hn
  generalize hF : upF L j = F
  have HF := Lib.hid hF
  clear hF
  go_enter Try.func60, Try.ntmps60
  go_wp2
  go_loopw [1] (fun s1 wr => ∃ (L' : List Int) (j' : Nat), s1 = .int .i64 j' ∧ Hp wr B g r cap L' ∧ Fr (fun k => k = r) w wr ∧ L'.length = n ∧ j' < n ∧ upF L' j' = F) (fun s1 _ => (intOf s1).toNat)
  case atStart => exact ⟨L, j, rfl, h, Fr.refl _ _, HN.out, hj, HF.out⟩
  case round =>
    obtain ⟨L', j', rfl, hp, hf, hl, hj', hu⟩ := hrel
    have HU := Lib.hid hu
    have HL := Lib.hid hl
    clear hu hl
    by_cases hz : j' = 0
    · subst hz
      go_wp2
      go_end0
      refine ⟨rfl, ?_, hf⟩
      rw [← HU.out, upF_top _ _ rfl]
      exact hp
    · have h0 : 0 ≤ (j' : Int) - 1 := by omega
      have h1 : (((j' : Int) - 1) / 2 == (j' : Int)) = false := beq_eq_false_iff_ne.2 (by omega)
      have e1 : (((j' : Int) - 1) / 2).toNat = (j' - 1) / 2 := by omega
      have hm := meth_Less g wr _ (hp.cellN n HL.out)
      have hms := fun m => meth_Swap g (wr.drewN m) _ ((hp.drewN m).cellN n HL.out)
      have hless := LessI hp n HL.out (j' : Int) (((j' : Int) - 1) / 2) (by omega) (by omega) (by omega) (by omega)
      have hswap := fun m => SwapI (hp.drewN m) n HL.out (((j' : Int) - 1) / 2) (j' : Int) (by omega) (by omega) (by omega) (by omega)
      rw [e1] at hless hswap
      simp only [Int.toNat_natCast] at hless hswap
      have E1 := Lib.hid e1
      clear e1
      by_cases hlt : L'.getD ((j' - 1) / 2) 0 < L'.getD j' 0
      · rw [decide_eq_true hlt] at hless
        have hg := upF_go L' j' (by omega) hlt
        rw [HU.out] at hg
        have hsl := (swapL_length L' ((j' - 1) / 2) j').trans HL.out
        have HG := Lib.hid hg
        have HSL := Lib.hid hsl
        clear hg hsl
        generalize swapL L' ((j' - 1) / 2) j' = L2 at HG HSL hswap
        go_wp2_with (first | (go_at_call 138; refine hless.mono ?_; rintro e w' ⟨rfl, m, rfl⟩) | (go_at_call 139; refine (hswap _).mono ?_; rintro e w' ⟨rfl, hp2, hf2⟩))
        go_roundw
        case rel => exact ⟨L2, (j' - 1) / 2, by congr 1; omega, hp2, hf.trans ((Fr.drewN _ _ _).trans hf2), HSL.out, by omega, HG.out.symm⟩
        case measure => simp [intOf]; omega
      · rw [decide_eq_false hlt] at hless
        go_wp2_with (go_at_call 138; refine hless.mono ?_; rintro e w' ⟨rfl, m, rfl⟩)
        go_end0
        refine ⟨rfl, ?_, hf.trans (Fr.drewN _ _ _)⟩
        rw [← HU.out, upF_stay _ _ (by omega)]
        exact hp.drewN _
end Go.Proofs.Ytcgimjoebkeifaa.QHeap

/- container/heap's down over *qdigest.greatest. -/
namespace Go.Proofs.Ytcgimjoebkeifaa.QHeap
open Go.RowKit Go.Proofs.YtcgimjoebkeifaaW.PrintWords Go.Proofs.QHeap
set_option maxHeartbeats 2000000
/-- What 'down' leaves: some bool, and the list. -/
def AfterB (B g r cap : Nat) (R : List Int) (w : World) (e : Ending) (w' : World) : Prop := (∃ b : Bool, e = .returned (.bool b)) ∧ Hp w' B g r cap R ∧ Fr (fun k => k = r) w w'
set_option maxRecDepth 100000 in
theorem down_calls (w : World) (B g r cap len : Nat) (L : List Int) (h : Hp w B g r cap L) (i0 n : Nat) (hn : L.length = len) (hi : i0 < len) (hnl : n ≤ len) (hm : len ≤ 4611686018427387903) :
    Calls Try.prog 59 #[.iface 70 (.pointer (some ⟨g, 0, none⟩)), .int .i64 i0, .int .i64 n] w (AfterB B g r cap (dnF L i0 n) w) := by
  have HN := Lib.hid hn
  clear hn
  generalize hF : dnF L i0 n = F
  have HF := Lib.hid hF
  clear hF
  go_enter Try.func59, Try.ntmps59
  go_wp2
  go_loopw [7] (fun s7 wr => ∃ (L' : List Int) (i : Nat), s7 = .int .i64 i ∧ Hp wr B g r cap L' ∧ Fr (fun k => k = r) w wr ∧ L'.length = len ∧ i < len ∧ dnF L' i n = F) (fun s7 _ => len - (intOf s7).toNat)
  case atStart => exact ⟨L, i0, rfl, h, Fr.refl _ _, HN.out, hi, HF.out⟩
  case round =>
    obtain ⟨L', i, rfl, hp, hf, hl, hi', hu⟩ := hrel
    have HU := Lib.hid hu
    have HL := Lib.hid hl
    clear hu hl
    by_cases hz : n ≤ 2 * i + 1
    · have hz' : (n : Int) ≤ 2 * (i : Int) + 1 := by omega
      go_wp2
      go_ret
      refine ⟨⟨_, rfl⟩, ?_, hf⟩
      rw [← HU.out, dnF_leaf _ _ _ hz]
      exact hp
    · have h1 : ¬ ((n : Int) ≤ 2 * (i : Int) + 1) := by omega
      have h1a : decide ((n : Int) ≤ 2 * (i : Int) + 1) = false := decide_eq_false h1
      have h2 : (2 * (i : Int) + 1 < n) := by omega
      have h2a : decide (2 * (i : Int) + 1 < 0) = false := decide_eq_false (by omega)
      by_cases hz2 : 2 * i + 2 < n
      · have h3 : 2 * (i : Int) + 1 + 1 < n := by omega
        have hless1 := LessI hp len HL.out (2 * (i : Int) + 1 + 1) (2 * (i : Int) + 1) (by omega) (by omega) (by omega) (by omega)
        rw [show (2 * (i : Int) + 1 + 1).toNat = 2 * i + 2 from by omega, show (2 * (i : Int) + 1).toNat = 2 * i + 1 from by omega] at hless1
        by_cases hk : L'.getD (2 * i + 1) 0 < L'.getD (2 * i + 2) 0
        · rw [decide_eq_true hk] at hless1
          have hkid : kid L' i n = 2 * i + 2 := by unfold kid; rw [if_pos ⟨hz2, hk⟩]
          have hk1 : i < 2 * i + 2 ∧ 2 * i + 2 < n := by omega
          have ej : (2 * (i : Int) + 1 + 1).toNat = 2 * i + 2 := by omega
          have hless2 := fun m => LessI (hp.drewN m) len HL.out (2 * (i : Int) + 1 + 1) (i : Int) (by omega) (by omega) (by omega) (by omega)
          have hless20 := LessI hp len HL.out (2 * (i : Int) + 1 + 1) (i : Int) (by omega) (by omega) (by omega) (by omega)
          have hswap := fun m => SwapI (hp.drewN m) len HL.out (i : Int) (2 * (i : Int) + 1 + 1) (by omega) (by omega) (by omega) (by omega)
          rw [ej] at hless2 hless20 hswap
          simp only [Int.toNat_natCast] at hless2 hless20 hswap
          clear ej
          have hm0 := meth_Less g wr _ (hp.cellN len HL.out)
          have hm1 := fun m => meth_Less g (wr.drewN m) _ ((hp.drewN m).cellN len HL.out)
          have hms := fun m => meth_Swap g (wr.drewN m) _ ((hp.drewN m).cellN len HL.out)
          by_cases hlt : L'.getD i 0 < L'.getD (2 * i + 2) 0
          · rw [decide_eq_true hlt] at hless2 hless20
            have hg := dnF_go L' i n (by omega) (by rw [hkid]; exact hlt)
            rw [HU.out, hkid] at hg
            have hsl := (swapL_length L' i (2 * i + 2)).trans HL.out
            have HG := Lib.hid hg
            have HSL := Lib.hid hsl
            have HK := Lib.hid hkid
            clear hg hsl hkid
            generalize swapL L' i (2 * i + 2) = L2 at HG HSL hswap
            go_wp2_with fail
            refine hless1.mono ?_
            rintro e w' ⟨rfl, m1, rfl⟩
            go_wp2_with fail
            refine (hless2 _).mono ?_
            rintro e w' ⟨rfl, m, rfl⟩
            go_wp2_with fail
            refine (hswap _).mono ?_
            rintro e w' ⟨rfl, hp2, hf2⟩
            go_wp2_with fail
            go_roundw
            case rel => exact ⟨L2, 2 * i + 2, by go_num, hp2, hf.trans ((Fr.drewN _ _ _).trans hf2), HSL.out, by omega, HG.out.symm⟩
            case measure => simp [intOf]; omega
          · rw [decide_eq_false hlt] at hless2 hless20
            have HK := Lib.hid hkid
            clear hkid
            go_wp2_with fail
            refine hless1.mono ?_
            rintro e w' ⟨rfl, m1, rfl⟩
            go_wp2_with fail
            refine (hless2 _).mono ?_
            rintro e w' ⟨rfl, m, rfl⟩
            go_wp2_with fail
            go_ret
            refine ⟨⟨_, rfl⟩, ?_, hf.trans (Fr.drewN _ _ _)⟩
            rw [← HU.out, dnF_stay _ _ _ (by rw [HK.out]; omega)]
            exact hp.drewN _
        · rw [decide_eq_false hk] at hless1
          have hkid : kid L' i n = 2 * i + 1 := by unfold kid; rw [if_neg (fun h => hk h.2)]
          have hk1 : i < 2 * i + 1 ∧ 2 * i + 1 < n := by omega
          have ej : (2 * (i : Int) + 1).toNat = 2 * i + 1 := by omega
          have hless2 := fun m => LessI (hp.drewN m) len HL.out (2 * (i : Int) + 1) (i : Int) (by omega) (by omega) (by omega) (by omega)
          have hless20 := LessI hp len HL.out (2 * (i : Int) + 1) (i : Int) (by omega) (by omega) (by omega) (by omega)
          have hswap := fun m => SwapI (hp.drewN m) len HL.out (i : Int) (2 * (i : Int) + 1) (by omega) (by omega) (by omega) (by omega)
          rw [ej] at hless2 hless20 hswap
          simp only [Int.toNat_natCast] at hless2 hless20 hswap
          clear ej
          have hm0 := meth_Less g wr _ (hp.cellN len HL.out)
          have hm1 := fun m => meth_Less g (wr.drewN m) _ ((hp.drewN m).cellN len HL.out)
          have hms := fun m => meth_Swap g (wr.drewN m) _ ((hp.drewN m).cellN len HL.out)
          by_cases hlt : L'.getD i 0 < L'.getD (2 * i + 1) 0
          · rw [decide_eq_true hlt] at hless2 hless20
            have hg := dnF_go L' i n (by omega) (by rw [hkid]; exact hlt)
            rw [HU.out, hkid] at hg
            have hsl := (swapL_length L' i (2 * i + 1)).trans HL.out
            have HG := Lib.hid hg
            have HSL := Lib.hid hsl
            have HK := Lib.hid hkid
            clear hg hsl hkid
            generalize swapL L' i (2 * i + 1) = L2 at HG HSL hswap
            go_wp2_with fail
            refine hless1.mono ?_
            rintro e w' ⟨rfl, m1, rfl⟩
            go_wp2_with fail
            refine (hless2 _).mono ?_
            rintro e w' ⟨rfl, m, rfl⟩
            go_wp2_with fail
            refine (hswap _).mono ?_
            rintro e w' ⟨rfl, hp2, hf2⟩
            go_wp2_with fail
            go_roundw
            case rel => exact ⟨L2, 2 * i + 1, by go_num, hp2, hf.trans ((Fr.drewN _ _ _).trans hf2), HSL.out, by omega, HG.out.symm⟩
            case measure => simp [intOf]; omega
          · rw [decide_eq_false hlt] at hless2 hless20
            have HK := Lib.hid hkid
            clear hkid
            go_wp2_with fail
            refine hless1.mono ?_
            rintro e w' ⟨rfl, m1, rfl⟩
            go_wp2_with fail
            refine (hless2 _).mono ?_
            rintro e w' ⟨rfl, m, rfl⟩
            go_wp2_with fail
            go_ret
            refine ⟨⟨_, rfl⟩, ?_, hf.trans (Fr.drewN _ _ _)⟩
            rw [← HU.out, dnF_stay _ _ _ (by rw [HK.out]; omega)]
            exact hp.drewN _
      · have h3 : ¬ (2 * (i : Int) + 1 + 1 < n) := by omega
        have h3a : decide (2 * (i : Int) + 1 + 1 < n) = false := decide_eq_false h3
        have hkid : kid L' i n = 2 * i + 1 := by unfold kid; rw [if_neg (fun h => hz2 h.1)]
        have hk1 : i < 2 * i + 1 ∧ 2 * i + 1 < n := by omega
        have ej : (2 * (i : Int) + 1).toNat = 2 * i + 1 := by omega
        have hless2 := fun m => LessI (hp.drewN m) len HL.out (2 * (i : Int) + 1) (i : Int) (by omega) (by omega) (by omega) (by omega)
        have hless20 := LessI hp len HL.out (2 * (i : Int) + 1) (i : Int) (by omega) (by omega) (by omega) (by omega)
        have hswap := fun m => SwapI (hp.drewN m) len HL.out (i : Int) (2 * (i : Int) + 1) (by omega) (by omega) (by omega) (by omega)
        rw [ej] at hless2 hless20 hswap
        simp only [Int.toNat_natCast] at hless2 hless20 hswap
        clear ej
        have hm0 := meth_Less g wr _ (hp.cellN len HL.out)
        have hm1 := fun m => meth_Less g (wr.drewN m) _ ((hp.drewN m).cellN len HL.out)
        have hms := fun m => meth_Swap g (wr.drewN m) _ ((hp.drewN m).cellN len HL.out)
        by_cases hlt : L'.getD i 0 < L'.getD (2 * i + 1) 0
        · rw [decide_eq_true hlt] at hless2 hless20
          have hg := dnF_go L' i n (by omega) (by rw [hkid]; exact hlt)
          rw [HU.out, hkid] at hg
          have hsl := (swapL_length L' i (2 * i + 1)).trans HL.out
          have HG := Lib.hid hg
          have HSL := Lib.hid hsl
          have HK := Lib.hid hkid
          clear hg hsl hkid
          generalize swapL L' i (2 * i + 1) = L2 at HG HSL hswap
          go_wp2_with fail
          refine (hless20).mono ?_
          rintro e w' ⟨rfl, m, rfl⟩
          go_wp2_with fail
          refine (hswap _).mono ?_
          rintro e w' ⟨rfl, hp2, hf2⟩
          go_wp2_with fail
          go_roundw
          case rel => exact ⟨L2, 2 * i + 1, by go_num, hp2, hf.trans ((Fr.drewN _ _ _).trans hf2), HSL.out, by omega, HG.out.symm⟩
          case measure => simp [intOf]; omega
        · rw [decide_eq_false hlt] at hless2 hless20
          have HK := Lib.hid hkid
          clear hkid
          go_wp2_with fail
          refine (hless20).mono ?_
          rintro e w' ⟨rfl, m, rfl⟩
          go_wp2_with fail
          go_ret
          refine ⟨⟨_, rfl⟩, ?_, hf.trans (Fr.drewN _ _ _)⟩
          rw [← HU.out, dnF_stay _ _ _ (by rw [HK.out]; omega)]
          exact hp.drewN _
end Go.Proofs.Ytcgimjoebkeifaa.QHeap

/- The methods Len, Pop, Push of *qdigest.greatest. -/
namespace Go.Proofs.Ytcgimjoebkeifaa.QHeap
open Go.RowKit Go.Proofs.YtcgimjoebkeifaaW.PrintWords Go.Proofs.QHeap
set_option maxHeartbeats 2000000
set_option maxRecDepth 100000 in
theorem Len_calls (w : World) (a : Option Addr) (n cap : Nat) :
    Calls Try.prog 33 #[.slice a n cap] w fun e w' => e = .returned (.int .i64 n) ∧ w = w' := by
  go_enter Try.func33, Try.ntmps33
  go_wp2
  go_ret
  exact ⟨rfl, rfl⟩
set_option maxRecDepth 100000 in
theorem PopM_calls (w : World) (B g r cap n : Nat) (L : List Int) (h : Hp w B g r cap L) (hn : L.length = n + 1) :
    Calls Try.prog 140 #[.pointer (some ⟨g, 0, none⟩)] w fun e w' => e = .returned (.iface 3 (.int .i64 (L.getD n 0))) ∧ Hp w' B g r cap (L.take n) ∧ Fr (fun k => k = g) w w' := by
  have hcap := h.cap_le
  have hm := hcap.2
  unfold maxLen at hm
  have hc := h.cellN (n + 1) hn
  have hx := h.at_ n (by omega)
  have hf := h.free
  have hle : n + 1 ≤ 9223372036854775807 := by omega
  have hle2 : n + 1 ≤ cap := by omega
  have HN := Lib.hid hn
  clear hn
  generalize hv : L.getD n 0 = x at hx ⊢
  have HV := Lib.hid hv
  clear hv
  go_enter Try.func140, Try.ntmps140
  go_wp2
  go_ret
  refine ⟨rfl, ⟨h.ge, ?_, ?_⟩, ?_⟩
  · rw [List.length_take, HN.out, Nat.min_eq_left (by omega)]
    exact one_setCell h.box
  · rw [List.length_take, HN.out, Nat.min_eq_left (by omega)]
    refine ownsRow_setCell_other ?_ (by simpa [Value.ownBlock] using h.ne.symm) _
    have hr := h.row
    rw [HN.out] at hr
    obtain ⟨h1, h2⟩ := hr
    refine ⟨by simp [nums, HN.out], .inr ?_⟩
    rcases h2 with ⟨h2, _⟩ | ⟨r', cap', cur, h2, h3, h4, h5, h6, h7, h8⟩
    · simp at h2
    · simp at h2
      obtain ⟨rfl, rfl⟩ := h2
      refine ⟨_, _, cur, rfl, h3, h4, by omega, h6, h7, ?_⟩
      have e8 : nums .i64 (L.take n) = (nums .i64 L).take n := by simp [nums, List.map_take]
      rw [e8, ← h8, List.take_take]
      congr 1
      omega
  · exact ⟨rfl, rfl, rfl, by simp [World.setCell], fun k hk hn => Below.heap_setCell _ _ _ _ (by simpa using hn)⟩

theorem assert3 (x : Int) (w : World) : (Instr.typeAssert (.iface 3 (.int .i64 x)) 20 3 true).run Try.prog w = .ok (.tuple #[.int .i64 x, .bool true]) w := by kernel_rfl
theorem info3 : (Try.prog.info? 3).map (fun i => (i.zero, i.size, i.bytes)) = some (some (.int .i64 0), 1, 8) := by kernel_rfl
set_option maxRecDepth 100000 in
theorem PushM_calls (w : World) (B g r cap n : Nat) (L : List Int) (x : Int) (h : Hp w B g r cap L) (hn : L.length = n) (hlim : n < 17592186044416) :
    Calls Try.prog 141 #[.pointer (some ⟨g, 0, none⟩), .iface 3 (.int .i64 x)] w fun e w' => e = .returned (.tuple #[]) ∧ ∃ r' cap', Hp w' B g r' cap' (L ++ [x]) ∧ Fr (fun k => k = g ∨ k = r) w w' ∧ (r' = r ∨ w.heap.size ≤ r') := by
  have hc := h.cellN n hn
  have hf := h.free
  have hrow := h.row
  rw [hn] at hrow
  have hgl := h.lt
  have hrl := h.row_ge
  have hne := h.ne
  have hge := h.ge
  have HBOX := Lib.hid h.box
  have HN := Lib.hid hn
  clear hn h
  obtain ⟨i0, hi, hz0, hz1, hz2⟩ := info_parts info3
  have has := assert3 x w
  go_enter Try.func141, Try.ntmps141
  go_wp2_with (at_builtin; refine wpList_append_own_at _ rfl _ _ 68 rfl B 3 i0 (.int .i64 0) 1 8 Try.underlying68 hi hz0 hz1 hz2 rfl (by decide) _ _ _ rfl (hrow.alloc _) ⟨w.heap.size, 0, none⟩ 1 1 [.int .i64 x] rfl rfl (cell_one_new _ _ _) (by simp [Value.oneCell']) (by unfold maxLen; omega) (by omega) (by simp; omega) ?_; intro v' w1 hown' hgrow _ hat; obtain ⟨r', cap', rfl, hle', hm'⟩ := hown'.form (by omega); have hb1 := (hgrow.block g (by simp; omega) (fun e => hne (Option.some.inj e))).trans ((Below.heap_alloc w _ g hgl).trans HBOX.out); have hc1 := cell_of_one hb1; have hf1 := free_of_one hb1; clear hc hf; have HB1 := Lib.hid hb1; clear hb1)
  go_end0
  have hg2 : (w.alloc (Obj.cells #[Value.int IntKind.i64 x] 3)).grownBy w1 (some r) := hgrow
  have hne' : g ≠ r' := by
    rintro rfl
    rcases hown'.2 with ⟨h1, _⟩ | ⟨g', c', cur, h1, _, h2, _⟩
    · simp at h1
    · simp at h1
      obtain ⟨rfl, _⟩ := h1
      rw [HB1.out] at h2
      simp at h2
  refine ⟨rfl, r', cap', ⟨hge, ?_, ?_⟩, ⟨?_, ?_, ?_, ?_, ?_⟩, ?_⟩
  · rw [List.length_append, HN.out]
    exact one_setCell HB1.out
  · rw [List.length_append, HN.out]
    have e8 : nums .i64 (L ++ [x]) = nums .i64 L ++ [.int .i64 x] := by simp [nums]
    rw [e8]
    exact ownsRow_setCell_other hown' (fun e => hne' (Option.some.inj e).symm) _
  · exact hg2.os
  · exact hg2.tape
  · exact hg2.output
  · have := hg2.size
    simp [World.setCell] at this ⊢
    omega
  · intro k hk hn
    rw [Below.heap_setCell _ _ _ _ (by simp; omega), hg2.block k (by simp; omega) (fun e => hn (.inr (Option.some.inj e))), Below.heap_alloc w _ k hk]
  · rcases hat with h1 | h1
    · exact .inl (Option.some.inj h1)
    · have : r' = (w.alloc (Obj.cells #[Value.int IntKind.i64 x] 3)).heap.size := Option.some.inj h1
      simp at this
      omega
end Go.Proofs.Ytcgimjoebkeifaa.QHeap

/- container/heap's Init, Pop and Push over *qdigest.greatest. -/
namespace Go.Proofs.Ytcgimjoebkeifaa.QHeap
open Go.RowKit Go.Proofs.YtcgimjoebkeifaaW.PrintWords Go.Proofs.QHeap
set_option maxHeartbeats 2000000
set_option maxRecDepth 100000 in
theorem Init_calls (w : World) (B g r cap n : Nat) (L : List Int) (h : Hp w B g r cap L) (hn : L.length = n) (hm : n ≤ 4611686018427387903) :
    Calls Try.prog 32 #[.iface 70 (.pointer (some ⟨g, 0, none⟩))] w (After B g r cap (heapInit L) w) := by
  have hF : initL n (n / 2) L = heapInit L := by unfold heapInit; rw [hn]
  have hmL := meth_Len g w _ (h.cellN n hn)
  have HN := Lib.hid hn
  clear hn
  generalize heapInit L = F at hF ⊢
  have HF := Lib.hid hF
  clear hF
  have h0 : (0 : Int) ≤ n := by omega
  go_enter Try.func32, Try.ntmps32
  go_wp2_with (go_at_call 33; refine (Len_calls _ _ _ _).mono ?_; rintro e w' ⟨rfl, rfl⟩)
  go_loopw [3] (fun s3 wr => ∃ (L' : List Int) (k : Nat), s3 = .int .i64 ((k : Int) - 1) ∧ Hp wr B g r cap L' ∧ Fr (fun k => k = r) w wr ∧ L'.length = n ∧ k ≤ n / 2 ∧ initL n k L' = F) (fun s3 _ => (intOf s3 + 1).toNat)
  case atStart => exact ⟨L, n / 2, by first | rfl | (congr 1; omega), h, Fr.refl _ _, HN.out, Nat.le_refl _, HF.out⟩
  case round =>
    obtain ⟨L', k, rfl, hp, hf, hl, hk, hu⟩ := hrel
    have HU := Lib.hid hu
    have HL := Lib.hid hl
    clear hu hl
    cases k with
    | zero =>
      have hz : decide ((0 : Int) ≤ ((0 : Nat) : Int) - 1) = false := by decide
      go_wp2
      go_end0
      refine ⟨rfl, ?_, hf⟩
      rw [← HU.out]
      exact hp
    | succ k =>
      have e1 : ((k + 1 : Nat) : Int) - 1 = (k : Int) := by omega
      rw [e1]
      clear e1
      have hk0 : (0 : Int) ≤ k := by omega
      have hd := down_calls wr B g r cap n L' hp k n HL.out (by omega) (Nat.le_refl _) hm
      go_wp2_with (go_at_call 59; refine hd.mono ?_; rintro e w' ⟨⟨b, rfl⟩, hp2, hf2⟩)
      go_roundw
      case rel => exact ⟨dnF L' k n, k, rfl, hp2, hf.trans hf2, (dnF_length _ _ _).trans HL.out, by omega, HU.out⟩
      case measure => simp [intOf] <;> omega

theorem popR_of {L : List Int} {n : Nat} (hn : L.length = n + 1) : popR L = (dnF (swapL L 0 n) 0 n).take n ∧ popV L = (dnF (swapL L 0 n) 0 n).getD n 0 := by
  unfold popR popV popL
  rw [hn]
  exact ⟨rfl, rfl⟩
set_option maxRecDepth 100000 in
theorem Pop_calls (w : World) (B g r cap n : Nat) (L : List Int) (h : Hp w B g r cap L) (hn : L.length = n + 1) (hm : n + 1 ≤ 4611686018427387903) :
    Calls Try.prog 34 #[.iface 70 (.pointer (some ⟨g, 0, none⟩))] w fun e w' => e = .returned (.iface 3 (.int .i64 (popV L))) ∧ Hp w' B g r cap (popR L) ∧ Fr (fun k => k = g ∨ k = r) w w' := by
  have hpo := popR_of hn
  rw [hpo.1, hpo.2]
  clear hpo
  have hmL := meth_Len g w _ (h.cellN (n + 1) hn)
  have hmS := meth_Swap g w _ (h.cellN (n + 1) hn)
  have hmP := fun W => meth_Pop g W
  have hsw := SwapI h (n + 1) hn 0 n (by omega) (by omega) (by omega) (by omega)
  simp only [Int.toNat_natCast] at hsw
  have hsl := (swapL_length L 0 n).trans hn
  have HSL := Lib.hid hsl
  have HN := Lib.hid hn
  clear hn hsl
  rw [show (0 : Int).toNat = 0 from rfl] at hsw
  generalize swapL L 0 n = L1 at hsw HSL ⊢
  have hd := fun W (hW : Hp W B g r cap L1) => down_calls W B g r cap (n + 1) L1 hW 0 n HSL.out (by omega) (by omega) hm
  have hdl := (dnF_length L1 0 n).trans HSL.out
  have HDL := Lib.hid hdl
  clear hdl
  generalize dnF L1 0 n = L2 at hd HDL ⊢
  go_enter Try.func34, Try.ntmps34
  go_wp2_with (go_at_call 33; refine (Len_calls _ _ _ _).mono ?_; rintro e w' ⟨rfl, rfl⟩)
  refine hsw.mono ?_
  rintro e w1 ⟨rfl, hp1, hf1⟩
  go_wp2_with fail
  refine (hd _ hp1).mono ?_
  rintro e w2 ⟨⟨b, rfl⟩, hp2, hf2⟩
  go_wp2_with fail
  refine (PopM_calls _ B g r cap n L2 hp2 HDL.out).mono ?_
  rintro e w3 ⟨rfl, hp3, hf3⟩
  go_wp2_with fail
  go_ret
  exact ⟨rfl, hp3, (hf1.mono (fun k _ hk => .inr hk)).trans ((hf2.mono (fun k _ hk => .inr hk)).trans (hf3.mono (fun k _ hk => .inl hk)))⟩

set_option maxRecDepth 100000 in
theorem Push_calls (w : World) (B g r cap n : Nat) (L : List Int) (x : Int) (h : Hp w B g r cap L) (hn : L.length = n) (hlim : n < 17592186044416) :
    Calls Try.prog 35 #[.iface 70 (.pointer (some ⟨g, 0, none⟩)), .iface 3 (.int .i64 x)] w fun e w' => e = .returned (.tuple #[]) ∧ ∃ r' cap', Hp w' B g r' cap' (pushL L x) ∧ Fr (fun k => k = g ∨ k = r) w w' ∧ (r' = r ∨ w.heap.size ≤ r') := by
  have hpl : pushL L x = upF (L ++ [x]) n := by unfold pushL; rw [hn]
  rw [hpl]
  clear hpl
  have hl2 : (L ++ [x]).length = n + 1 := by rw [List.length_append, hn]; rfl
  have hpu := PushM_calls w B g r cap n L x h hn hlim
  have hmP := meth_Push g w
  have hB := h.row_ge
  have HB := Lib.hid hl2
  have HN := Lib.hid hn
  clear hn hl2
  generalize L ++ [x] = L1 at hpu HB ⊢
  have h0 : (0 : Int) ≤ (n : Int) + 1 - 1 := by omega
  go_enter Try.func35, Try.ntmps35
  go_wp2_with fail
  refine hpu.mono ?_
  rintro e w1 ⟨rfl, r', cap', hp1, hf1, hat⟩
  have hmL := meth_Len g w1 _ (hp1.cellN (n + 1) HB.out)
  go_wp2_with (go_at_call 33; refine (Len_calls _ _ _ _).mono ?_; rintro e w' ⟨rfl, rfl⟩)
  refine (up_calls w1 B g r' cap' (n + 1) L1 hp1 n HB.out (by omega) (by omega)).mono ?_
  rintro e w2 ⟨rfl, hp2, hf2⟩
  go_wp2_with fail
  go_end0
  refine ⟨rfl, r', cap', hp2, ?_, hat⟩
  refine ⟨hf2.os.trans hf1.os, hf2.tape.trans hf1.tape, hf2.output.trans hf1.output, Nat.le_trans hf1.size hf2.size, fun k hk hn => ?_⟩
  rw [hf2.block k (Nat.lt_of_lt_of_le hk hf1.size) (by rintro rfl; rcases hat with h1 | h1; exact hn (.inr h1); omega), hf1.block k hk hn]
end Go.Proofs.Ytcgimjoebkeifaa.QHeap

/- The state of qdigest.Compress in memory: its variables' blocks, the map that reads as a list of pairs, the heap. What each operation makes of it. Conditions: small numbers. -/
namespace Go.Proofs.Ytcgimjoebkeifaa.QComp
open Go.RowKit Go.Proofs.YtcgimjoebkeifaaW.PrintWords Go.Proofs.QHeap Go.Proofs.QComp Go.Proofs.Ytcgimjoebkeifaa.QHeap
set_option maxHeartbeats 1000000
abbrev L64 (k : Int) : Lit := .int .i64 k
/-- The map's datum reads as the list of pairs. -/
structure Rel (D : DataW Unit) (cs : Cs) : Prop where
  tidy : Maps.Tidy D
  at_ : ∀ k zd, D.atKey (L64 k) zd = match cs.lookup k with | some v => .lit (L64 v) | none => zd
  has : ∀ k, Maps.has D (L64 k) = (cs.lookup k).isSome
  nodup : (keys cs).Nodup
  size : Maps.size D = cs.length
theorem rel_nil : Rel (.map []) [] := ⟨Maps.tidy_empty, fun _ _ => rfl, fun _ => rfl, List.nodup_nil, rfl⟩
theorem isKey (k : Int) (h : (L64 k).wf = true) : WideAt.IsKeyLit (L64 k) := (Maps.int_keyed (P := Try.prog) Try.underlying3).key (Maps.keyOf_int_mk Try.underlying3 h)
theorem wf_of {k : Int} (h0 : -9223372036854775808 ≤ k) (h1 : k ≤ 9223372036854775807) : (L64 k).wf = true := by
  exact WalkArith.wf_i64 ⟨h0, h1⟩
theorem Rel.get {D : DataW Unit} {cs : Cs} (h : Rel D cs) (k : Int) : D.atKey (L64 k) (.lit (L64 0)) = .lit (L64 (get cs k)) := by
  rw [h.at_]
  unfold Go.Proofs.QComp.get
  cases cs.lookup k <;> rfl
theorem L64_ne {j k : Int} (h : j ≠ k) : L64 j ≠ L64 k := fun e => h (by injection e)
theorem length_put (cs : Cs) (k v : Int) : (put cs k v).length = (del cs k).length + 1 := rfl
theorem length_del_not {cs : Cs} {k : Int} (h : (cs.lookup k).isSome = false) : (del cs k) = cs := by
  unfold del
  rw [List.filter_eq_self]
  intro p hp
  have : ¬ k ∈ keys cs := by rw [← lookup_isSome_iff, h]; simp
  simp only [bne_iff_ne, ne_eq]
  intro e
  exact this (List.mem_map.2 ⟨p, hp, e⟩)
theorem length_del_in {cs : Cs} {k : Int} (hn : (keys cs).Nodup) (h : (cs.lookup k).isSome = true) : (del cs k).length + 1 = cs.length := by
  induction cs with
  | nil => simp at h
  | cons p cs ih =>
    obtain ⟨a, b⟩ := p
    unfold keys at hn ih
    rw [List.map_cons, List.nodup_cons] at hn
    by_cases e : k = a
    · subst e
      have hnot : (cs.lookup k).isSome = false := by
        cases hh : (cs.lookup k).isSome with
        | false => rfl
        | true => exact absurd (lookup_isSome_iff.1 hh) hn.1
      have hd : del ((k, b) :: cs) k = del cs k := by unfold del; rw [List.filter_cons, if_neg (by simp)]
      rw [hd, length_del_not hnot]
      rfl
    · have hd : del ((a, b) :: cs) k = (a, b) :: del cs k := by unfold del; rw [List.filter_cons, if_pos (by simpa using fun h => e h.symm)]
      rw [List.lookup_cons] at h
      have : (k == a) = false := by simpa using e
      rw [this] at h
      rw [hd, List.length_cons, List.length_cons, ih hn.2 h]
theorem Rel.put {D : DataW Unit} {cs : Cs} (h : Rel D cs) (k v : Int) (hk : (L64 k).wf = true) : Rel (D.put (L64 k) (.lit (L64 v))) (put cs k v) := by
  refine ⟨h.tidy.put (isKey k hk) _, fun j zd => ?_, fun j => ?_, nodup_put h.nodup k v, ?_⟩
  · by_cases e : j = k
    · subst e
      rw [Maps.atKey_put_same h.tidy.isMap (isKey j hk), lookup_put_same]
    · rw [Maps.atKey_put_other (L64_ne e), lookup_put_other _ _ _ _ e, h.at_]
  · by_cases e : j = k
    · subst e
      rw [Maps.has_put_same h.tidy.isMap (isKey j hk), lookup_put_same]
      rfl
    · rw [Maps.has_put_other (L64_ne e), lookup_put_other _ _ _ _ e, h.has]
  · rw [Maps.size_put h.tidy, h.has, length_put, h.size]
    cases hh : (cs.lookup k).isSome with
    | true => simp only [if_true]; rw [length_del_in h.nodup hh]
    | false => rw [if_neg (by simp), length_del_not hh]
theorem Rel.del {D : DataW Unit} {cs : Cs} (h : Rel D cs) (k : Int) : Rel (D.del (L64 k)) (del cs k) := by
  refine ⟨h.tidy.del _, fun j zd => ?_, fun j => ?_, nodup_del h.nodup k, ?_⟩
  · by_cases e : j = k
    · subst e
      rw [Maps.atKey_del_same, lookup_del_same]
    · rw [Maps.atKey_del_other (L64_ne e), lookup_del_other _ _ _ e, h.at_]
  · by_cases e : j = k
    · subst e
      rw [Maps.has_del_same, lookup_del_same]
      rfl
    · rw [Maps.has_del_other (L64_ne e), lookup_del_other _ _ _ e, h.has]
  · have hs := Maps.size_del (k := L64 k) h.tidy
    rw [h.has, h.size] at hs
    cases hh : (cs.lookup k).isSome with
    | true => rw [hh] at hs; simp only [if_true] at hs; have := length_del_in h.nodup hh; omega
    | false => rw [hh, if_neg (by simp)] at hs; rw [length_del_not hh]; omega
/-- Block b is a map that reads as cs. -/
def MapAt (w : World) (b : Nat) (cs : Cs) : Prop := ∃ D : DataW Unit, w.ownsMap Try.prog 3 (plainElem Try.prog 3) b cs.length D ∧ Rel D cs
theorem MapAt.mk_ {w : World} {b n : Nat} {cs : Cs} {D : DataW Unit} (h : w.ownsMap Try.prog 3 (plainElem Try.prog 3) b n D) (r : Rel D cs) : MapAt w b cs := by
  refine ⟨D, ?_, r⟩
  obtain ⟨es, clock, hb, F, hs, hD⟩ := h
  refine ⟨es, clock, hb, F, ?_, hD⟩
  have h1 := r.size
  rw [hD, Maps.size_eq, length_sorted] at h1
  simp at h1
  omega
theorem MapAt.block {w : World} {b : Nat} {cs : Cs} (h : MapAt w b cs) : ∃ es clock, w.heap[b]? = some (.map es clock) := by
  obtain ⟨D, ⟨es, clock, hb, _⟩, _⟩ := h
  exact ⟨es, clock, hb⟩
theorem MapAt.lt {w : World} {b : Nat} {cs : Cs} (h : MapAt w b cs) : b < w.heap.size := by
  obtain ⟨D, h, _⟩ := h
  exact h.lt
theorem MapAt.move {w w' : World} {b : Nat} {cs : Cs} (h : MapAt w b cs) (hb : w'.heap[b]? = w.heap[b]?) : MapAt w' b cs := by
  obtain ⟨D, ⟨es, clock, h1, F, hs, hD⟩, r⟩ := h
  exact ⟨D, ⟨es, clock, hb.trans h1, F, hs, hD⟩, r⟩
section
variable {w : World} {b : Nat} {cs : Cs}
theorem MapAt.look (h : MapAt w b cs) (k : Int) (hk : (L64 k).wf = true) : (Instr.lookup 67 (.map (some b)) (.int .i64 k) false).run Try.prog w = .ok (.int .i64 (get cs k)) w := by
  obtain ⟨D, hown, r⟩ := h
  obtain ⟨c, hrun, hat, _⟩ := hown.lookup_int (Maps.int_keyed Try.underlying3) Try.underlying67 Try.underlying3 (Try.zeroValue3 w) (Maps.keyOf_int_mk Try.underlying3 hk)
  rw [r.get] at hat
  have : get cs k = c := (Lit.int.inj (DataW.lit.inj hat)).2
  rw [this]
  exact hrun
set_option maxRecDepth 100000 in
theorem MapAt.set (h : MapAt w b cs) (k v : Int) (hk : (L64 k).wf = true) (hv : (L64 v).wf = true) (hl : cs.length ≤ 1073741824) :
    ∃ w', (Instr.mapUpdate 67 (.map (some b)) (.int .i64 k) (.int .i64 v)).run Try.prog w = .ok () w' ∧ MapAt w' b (put cs k v) ∧ w.grownBy w' (some b) := by
  obtain ⟨D, hown, r⟩ := h
  have hlt : cs.length < maxLen := by unfold maxLen; omega
  have hup := hown.update (Maps.int_keyed Try.underlying3) Try.underlying67 hlt (Maps.keyOf_int_mk Try.underlying3 hk) (plainElem_int Try.underlying3 hv)
  obtain ⟨w', hrun, h1, h2⟩ := hup
  exact ⟨w', hrun, MapAt.mk_ h1 (r.put k v hk), h2⟩
theorem MapAt.drop (h : MapAt w b cs) (k : Int) (hk : (L64 k).wf = true) (ty : TypeId) :
    ∃ w', (Builtin.delete_ #[67, 3] ty #[.map (some b), .int .i64 k]).run Try.prog w = .ok (.tuple #[]) w' ∧ MapAt w' b (del cs k) ∧ w.grownBy w' (some b) := by
  obtain ⟨D, hown, r⟩ := h
  obtain ⟨w', hrun, h1, h2⟩ := hown.drop (Maps.int_keyed Try.underlying3) Try.underlying67 (Maps.keyOf_int_mk Try.underlying3 hk) ty
  exact ⟨w', hrun, MapAt.mk_ h1 (r.del k), h2.grown⟩
theorem MapAt.made (w : World) : MapAt (w.alloc (.map #[] 0)) w.heap.size [] := ⟨.map [], World.ownsMap_made w _ _ _, rel_nil⟩
end

/-- Where Compress stands: the boxes of x and of the result at B and B + 1, the map at mb, the heap at g and r. -/
structure CSt (w wr : World) (B mb g r cap : Nat) (X Z : Array Value) (cs : Cs) (td : List Int) : Prop where
  bel : Below B w wr
  bx : wr.heap[B]? = some (.cells X 24 (0, 0))
  br : wr.heap[B + 1]? = some (.cells Z 24 (0, 0))
  mbge : B ≤ mb
  mp : MapAt wr mb cs
  hp : Hp wr B g r cap td
section
variable {w wr w' : World} {B mb g r cap : Nat} {X Z : Array Value} {cs : Cs} {td : List Int}
theorem CSt.g_box (h : CSt w wr B mb g r cap X Z cs td) : g ≠ B ∧ g ≠ B + 1 ∧ g ≠ mb := by
  have hb := h.hp.box
  refine ⟨?_, ?_, ?_⟩
  · rintro rfl; rw [h.bx] at hb; simp at hb
  · rintro rfl; rw [h.br] at hb; simp at hb
  · rintro rfl
    obtain ⟨es, clock, hm⟩ := h.mp.block
    rw [hm] at hb; simp at hb
theorem CSt.r_box (h : CSt w wr B mb g r cap X Z cs td) : r ≠ B ∧ r ≠ B + 1 ∧ r ≠ mb := by
  rcases h.hp.row.2 with ⟨h1, _⟩ | ⟨g', cap', cur, h1, _, hb, _⟩
  · simp at h1
  · simp at h1
    obtain ⟨rfl, _⟩ := h1
    refine ⟨?_, ?_, ?_⟩
    · rintro rfl; rw [h.bx] at hb; simp at hb
    · rintro rfl; rw [h.br] at hb; simp at hb
    · rintro rfl
      obtain ⟨es, clock, hm⟩ := h.mp.block
      rw [hm] at hb; simp at hb
theorem CSt.m_box (h : CSt w wr B mb g r cap X Z cs td) : mb ≠ B ∧ mb ≠ B + 1 := by
  obtain ⟨es, clock, hm⟩ := h.mp.block
  refine ⟨?_, ?_⟩
  · rintro rfl; rw [h.bx] at hm; simp at hm
  · rintro rfl; rw [h.br] at hm; simp at hm
theorem CSt.lt (h : CSt w wr B mb g r cap X Z cs td) : B + 1 < wr.heap.size := (Array.getElem?_eq_some_iff.1 h.br).1
/-- A step on the heap. -/
theorem CSt.heap (h : CSt w wr B mb g r cap X Z cs td) {g' r' cap' : Nat} {td' : List Int} (hp : Hp w' B g r' cap' td') (hf : Fr (fun k => k = g ∨ k = r) wr w') (_hg : g' = g) : CSt w w' B mb g r' cap' X Z cs td' := by
  have hg := h.g_box
  have hr := h.r_box
  have hl := h.lt
  have hml := h.mp.lt
  have h1 := h.hp.ge
  have h2 := h.hp.row_ge.1
  refine ⟨h.bel.trans (hf.below (by omega) (by rintro k (rfl | rfl) <;> omega)), ?_, ?_, h.mbge, h.mp.move ?_, hp⟩
  · rw [hf.block B (by omega) (by omega)]; exact h.bx
  · rw [hf.block (B + 1) (by omega) (by omega)]; exact h.br
  · exact hf.block mb hml (by omega)
theorem CSt.drewN (h : CSt w wr B mb g r cap X Z cs td) (n : Nat) : CSt w (wr.drewN n) B mb g r cap X Z cs td :=
  ⟨h.bel.trans ⟨rfl, rfl, rfl, Nat.le_refl _, fun _ _ => rfl⟩, h.bx, h.br, h.mbge, h.mp.move rfl, h.hp.drewN n⟩
theorem CSt.alloc (h : CSt w wr B mb g r cap X Z cs td) (o : Obj) : CSt w (wr.alloc o) B mb g r cap X Z cs td := by
  have hl := h.lt
  have hml := h.mp.lt
  have e : ∀ k, k < wr.heap.size → (wr.alloc o).heap[k]? = wr.heap[k]? := Below.heap_alloc wr o
  exact ⟨h.bel.alloc (by omega) o, (e B (by omega)).trans h.bx, (e (B + 1) hl).trans h.br, h.mbge, h.mp.move (e mb hml), ⟨h.hp.ge, (e g h.hp.lt).trans h.hp.box, h.hp.row.alloc o⟩⟩
/-- A step on the map. -/
theorem CSt.map (h : CSt w wr B mb g r cap X Z cs td) {cs' : Cs} (hm : MapAt w' mb cs') (hg : wr.grownBy w' (some mb)) : CSt w w' B mb g r cap X Z cs' td := by
  have hgb := h.g_box
  have hrb := h.r_box
  have hmb := h.m_box
  have hl := h.lt
  have e : ∀ k, k < wr.heap.size → k ≠ mb → w'.heap[k]? = wr.heap[k]? := fun k hk hn => hg.block k hk (fun e => hn (Option.some.inj e))
  refine ⟨h.bel.grown hg (by omega) (fun k hk => by injection hk with hk; have := h.mbge; omega), (e B (by omega) (by omega)).trans h.bx, (e (B + 1) hl (by omega)).trans h.br, h.mbge, hm, ⟨h.hp.ge, (e g h.hp.lt (by omega)).trans h.hp.box, ?_⟩⟩
  exact h.hp.row.kept hg (.inr (by intro e; have : r = mb := Option.some.inj e; omega))
theorem CSt.xcell (h : CSt w wr B mb g r cap X Z cs td) (j : Nat) : wr.cell? ⟨B, j, none⟩ = X[j]? := by simp [World.cell?, h.bx]
end
end Go.Proofs.Ytcgimjoebkeifaa.QComp

/- qdigest.Compress at an invalid digest: the call answers the zero digest and ErrArgument. -/
namespace Go.Proofs.Ytcgimjoebkeifaa.QComp
open Go.RowKit Go.Proofs.YtcgimjoebkeifaaW.PrintWords Go.Proofs.QHeap Go.Proofs.QComp Go.Proofs.Ytcgimjoebkeifaa.QHeap Go.Proofs.Ytcgimjoebkeifaa.PQ
set_option maxHeartbeats 4000000
def pair (x : S63) : Int × Int := (x.f0, x.f1)
def unpair (p : Int × Int) : S63 := ⟨p.1, p.2⟩
/-- What Compress answers: a digest whose nodes are a row of its own. -/
def CPost (r1 r2 r3 : Int) (r4 : List S63) (r5 : Int) (w : World) (e : Ending) (w' : World) : Prop :=
  ∃ v3_ : Value, e = .returned (.tuple #[.agg #[.int .i64 r1, .int .i64 r2, .int .i64 r3, v3_], .int .i64 r5]) ∧ Kd.R k63 63 w' w.heap.size (fun _ => True) v3_ r4 ∧ Below w.heap.size w w'
theorem two_new (w : World) (o1 o2 : Obj) : ((w.alloc o1).alloc o2).heap[w.heap.size]? = some o1 ∧ ((w.alloc o1).alloc o2).heap[w.heap.size + 1]? = some o2 := by
  refine ⟨blk_alloc (blk_new w o1) o2, ?_⟩
  have := blk_new (w.alloc o1) o2
  rwa [show (w.alloc o1).heap.size = w.heap.size + 1 from by simp] at this
/-- The world when Check is called. -/
def W2 (w : World) (X : Array Value) : World := (w.alloc (.cells X 24)).alloc (.cells #[.int .i64 0, .int .i64 0, .int .i64 0, .slice none 0 0] 24)
theorem W2_below (w : World) (X : Array Value) : Below w.heap.size w (W2 w X) := ((Below.refl _ _).alloc (Nat.le_refl _) _).alloc (by simp) _
theorem W2_blocks {w w1 : World} {X : Array Value} (hB : Below (W2 w X).heap.size (W2 w X) w1) :
    w1.heap[w.heap.size]? = some (.cells X 24 (0, 0)) ∧ w1.heap[w.heap.size + 1]? = some (.cells #[.int .i64 0, .int .i64 0, .int .i64 0, .slice none 0 0] 24 (0, 0)) ∧ Below w.heap.size w w1 := by
  have h := two_new w (.cells X 24) (.cells #[.int .i64 0, .int .i64 0, .int .i64 0, .slice none 0 0] 24)
  have hs : (W2 w X).heap.size = w.heap.size + 2 := by simp [W2]
  refine ⟨(hB.block _ (by omega)).trans h.1, (hB.block _ (by omega)).trans h.2, ?_⟩
  exact (W2_below w X).trans (hB.mono (by omega))
set_option maxRecDepth 100000 in
theorem comp_no (k : Nat) (a0 a1 a2 : Int) (A : Option Addr) (c : Nat) (xs : List S63) (t : Int) (w : World) (hr : Kd.C k63 w A xs.length xs) (hc : xs.length ≤ c) (h : qdigest_Check.f k a0 a1 a2 xs = some t) (ht : ¬ t = 0) :
    Calls Try.prog 11 #[.agg #[.int .i64 a0, .int .i64 a1, .int .i64 a2, .slice A xs.length c]] w (CPost 0 0 0 [] 1 w) := by
  have ht1 : (t != 0) = true := by simpa using ht
  have hch := qdigest_Check.calls k a0 a1 a2 A c xs t (W2 w #[.int .i64 a0, .int .i64 a1, .int .i64 a2, .slice A xs.length c]) (Kd.C_below hr (W2_below _ _)) hc h
  clear hr
  go_enter Try.func11, Try.ntmps11
  go_wp2_with fail
  refine hch.mono ?_
  rintro e w1 ⟨rfl, hB⟩
  obtain ⟨_, b1, hbb⟩ := W2_blocks hB
  have c0 := blk_cell b1 0
  have c1 := blk_cell b1 1
  have c2 := blk_cell b1 2
  have c3 := blk_cell b1 3
  have f0 := blk_frozen b1 0
  have f1 := blk_frozen b1 1
  have f2 := blk_frozen b1 2
  have f3 := blk_frozen b1 3
  have B1 := Lib.hid b1
  clear b1
  simp at c0 c1 c2 c3
  go_wp2_with fail
  refine bodyPost_ret (results_ct rfl _ _ (w.heap.size + 1) 24 #[.int .i64 0, .int .i64 0, .int .i64 0, .slice none 0 0] (0, 0) _ rfl (blk_put (cs := #[.int .i64 0, .int .i64 0, .int .i64 0, .slice none 0 0]) (blk_put (cs := #[.int .i64 0, .int .i64 0, .int .i64 0, .slice none 0 0]) (blk_put (cs := #[.int .i64 0, .int .i64 0, .int .i64 0, .slice none 0 0]) (blk_put (cs := #[.int .i64 0, .int .i64 0, .int .i64 0, .slice none 0 0]) B1.out 0 _ rfl) 1 _ rfl) 2 _ rfl) 3 _ rfl) Try.underlying24 rfl (by kernel_rfl)) rfl ?_
  refine ⟨_, rfl, Kd.R_nil _ _ _ _ _, ?_⟩
  exact (((hbb.setCell (by simp) _).setCell (by simp) _).setCell (by simp) _).setCell (by simp) _
end Go.Proofs.Ytcgimjoebkeifaa.QComp

/- qdigest.Compress's end: the map's entries in the order of their ids. -/
namespace Go.Proofs.Ytcgimjoebkeifaa.QComp
open Go.RowKit Go.Proofs.YtcgimjoebkeifaaW.PrintWords Go.Proofs.QHeap Go.Proofs.QComp Go.Proofs.Ytcgimjoebkeifaa.QHeap Go.Proofs.Ytcgimjoebkeifaa.PQ Go.Sort
set_option maxHeartbeats 1000000
theorem MapAt.len {w : World} {b : Nat} {cs : Cs} (h : MapAt w b cs) (ty : TypeId) : (Builtin.len_ #[67] ty #[.map (some b)]).run Try.prog w = .ok (.int .i64 cs.length) w := by
  obtain ⟨D, hown, r⟩ := h
  rw [hown.len Try.underlying67, r.size]
theorem nodup_of_keys {cs : Cs} (h : (keys cs).Nodup) : cs.Nodup := by
  unfold keys at h
  exact List.Pairwise.of_map _ (fun a b hne e => hne (by rw [e])) h
/-- What has been collected is all of the map. -/
theorem collected {cs acc : Cs} (hn : (keys cs).Nodup) (ha : (keys acc).Nodup) (h1 : ∀ p ∈ acc, cs.lookup p.1 = some p.2) (h2 : ∀ k, (cs.lookup k).isSome = true → k ∈ keys acc) : acc.Perm cs := by
  refine (List.perm_ext_iff_of_nodup (nodup_of_keys ha) (nodup_of_keys hn)).2 (fun p => ⟨fun hp => ?_, fun hp => ?_⟩)
  · exact (lookup_mem hn).1 (h1 p hp)
  · obtain ⟨k, v⟩ := p
    have hl := (lookup_mem hn).2 hp
    obtain ⟨q, hq, he⟩ := List.mem_map.1 (h2 k (by rw [hl]; rfl))
    obtain ⟨k', v'⟩ := q
    simp only at he
    subst he
    have := h1 _ hq
    rw [hl] at this
    injection this with this
    rw [this]
    exact hq
/-- A node whose id is small. -/
def E : Type := { p : Int × Int // 0 ≤ p.1 ∧ p.1 ≤ 1099511627776 }
instance : Inhabited E := ⟨⟨(0, 0), by decide⟩⟩
def encE (x : E) : List Value := [.int .i64 x.1.1, .int .i64 x.1.2]
def enc2 (p : Int × Int) : List Value := [.int .i64 p.1, .int .i64 p.2]
def cfE (x y : E) : Int := x.1.1 - y.1.1
theorem ltE (x y : E) : ltOf cfE x y = decide (x.1.1 < y.1.1) := by
  unfold ltOf cfE
  by_cases h : x.1.1 < y.1.1
  · rw [decide_eq_true h, decide_eq_true (by omega)]
  · rw [decide_eq_false h, decide_eq_false (by omega)]
theorem swoE : SWO (ltOf cfE) where
  irrefl x := by rw [ltE]; simp
  trans x y z h1 h2 := by rw [ltE] at *; simp at *; omega
  ntrans x y z h1 h2 := by rw [ltE] at *; simp at *; omega
set_option maxRecDepth 100000 in
theorem byId_walk (x y : E) (W : World) : Calls Try.prog 37 #[.agg #[.int .i64 x.1.1, .int .i64 x.1.2], .agg #[.int .i64 y.1.1, .int .i64 y.1.2]] W fun e w' => e = .returned (.int .i64 (cfE x y)) ∧ ∃ q os', w' = grow (W.drewN q) os' := by
  have hx := x.2
  have hy := y.2
  unfold cfE
  generalize x.1.1 = a at *
  generalize y.1.1 = b at *
  obtain ⟨ha0, ha1⟩ := hx
  obtain ⟨hb0, hb1⟩ := hy
  go_enter Try.func37, Try.ntmps37
  go_wp2
  go_ret
  exact ⟨rfl, 0, _, by rw [alloc_eq_grow, alloc_eq_grow, grow_grow]; rfl⟩
def toE (cs : Cs) (h : Keyed cs) : List E := cs.attachWith (fun p => 0 ≤ p.1 ∧ p.1 ≤ 1099511627776) (fun p hp => (h p hp).1)
theorem toE_val (cs : Cs) (h : Keyed cs) : (toE cs h).map (fun x => x.1) = cs := by
  unfold toE
  exact List.attachWith_map_subtype_val _
theorem toE_len (cs : Cs) (h : Keyed cs) : (toE cs h).length = cs.length := by
  have := congrArg List.length (toE_val cs h)
  rwa [List.length_map] at this
theorem flat_E (l : List E) : l.flatMap encE = (l.map (fun x => x.1)).flatMap enc2 := by
  rw [List.flatMap_map]
  rfl
theorem toE_flat (cs : Cs) (h : Keyed cs) : (toE cs h).flatMap encE = cs.flatMap enc2 := by rw [flat_E, toE_val]
/-- An ascending permutation of nodes with different ids is the one. -/
theorem ordered_is {cs : Cs} {xs ys : List E} (hk : (keys cs).Nodup) (hx : (xs.map (fun x => x.1)).Perm cs) (hp : ys.Perm xs) (hs : SortedIn (ltOf cfE) 0 ys.length ys.toArray) : ys.map (fun x => x.1) = sorted cs := by
  have hpc : (ys.map (fun x => x.1)).Perm cs := (hp.map _).trans hx
  refine List.Perm.eq_of_pairwise (le := fun a b => a.1 ≤ b.1) ?_ ?_ ?_ (hpc.trans (List.mergeSort_perm _ _).symm)
  · intro a b ha hb h1 h2
    have ha' : a ∈ cs := hpc.mem_iff.1 ha
    have hb' : b ∈ cs := (List.mergeSort_perm _ _).mem_iff.1 hb
    have e : a.1 = b.1 := Int.le_antisymm h1 h2
    obtain ⟨k, v⟩ := a
    obtain ⟨k', v'⟩ := b
    simp only at e
    subst e
    have h3 := (lookup_mem hk).2 ha'
    have h4 := (lookup_mem hk).2 hb'
    rw [h3] at h4
    injection h4 with h4
    rw [h4]
  · rw [List.pairwise_map, List.pairwise_iff_getElem]
    intro i j hi hj hij
    have := hs i j (Nat.zero_le _) hij hj
    rw [ltE] at this
    have e1 : ys.toArray[i]! = ys[i] := by simp [getElem!_pos, hi]
    have e2 : ys.toArray[j]! = ys[j] := by simp [getElem!_pos, hj]
    rw [e1, e2] at this
    simpa using this
  · refine (List.pairwise_mergeSort ?_ ?_ _).imp (fun h => by simpa using h)
    · intro a b c h1 h2; simp at *; omega
    · intro a b; simp; omega
theorem sorted_len (cs : Cs) : (sorted cs).length = cs.length := (List.mergeSort_perm _ _).length_eq
theorem drop_flat (xs : Cs) : ∀ (j : Nat) (p : Int × Int), xs[j]? = some p → ((xs.flatMap enc2).drop (j * 2)).take 2 = enc2 p := by
  induction xs with
  | nil => intro j p h; simp at h
  | cons x xs ih =>
    intro j p h
    cases j with
    | zero =>
      simp at h
      subst h
      rfl
    | succ j =>
      have := ih j p (by simpa using h)
      rw [List.flatMap_cons, show (j + 1) * 2 = 2 + j * 2 from by omega, ← List.drop_drop]
      exact this
theorem own_R {w : World} {B : Nat} {v : Value} {n : Nat} {cs : Cs} (h : w.ownsRow B 63 2 v n (cs.flatMap enc2)) (hn : n = cs.length) : Kd.R k63 63 w B (fun _ => True) v (cs.map unpair) := by
  subst hn
  refine ⟨fun _ _ => trivial, cs.flatMap enc2, ?_, ?_, ?_⟩
  · rw [List.length_map]
    exact h
  · rw [List.length_map, Ord.flatMap_len enc2 2 (fun _ => rfl)]
    rfl
  · intro j p hj
    rw [List.getElem?_map] at hj
    obtain ⟨q, hq, rfl⟩ := Option.map_eq_some_iff.1 hj
    have := drop_flat cs j q hq
    show k63.M w B _ (unpair q) (((cs.flatMap enc2).drop (j * 2)).take 2)
    rw [this]
    exact k63_mkM _ _ _ _
end Go.Proofs.Ytcgimjoebkeifaa.QComp

/- qdigest.Compress's last loop: the map's entries are collected, in whatever order. -/
namespace Go.Proofs.Ytcgimjoebkeifaa.QComp
open Go.RowKit Go.Proofs.YtcgimjoebkeifaaW.PrintWords Go.Proofs.QHeap Go.Proofs.QComp Go.Proofs.Ytcgimjoebkeifaa.QHeap Go.Proofs.Ytcgimjoebkeifaa.PQ Go.Sort
set_option maxHeartbeats 1000000
structure RSt (w wr : World) (B mb q : Nat) (X Z : Array Value) (D : DataW Unit) (cs acc : Cs) (left : Lit → Bool) (cnt : Nat) (v : Value) : Prop where
  bel : Below B w wr
  le : B ≤ wr.heap.size
  bx : wr.heap[B]? = some (.cells X 24 (0, 0))
  br : wr.heap[B + 1]? = some (.cells Z 24 (0, 0))
  qge : B ≤ q
  rg : wr.ranges Try.prog 3 (plainElem Try.prog 3) mb q cs.length D left cnt
  row : wr.ownsRow B 63 2 v acc.length (acc.flatMap enc2)
  nn : v ≠ .slice none 0 0
  acc1 : ∀ p ∈ acc, cs.lookup p.1 = some p.2
  acc2 : (keys acc).Nodup
  lf : ∀ x, left (L64 x) = ((cs.lookup x).isSome && !decide (x ∈ keys acc))
theorem iter_block {w : World} {mb q n : Nat} {D : DataW Unit} {left : Lit → Bool} {cnt : Nat} (h : w.ranges Try.prog 3 (plainElem Try.prog 3) mb q n D left cnt) : (∃ s t u, w.heap[q]? = some (.mapIter (some mb) s t u)) ∧ ∃ es clock, w.heap[mb]? = some (.map es clock) := by
  obtain ⟨es, clock, since, seen, c0, hb, _, _, _, hr, _⟩ := h
  exact ⟨⟨_, _, _, hr⟩, _, _, hb⟩
theorem same_self (x : Int) : (L64 x).sameKey (L64 x) = true := by
  simp [Lit.sameKey]
theorem length_mem {acc : Cs} {x : Int} {c : Int} : x ∈ keys (acc ++ [(x, c)]) := by simp [keys]
section
variable {w wr w1 w3 : World} {B mb q : Nat} {X Z : Array Value} {D : DataW Unit} {cs acc : Cs} {left : Lit → Bool} {cnt cnt1 : Nat} {v v' : Value} {x c : Int}
theorem RSt.own_q (h : RSt w wr B mb q X Z D cs acc left cnt v) : v.ownBlock = none ∨ (v.ownBlock ≠ some q ∧ v.ownBlock ≠ some mb ∧ v.ownBlock ≠ some B ∧ v.ownBlock ≠ some (B + 1)) := by
  obtain ⟨⟨s, t, u, hq⟩, es, clock, hm⟩ := iter_block h.rg
  rcases h.row.2 with ⟨h1, _⟩ | ⟨g, cap, cur, rfl, _, hg, _⟩
  · exact absurd h1 h.nn
  · refine .inr ⟨?_, ?_, ?_, ?_⟩ <;> intro e <;> have e' := Option.some.inj e
    · change g = q at e'; subst e'; rw [hg] at hq; cases hq
    · change g = mb at e'; subst e'; rw [hg] at hm; cases hm
    · change g = B at e'; subst e'; have := h.bx; rw [hg] at this; simp at this
    · change g = B + 1 at e'; subst e'; have := h.br; rw [hg] at this; simp at this
theorem RSt.q_ne (h : RSt w wr B mb q X Z D cs acc left cnt v) : q ≠ B ∧ q ≠ B + 1 ∧ mb ≠ B ∧ mb ≠ B + 1 := by
  obtain ⟨⟨s, t, u, hq⟩, es, clock, hm⟩ := iter_block h.rg
  refine ⟨?_, ?_, ?_, ?_⟩
  · rintro rfl; rw [h.bx] at hq; cases hq
  · rintro rfl; rw [h.br] at hq; cases hq
  · rintro rfl; rw [h.bx] at hm; cases hm
  · rintro rfl; rw [h.br] at hm; cases hm
/-- The row, behind the iterator's step. -/
theorem RSt.row1 (h : RSt w wr B mb q X Z D cs acc left cnt v) (hg : wr.grownBy w1 (some q)) : w1.ownsRow B 63 2 v acc.length (acc.flatMap enc2) :=
  h.row.kept hg (by rcases h.own_q with h1 | h1; exact .inl h1; exact .inr h1.1)
/-- One round: an entry has come, and is appended. -/
theorem RSt.step (h : RSt w wr B mb q X Z D cs acc left cnt v) (hrel : Rel D cs) (hlx : left (L64 x) = true) (hat : ∀ zd, D.atKey (L64 x) zd = .lit (L64 c))
    (hrg : w1.ranges Try.prog 3 (plainElem Try.prog 3) mb q cs.length D (fun z => left z && !z.sameKey (L64 x)) cnt1) (hg : wr.grownBy w1 (some q)) {o : Obj}
    (hown : w3.ownsRow B 63 2 v' (acc.length + 1) (acc.flatMap enc2 ++ [.int .i64 x, .int .i64 c])) (hgrow : (w1.alloc o).grownBy w3 v.ownBlock) (hn : v' = .slice none 0 0 ↔ v = .slice none 0 0 ∧ 1 = 0) :
    RSt w w3 B mb q X Z D cs (acc ++ [(x, c)]) (fun z => left z && !z.sameKey (L64 x)) cnt1 v' := by
  have hq := h.q_ne
  have ho := h.own_q
  have hlt : B + 1 < wr.heap.size := (Array.getElem?_eq_some_iff.1 h.br).1
  have hs1 := hg.size
  have hs3 := hgrow.size
  have hsa : (w1.alloc o).heap.size = w1.heap.size + 1 := by simp
  have e1 : ∀ k, k < wr.heap.size → k ≠ q → v.ownBlock ≠ some k → w3.heap[k]? = wr.heap[k]? := fun k hk hn hv =>
    (hgrow.block k (by omega) (fun e => hv e.symm)).trans ((Below.heap_alloc w1 o k (by omega)).trans (hg.block k hk (fun e => hn (Option.some.inj e))))
  have hnv : ∀ k, (v.ownBlock = none ∨ v.ownBlock ≠ some k) → v.ownBlock ≠ some k := fun k hk => by
    rcases hk with hk | hk
    · rw [hk]; simp
    · exact hk
  have hlook : cs.lookup x = some c := by
    have h1 := h.lf x
    rw [hlx] at h1
    cases hh : cs.lookup x with
    | none => rw [hh] at h1; simp at h1
    | some z =>
      have h2 := hrel.at_ x (.lit (L64 0))
      rw [hat, hh] at h2
      rw [(Lit.int.inj (DataW.lit.inj h2)).2]
  have hnx : ¬ x ∈ keys acc := by
    intro hm
    have h1 := h.lf x
    rw [hlx, decide_eq_true hm] at h1
    simp at h1
  refine ⟨?_, by have := h.le; omega, (e1 B (by omega) (Ne.symm hq.1) (hnv B (ho.imp id (fun z => z.2.2.1)))).trans h.bx, (e1 (B + 1) hlt (Ne.symm hq.2.1) (hnv (B + 1) (ho.imp id (fun z => z.2.2.2)))).trans h.br, h.qge, ?_, ?_, ?_, ?_, ?_, ?_⟩
  · refine ((h.bel.grown hg h.le (fun k hk => by injection hk with hk; have := h.qge; omega)).alloc (by have := h.le; omega) o).grown hgrow (by have := h.le; omega) (fun k hk => ?_)
    exact (h.row.lt k hk).1
  · exact (hrg.alloc o).kept hgrow (fun e => by rcases ho with h1 | h1; rw [h1] at e; cases e; exact h1.2.1 e.symm) (fun e => by rcases ho with h1 | h1; rw [h1] at e; cases e; exact h1.1 e.symm)
  · rw [List.length_append, List.flatMap_append]
    exact hown
  · intro e
    have := (hn.1 e).2
    omega
  · intro p hp
    rcases List.mem_append.1 hp with hp | hp
    · exact h.acc1 p hp
    · rw [List.mem_singleton] at hp
      subst hp
      exact hlook
  · have e2 : keys (acc ++ [(x, c)]) = keys acc ++ [x] := by simp [keys]
    rw [e2, List.nodup_append]
    refine ⟨h.acc2, by simp, fun a ha b hb => ?_⟩
    rw [List.mem_singleton] at hb
    subst hb
    rintro rfl
    exact hnx ha
  · intro z
    have e2 : keys (acc ++ [(x, c)]) = keys acc ++ [x] := by simp [keys]
    rw [h.lf z, e2]
    by_cases e : z = x
    · subst e
      rw [same_self]
      simp
    · rw [Maps.sameKey_ne (L64_ne e)]
      simp [e]
theorem RSt.shape (h : RSt w wr B mb q X Z D cs acc left cnt v) : ∃ g cap, v = .slice (some ⟨g, 0, none⟩) acc.length cap ∧ ∀ j u, (acc.flatMap enc2)[j]? = some u → wr.cell? ⟨g, 0 + j, none⟩ = some u := by
  rcases h.row.2 with ⟨h1, _⟩ | ⟨g, cap, cur, rfl, _, hg, h2, h3, h4, h5⟩
  · exact absurd h1 h.nn
  · refine ⟨g, cap, rfl, fun j u hu => ?_⟩
    rw [← h5, List.getElem?_take] at hu
    by_cases hj : j < acc.length * 2
    · rw [if_pos hj] at hu
      simp [World.cell?, hg]
      simpa using hu
    · rw [if_neg hj] at hu
      cases hu
theorem RSt.xcell (h : RSt w wr B mb q X Z D cs acc left cnt v) (j : Nat) : wr.cell? ⟨B, j, none⟩ = X[j]? := by simp [World.cell?, h.bx]
theorem keyed_of {cs acc : Cs} (h : Keyed cs) (hp : acc.Perm cs) : Keyed acc := fun p hm => h p (hp.mem_iff.1 hm)
/-- At the end all of the map has been collected. -/
theorem RSt.done (h : RSt w wr B mb q X Z D cs acc left cnt v) (hn : (keys cs).Nodup) (hl : ∀ kl, left kl = false) : acc.Perm cs := by
  refine collected hn h.acc2 h.acc1 (fun k hk => ?_)
  have h1 := h.lf k
  rw [hl, hk] at h1
  simpa using h1
end
end Go.Proofs.Ytcgimjoebkeifaa.QComp
