/- Parts of one proof, one behind the other (put together by wip/merge.py out of: PQxf13, QuanP, HeapA, Ord). No conditions beyond each theorem's own. -/
import Derived.Test.YtcgimjoebkeifaaWMore
import Derived.Test.YtcgimjoebkeifaaProg
import Derived.WalkKit
import Derived.KernelRfl
import Derived.Outline
import Derived.Deep.QuietTactic
import Derived.BigQuiet
import Derived.RegionTactic
import Derived.ChangeAlike
import Derived.WalkSmall
import Derived.Lib.Hide
import Derived.Test.YtcgimjoebkeifaaShelf
import Derived.Shelf.SlSortCmp.WholeK
import Derived.Shelf.SlicesE.Clone
import Derived.Lib.OwnBridge
import Derived.Test.YtcgimjoebkeifaaQC1
import Derived.Test.YtcgimjoebkeifaaQC2
/- Written by a program of this session (wip/patch_print.py): Go functions as Lean functions, each with a proof that the call does what its function says. No conditions beyond each theorem's own. -/
namespace Go.Proofs.Ytcgimjoebkeifaa.PQ
open Go.RowKit Go.Proofs.YtcgimjoebkeifaaW.PrintWords Go.Proofs.YtcgimjoebkeifaaW.PrintLast Go.Proofs.YtcgimjoebkeifaaW.PrintMore
attribute [local go_sem] max2_int min2_int max_two min_two max_three min_three max_four min_four   -- for this text's walks alone
set_option linter.unusedVariables false
set_option linter.unusedSimpArgs false

/-! ### qdigest_Check: function 13 -/
mutual
def qdigest_Check.j0 : Nat → Bool → Int → Int → Int → List (S63) → Option (Int)
  | 0, _, _, _, _, _ => none
  | k + 1, x25, x107000, x107001, x107002, x107003 => if x25 = true then (some 1) else (if x107002 < 0 then (qdigest_Check.j1 k true x107000 x107001 x107002 x107003) else (if x107002 > 1099511627776 then (qdigest_Check.j1 k true x107000 x107001 x107002 x107003) else (qdigest_Check.j1 k (decide ((x107003.length : Int) > 2000)) x107000 x107001 x107002 x107003)))
def qdigest_Check.j1 : Nat → Bool → Int → Int → Int → List (S63) → Option (Int)
  | 0, _, _, _, _, _ => none
  | k + 1, x39, x107000, x107001, x107002, x107003 => if x39 = true then (some 1) else (if x107001 = 0 then (none) else (qdigest_Check.l0 k (wrap64 (Int.tdiv x107002 x107001)) 0 0 x107003 (x107003.length : Int) 0 x107000 x107001 x107002 x107003))
def qdigest_Check.l0 : Nat → Int → Int → Int → List (S63) → Int → Int → Int → Int → Int → List (S63) → Option (Int)
  | 0, _, _, _, _, _, _, _, _, _, _ => none
  | k + 1, x3, x4, x5, x46, x47, x48, x107000, x107001, x107002, x107003 => if x48 < x47 then (if 0 ≤ x48 then (if x48 < (x46.length : Int) then (if ((rd_T63 x46 x48).f0) ≤ x5 then (qdigest_Check.j3 k x3 x4 x46 x47 x48 true x107000 x107001 x107002 x107003 ((rd_T63 x46 x48).f0) ((rd_T63 x46 x48).f1)) else (if 0 ≤ x107000 then (if ((rd_T63 x46 x48).f0) ≥ (shl .i64 2 x107000) then (qdigest_Check.j3 k x3 x4 x46 x47 x48 true x107000 x107001 x107002 x107003 ((rd_T63 x46 x48).f0) ((rd_T63 x46 x48).f1)) else (if ((rd_T63 x46 x48).f1) < 1 then (qdigest_Check.j3 k x3 x4 x46 x47 x48 true x107000 x107001 x107002 x107003 ((rd_T63 x46 x48).f0) ((rd_T63 x46 x48).f1)) else (qdigest_Check.j3 k x3 x4 x46 x47 x48 (decide (((rd_T63 x46 x48).f1) > x107002)) x107000 x107001 x107002 x107003 ((rd_T63 x46 x48).f0) ((rd_T63 x46 x48).f1)))) else (none))) else (none)) else (none)) else (if x4 = x107002 then (some 0) else (some 1))
def qdigest_Check.j3 : Nat → Int → Int → List (S63) → Int → Int → Bool → Int → Int → Int → List (S63) → Int → Int → Option (Int)
  | 0, _, _, _, _, _, _, _, _, _, _, _, _ => none
  | k + 1, x3, x4, x46, x47, x48, x75, x107000, x107001, x107002, x107003, x109000, x109001 => if x75 = true then (some 1) else (if 0 ≤ x107000 then (if x109000 < (shl .i64 1 x107000) then (if x109001 > x3 then (some 1) else (qdigest_Check.l0 k x3 (wrap64 (x4 + x109001)) x109000 x46 x47 (wrap64 (x48 + 1)) x107000 x107001 x107002 x107003)) else (qdigest_Check.l0 k x3 (wrap64 (x4 + x109001)) x109000 x46 x47 (wrap64 (x48 + 1)) x107000 x107001 x107002 x107003)) else (none))
end
def qdigest_Check.f (k : Nat) (a0_0 : Int) (a0_1 : Int) (a0_2 : Int) (l0_3 : List (S63)) : Option (Int) := if a0_0 < 1 then (qdigest_Check.j0 k true a0_0 a0_1 a0_2 l0_3) else (if a0_0 > 20 then (qdigest_Check.j0 k true a0_0 a0_1 a0_2 l0_3) else (if a0_1 < 1 then (qdigest_Check.j0 k true a0_0 a0_1 a0_2 l0_3) else (qdigest_Check.j0 k (decide (a0_1 > 10000)) a0_0 a0_1 a0_2 l0_3)))
theorem qdigest_Check.mono_l : ∀ k, (∀ y0 y1 y2 y3 y4, LeO (qdigest_Check.j0 k y0 y1 y2 y3 y4) (qdigest_Check.j0 (k + 1) y0 y1 y2 y3 y4)) ∧ (∀ y0 y1 y2 y3 y4, LeO (qdigest_Check.j1 k y0 y1 y2 y3 y4) (qdigest_Check.j1 (k + 1) y0 y1 y2 y3 y4)) ∧ (∀ y0 y1 y2 y3 y4 y5 y6 y7 y8 y9, LeO (qdigest_Check.l0 k y0 y1 y2 y3 y4 y5 y6 y7 y8 y9) (qdigest_Check.l0 (k + 1) y0 y1 y2 y3 y4 y5 y6 y7 y8 y9)) ∧ (∀ y0 y1 y2 y3 y4 y5 y6 y7 y8 y9 y10 y11, LeO (qdigest_Check.j3 k y0 y1 y2 y3 y4 y5 y6 y7 y8 y9 y10 y11) (qdigest_Check.j3 (k + 1) y0 y1 y2 y3 y4 y5 y6 y7 y8 y9 y10 y11))
  | 0 => ⟨fun _ _ _ _ _ r h => by simp [qdigest_Check.j0] at h, fun _ _ _ _ _ r h => by simp [qdigest_Check.j1] at h, fun _ _ _ _ _ _ _ _ _ _ r h => by simp [qdigest_Check.l0] at h, fun _ _ _ _ _ _ _ _ _ _ _ _ r h => by simp [qdigest_Check.j3] at h⟩
  | k + 1 => by
    obtain ⟨ih0, ih1, ih2, ih3⟩ := qdigest_Check.mono_l k
    refine ⟨?_, ?_, ?_, ?_⟩
    · intro y0 y1 y2 y3 y4
      unfold qdigest_Check.j0
      repeat' first
      | (with_reducible exact ih0 _ _ _ _ _)
      | (with_reducible exact ih1 _ _ _ _ _)
      | (with_reducible exact ih2 _ _ _ _ _ _ _ _ _ _)
      | (with_reducible exact ih3 _ _ _ _ _ _ _ _ _ _ _ _)
      | (with_reducible exact LeO.refl _)
      | (with_reducible exact LeO.none _)
      | (with_reducible refine LeO.ite ?_ ?_)
      | (with_reducible refine LeO.bind ?_ (fun _ => ?_))
      | exact ih0 _ _ _ _ _
      | exact ih1 _ _ _ _ _
      | exact ih2 _ _ _ _ _ _ _ _ _ _
      | exact ih3 _ _ _ _ _ _ _ _ _ _ _ _
      | exact LeO.none _
      | refine LeO.ite ?_ ?_
      | refine LeO.bind ?_ (fun _ => ?_)
    · intro y0 y1 y2 y3 y4
      unfold qdigest_Check.j1
      repeat' first
      | (with_reducible exact ih0 _ _ _ _ _)
      | (with_reducible exact ih1 _ _ _ _ _)
      | (with_reducible exact ih2 _ _ _ _ _ _ _ _ _ _)
      | (with_reducible exact ih3 _ _ _ _ _ _ _ _ _ _ _ _)
      | (with_reducible exact LeO.refl _)
      | (with_reducible exact LeO.none _)
      | (with_reducible refine LeO.ite ?_ ?_)
      | (with_reducible refine LeO.bind ?_ (fun _ => ?_))
      | exact ih0 _ _ _ _ _
      | exact ih1 _ _ _ _ _
      | exact ih2 _ _ _ _ _ _ _ _ _ _
      | exact ih3 _ _ _ _ _ _ _ _ _ _ _ _
      | exact LeO.none _
      | refine LeO.ite ?_ ?_
      | refine LeO.bind ?_ (fun _ => ?_)
    · intro y0 y1 y2 y3 y4 y5 y6 y7 y8 y9
      unfold qdigest_Check.l0
      repeat' first
      | (with_reducible exact ih0 _ _ _ _ _)
      | (with_reducible exact ih1 _ _ _ _ _)
      | (with_reducible exact ih2 _ _ _ _ _ _ _ _ _ _)
      | (with_reducible exact ih3 _ _ _ _ _ _ _ _ _ _ _ _)
      | (with_reducible exact LeO.refl _)
      | (with_reducible exact LeO.none _)
      | (with_reducible refine LeO.ite ?_ ?_)
      | (with_reducible refine LeO.bind ?_ (fun _ => ?_))
      | exact ih0 _ _ _ _ _
      | exact ih1 _ _ _ _ _
      | exact ih2 _ _ _ _ _ _ _ _ _ _
      | exact ih3 _ _ _ _ _ _ _ _ _ _ _ _
      | exact LeO.none _
      | refine LeO.ite ?_ ?_
      | refine LeO.bind ?_ (fun _ => ?_)
    · intro y0 y1 y2 y3 y4 y5 y6 y7 y8 y9 y10 y11
      unfold qdigest_Check.j3
      repeat' first
      | (with_reducible exact ih0 _ _ _ _ _)
      | (with_reducible exact ih1 _ _ _ _ _)
      | (with_reducible exact ih2 _ _ _ _ _ _ _ _ _ _)
      | (with_reducible exact ih3 _ _ _ _ _ _ _ _ _ _ _ _)
      | (with_reducible exact LeO.refl _)
      | (with_reducible exact LeO.none _)
      | (with_reducible refine LeO.ite ?_ ?_)
      | (with_reducible refine LeO.bind ?_ (fun _ => ?_))
      | exact ih0 _ _ _ _ _
      | exact ih1 _ _ _ _ _
      | exact ih2 _ _ _ _ _ _ _ _ _ _
      | exact ih3 _ _ _ _ _ _ _ _ _ _ _ _
      | exact LeO.none _
      | refine LeO.ite ?_ ?_
      | refine LeO.bind ?_ (fun _ => ?_)
theorem qdigest_Check.mono : ∀ a0 a1 a2 a3 k, LeO (qdigest_Check.f k a0 a1 a2 a3) (qdigest_Check.f (k + 1) a0 a1 a2 a3) := by
  intro a0 a1 a2 a3 k
  obtain ⟨ih0, ih1, ih2, ih3⟩ := qdigest_Check.mono_l k
  unfold qdigest_Check.f
  repeat' first
      | (with_reducible exact ih0 _ _ _ _ _)
      | (with_reducible exact ih1 _ _ _ _ _)
      | (with_reducible exact ih2 _ _ _ _ _ _ _ _ _ _)
      | (with_reducible exact ih3 _ _ _ _ _ _ _ _ _ _ _ _)
      | (with_reducible exact LeO.refl _)
      | (with_reducible exact LeO.none _)
      | (with_reducible refine LeO.ite ?_ ?_)
      | (with_reducible refine LeO.bind ?_ (fun _ => ?_))
      | exact ih0 _ _ _ _ _
      | exact ih1 _ _ _ _ _
      | exact ih2 _ _ _ _ _ _ _ _ _ _
      | exact ih3 _ _ _ _ _ _ _ _ _ _ _ _
      | exact LeO.none _
      | refine LeO.ite ?_ ?_
      | refine LeO.bind ?_ (fun _ => ?_)
set_option maxHeartbeats 8000000 in
set_option maxRecDepth 100000 in
theorem qdigest_Check.calls (k : Nat) (a0_0 : Int) (a0_1 : Int) (a0_2 : Int) (A0_3 : Option Addr) (c0_3 : Nat) (l0_3 : List (S63)) (r : Int) (w : World) (hr0_3 : Kd.C k63 w A0_3 l0_3.length l0_3) (hc0_3 : l0_3.length ≤ c0_3) (h : qdigest_Check.f k a0_0 a0_1 a0_2 l0_3 = some r) :
    Calls Try.prog 13 #[.agg #[.int .i64 a0_0, .int .i64 a0_1, .int .i64 a0_2, .slice A0_3 l0_3.length c0_3]] w fun e w' => e = .returned (.int .i64 r) ∧ Below w.heap.size w w' := by
  have hu24 := Try.underlying24
  have hu63 := Try.underlying63
  have HR0_3 := Aside0.mk hr0_3
  have HC0_3 := Aside0.mk hc0_3
  clear hr0_3 hc0_3
  have HB := Aside0.mk (Below.refl w.heap.size w)
  have H : (if a0_0 < 1 then (qdigest_Check.j0 k true a0_0 a0_1 a0_2 l0_3) else (if a0_0 > 20 then (qdigest_Check.j0 k true a0_0 a0_1 a0_2 l0_3) else (if a0_1 < 1 then (qdigest_Check.j0 k true a0_0 a0_1 a0_2 l0_3) else (qdigest_Check.j0 k (decide (a0_1 > 10000)) a0_0 a0_1 a0_2 l0_3)))) = some r := h
  clear h
  have HC2 := Aside0.mk H
  clear H
  go_enter Try.func13, Try.ntmps13
  go_upto_region 1 with (first | ((with_reducible refine gate_dst (N := 1) rfl ?_); (try (refine gate_guard (by rfl) ?_; dsimp only)); refine box_event ?hg (N := 1) ?hd (cs := #[.int .i64 a0_0, .int .i64 a0_1, .int .i64 a0_2, .slice A0_3 l0_3.length c0_3]) (t := 24) ?hr ?_; (case hd => rfl); (case hg => rfl); (case hr => first | (go_simp; done) | (go_simp; rfl)); intro gb106 hg w3 hbox hb; have n0_ := Aside0.mk (below_step (by repeat (first | (with_reducible first | exact HB.out | apply below_alloc | apply pw_below_drewN | apply below_drew1) | exact HB.out)) hb); have n1_ := Aside0.mk (hbox); have n2_ := Aside0.mk ((by rw [hg]; exact (below_size (by repeat (first | (with_reducible first | exact HB.out | apply below_alloc | apply pw_below_drewN | apply below_drew1) | exact HB.out))) : w.heap.size ≤ gb106)); have n3_ := Aside0.mk ((by rw [hg]; exact (below_size (by repeat (first | (with_reducible first | exact HB.out | apply below_alloc | apply pw_below_drewN | apply below_drew1) | exact HB.out))) : w.heap.size ≤ gb106)); clear HB; have HB := n0_; have BK106 := n1_; have GW106 := n2_; have GE106 := n3_; clear n0_ n1_ n2_ n3_; clear hb hbox hg))
  repeat (go_quiet (first | ((with_reducible refine gate_dst (N := 1) rfl ?_); (try (refine gate_guard (by rfl) ?_; dsimp only)); refine box_event ?hg (N := 1) ?hd (cs := #[.int .i64 a0_0, .int .i64 a0_1, .int .i64 a0_2, .slice A0_3 l0_3.length c0_3]) (t := 24) ?hr ?_; (case hd => rfl); (case hg => rfl); (case hr => first | (go_simp; done) | (go_simp; rfl)); intro gb106 hg w3 hbox hb; have n0_ := Aside0.mk (below_step (by repeat (first | (with_reducible first | exact HB.out | apply below_alloc | apply pw_below_drewN | apply below_drew1) | exact HB.out)) hb); have n1_ := Aside0.mk (hbox); have n2_ := Aside0.mk ((by rw [hg]; exact (below_size (by repeat (first | (with_reducible first | exact HB.out | apply below_alloc | apply pw_below_drewN | apply below_drew1) | exact HB.out))) : w.heap.size ≤ gb106)); have n3_ := Aside0.mk ((by rw [hg]; exact (below_size (by repeat (first | (with_reducible first | exact HB.out | apply below_alloc | apply pw_below_drewN | apply below_drew1) | exact HB.out))) : w.heap.size ≤ gb106)); clear HB; have HB := n0_; have BK106 := n1_; have GW106 := n2_; have GE106 := n3_; clear n0_ n1_ n2_ n3_; clear hb hbox hg)); go_upto_region 1 with (first | ((with_reducible refine gate_dst (N := 1) rfl ?_); (try (refine gate_guard (by rfl) ?_; dsimp only)); refine box_event ?hg (N := 1) ?hd (cs := #[.int .i64 a0_0, .int .i64 a0_1, .int .i64 a0_2, .slice A0_3 l0_3.length c0_3]) (t := 24) ?hr ?_; (case hd => rfl); (case hg => rfl); (case hr => first | (go_simp; done) | (go_simp; rfl)); intro gb106 hg w3 hbox hb; have n0_ := Aside0.mk (below_step (by repeat (first | (with_reducible first | exact HB.out | apply below_alloc | apply pw_below_drewN | apply below_drew1) | exact HB.out)) hb); have n1_ := Aside0.mk (hbox); have n2_ := Aside0.mk ((by rw [hg]; exact (below_size (by repeat (first | (with_reducible first | exact HB.out | apply below_alloc | apply pw_below_drewN | apply below_drew1) | exact HB.out))) : w.heap.size ≤ gb106)); have n3_ := Aside0.mk ((by rw [hg]; exact (below_size (by repeat (first | (with_reducible first | exact HB.out | apply below_alloc | apply pw_below_drewN | apply below_drew1) | exact HB.out))) : w.heap.size ≤ gb106)); clear HB; have HB := n0_; have BK106 := n1_; have GW106 := n2_; have GE106 := n3_; clear n0_ n1_ n2_ n3_; clear hb hbox hg)))
  (try simp only [Act.put, List.setIfInBounds_toArray, List.set_cons_zero, List.set_cons_succ])
  go_cut [25] (fun v25 wc => ∃ (kq : Nat) (x25_1 : Bool), v25 = .bool x25_1 ∧ Aside0 (qdigest_Check.j0 kq x25_1 a0_0 a0_1 a0_2 l0_3 = some r) ∧ Aside0 (kq ≤ k) ∧ Aside0 (wc.heap[gb106]? = some (.cells #[.int .i64 a0_0, .int .i64 a0_1, .int .i64 a0_2, (.slice A0_3 l0_3.length c0_3)] 24 (0, 0))) ∧ Aside0 (Below w.heap.size w wc))
  case first =>
    have H := HC2.out
    clear HC2
    by_cases c4 : a0_0 < 1
    · rw [if_pos c4] at H
      have c4b0 : decide (a0_0 < 1) = true := decide_eq_true c4
      clear c4
      (first | rw [c4b0] | (simp only [i64_w, i32_w]; rw [c4b0]) | skip)
      have H' := Aside0.mk H
      clear H
      have hcz5_0 : w3.cell? ⟨gb106, 0, none⟩ = some (.int .i64 a0_0) := (blk_cell BK106.out 0).trans rfl
      have hcz5_1 : w3.cell? ⟨gb106, 1, none⟩ = some (.int .i64 a0_1) := (blk_cell BK106.out 1).trans rfl
      have hcz5_2 : w3.cell? ⟨gb106, 2, none⟩ = some (.int .i64 a0_2) := (blk_cell BK106.out 2).trans rfl
      have hcz5_3 : w3.cell? ⟨gb106, 3, none⟩ = some (.slice A0_3 l0_3.length c0_3) := (blk_cell BK106.out 3).trans rfl
      have hfz5_0 := blk_frozen BK106.out 0
      have hfz5_1 := blk_frozen BK106.out 1
      have hfz5_2 := blk_frozen BK106.out 2
      have hfz5_3 := blk_frozen BK106.out 3
      go_wp2
      repeat (go_quiet (fail); try go_wp2)
      go_meet
      case rel => exact ⟨_, (true), (by first | rfl | (simp; done) | (simp [*]; done)), H', ⟨by first | omega | exact Nat.le_refl _⟩, ⟨by (with_reducible repeat (first | refine blk_drewN ?_ _ | refine blk_drew ?_ | refine blk_alloc ?_ _)); exact BK106.out⟩, ⟨by repeat (first | (with_reducible first | exact HB.out | apply below_alloc | apply pw_below_drewN | apply below_drew1 | refine below_set ?_ GE106.out) | exact HB.out)⟩⟩
    · rw [if_neg c4] at H
      have c4b0 : decide (a0_0 < 1) = false := decide_eq_false c4
      clear c4
      (first | rw [c4b0] | (simp only [i64_w, i32_w]; rw [c4b0]) | skip)
      by_cases c6 : a0_0 > 20
      · rw [if_pos c6] at H
        have c6b0 : decide (20 < a0_0) = true := decide_eq_true c6
        clear c6
        have H' := Aside0.mk H
        clear H
        have hcz7_0 : w3.cell? ⟨gb106, 0, none⟩ = some (.int .i64 a0_0) := (blk_cell BK106.out 0).trans rfl
        have hcz7_1 : w3.cell? ⟨gb106, 1, none⟩ = some (.int .i64 a0_1) := (blk_cell BK106.out 1).trans rfl
        have hcz7_2 : w3.cell? ⟨gb106, 2, none⟩ = some (.int .i64 a0_2) := (blk_cell BK106.out 2).trans rfl
        have hcz7_3 : w3.cell? ⟨gb106, 3, none⟩ = some (.slice A0_3 l0_3.length c0_3) := (blk_cell BK106.out 3).trans rfl
        have hfz7_0 := blk_frozen BK106.out 0
        have hfz7_1 := blk_frozen BK106.out 1
        have hfz7_2 := blk_frozen BK106.out 2
        have hfz7_3 := blk_frozen BK106.out 3
        go_wp2
        repeat (go_quiet (fail); try go_wp2)
        go_meet
        case rel => exact ⟨_, (true), (by first | rfl | (simp; done) | (simp [*]; done)), H', ⟨by first | omega | exact Nat.le_refl _⟩, ⟨by (with_reducible repeat (first | refine blk_drewN ?_ _ | refine blk_drew ?_ | refine blk_alloc ?_ _)); exact BK106.out⟩, ⟨by repeat (first | (with_reducible first | exact HB.out | apply below_alloc | apply pw_below_drewN | apply below_drew1 | refine below_set ?_ GE106.out) | exact HB.out)⟩⟩
      · rw [if_neg c6] at H
        have c6b0 : decide (20 < a0_0) = false := decide_eq_false c6
        clear c6
        by_cases c8 : a0_1 < 1
        · rw [if_pos c8] at H
          have c8b0 : decide (a0_1 < 1) = true := decide_eq_true c8
          clear c8
          have H' := Aside0.mk H
          clear H
          have hcz9_0 : w3.cell? ⟨gb106, 0, none⟩ = some (.int .i64 a0_0) := (blk_cell BK106.out 0).trans rfl
          have hcz9_1 : w3.cell? ⟨gb106, 1, none⟩ = some (.int .i64 a0_1) := (blk_cell BK106.out 1).trans rfl
          have hcz9_2 : w3.cell? ⟨gb106, 2, none⟩ = some (.int .i64 a0_2) := (blk_cell BK106.out 2).trans rfl
          have hcz9_3 : w3.cell? ⟨gb106, 3, none⟩ = some (.slice A0_3 l0_3.length c0_3) := (blk_cell BK106.out 3).trans rfl
          have hfz9_0 := blk_frozen BK106.out 0
          have hfz9_1 := blk_frozen BK106.out 1
          have hfz9_2 := blk_frozen BK106.out 2
          have hfz9_3 := blk_frozen BK106.out 3
          go_wp2
          repeat (go_quiet (fail); try go_wp2)
          go_meet
          case rel => exact ⟨_, (true), (by first | rfl | (simp; done) | (simp [*]; done)), H', ⟨by first | omega | exact Nat.le_refl _⟩, ⟨by (with_reducible repeat (first | refine blk_drewN ?_ _ | refine blk_drew ?_ | refine blk_alloc ?_ _)); exact BK106.out⟩, ⟨by repeat (first | (with_reducible first | exact HB.out | apply below_alloc | apply pw_below_drewN | apply below_drew1 | refine below_set ?_ GE106.out) | exact HB.out)⟩⟩
        · rw [if_neg c8] at H
          have c8b0 : decide (a0_1 < 1) = false := decide_eq_false c8
          clear c8
          have H' := Aside0.mk H
          clear H
          have hcz10_0 : w3.cell? ⟨gb106, 0, none⟩ = some (.int .i64 a0_0) := (blk_cell BK106.out 0).trans rfl
          have hcz10_1 : w3.cell? ⟨gb106, 1, none⟩ = some (.int .i64 a0_1) := (blk_cell BK106.out 1).trans rfl
          have hcz10_2 : w3.cell? ⟨gb106, 2, none⟩ = some (.int .i64 a0_2) := (blk_cell BK106.out 2).trans rfl
          have hcz10_3 : w3.cell? ⟨gb106, 3, none⟩ = some (.slice A0_3 l0_3.length c0_3) := (blk_cell BK106.out 3).trans rfl
          have hfz10_0 := blk_frozen BK106.out 0
          have hfz10_1 := blk_frozen BK106.out 1
          have hfz10_2 := blk_frozen BK106.out 2
          have hfz10_3 := blk_frozen BK106.out 3
          go_wp2
          repeat (go_quiet (fail); try go_wp2)
          go_meet
          case rel => exact ⟨_, (decide (a0_1 > 10000)), (by first | rfl | (simp; done) | (simp [*]; done)), H', ⟨by first | omega | exact Nat.le_refl _⟩, ⟨by (with_reducible repeat (first | refine blk_drewN ?_ _ | refine blk_drew ?_ | refine blk_alloc ?_ _)); exact BK106.out⟩, ⟨by repeat (first | (with_reducible first | exact HB.out | apply below_alloc | apply pw_below_drewN | apply below_drew1 | refine below_set ?_ GE106.out) | exact HB.out)⟩⟩
  case rest =>
    clear HC2
    try clear c1
    try clear p2
    try clear c4
    try clear c4b0
    try clear c6
    try clear c6b0
    try clear c8
    try clear c8b0
    try clear hcz10_0
    try clear hcz10_1
    try clear hcz10_2
    try clear hcz10_3
    try clear hcz5_0
    try clear hcz5_1
    try clear hcz5_2
    try clear hcz5_3
    try clear hcz7_0
    try clear hcz7_1
    try clear hcz7_2
    try clear hcz7_3
    try clear hcz9_0
    try clear hcz9_1
    try clear hcz9_2
    try clear hcz9_3
    try clear hfz10_0
    try clear hfz10_1
    try clear hfz10_2
    try clear hfz10_3
    try clear hfz5_0
    try clear hfz5_1
    try clear hfz5_2
    try clear hfz5_3
    try clear hfz7_0
    try clear hfz7_1
    try clear hfz7_2
    try clear hfz7_3
    try clear hfz9_0
    try clear hfz9_1
    try clear hfz9_2
    try clear hfz9_3
    obtain ⟨kq, x25_1, rfl, HA, HJ1, BK106, HB⟩ := hcut
    cases kq with
    | zero => exact absurd HA.out (by simp [qdigest_Check.j0])
    | succ kj1 =>
      have H := HA.out
      clear HA
      simp only [qdigest_Check.j0] at H
      by_cases c11 : x25_1 = true
      · subst c11
        have H1 : (some 1) = some r := by rw [if_pos rfl] at H; exact H
        clear H
        have H := H1
        clear H1
        obtain rfl := Option.some.inj H
        go_wp2
        repeat (go_quiet (fail); try go_wp2)
        go_ret
        exact ⟨by first | rfl | (simp [errW_none, errW_some] <;> rfl) | (simp [*, errW_none, errW_some] <;> rfl), by repeat (first | (with_reducible first | exact HB.out | apply below_alloc | apply pw_below_drewN | apply below_drew1 | refine below_set ?_ GE106.out) | exact HB.out)⟩
      · replace c11 := Bool.eq_false_iff.mpr c11
        subst c11
        have H1 : (if a0_2 < 0 then (qdigest_Check.j1 kj1 true a0_0 a0_1 a0_2 l0_3) else (if a0_2 > 1099511627776 then (qdigest_Check.j1 kj1 true a0_0 a0_1 a0_2 l0_3) else (qdigest_Check.j1 kj1 (decide ((l0_3.length : Int) > 2000)) a0_0 a0_1 a0_2 l0_3))) = some r := by rw [if_neg (show ¬ (false = true) by decide)] at H; exact H
        clear H
        have H := H1
        clear H1
        have HC12 := Aside0.mk H
        clear H
        go_upto_region 3 with (fail)
        repeat (go_quiet (fail); go_upto_region 3 with (fail))
        go_cut [39] (fun v39 wc => ∃ (kq : Nat) (x39_11 : Bool), v39 = .bool x39_11 ∧ Aside0 (qdigest_Check.j1 kq x39_11 a0_0 a0_1 a0_2 l0_3 = some r) ∧ Aside0 (kq ≤ kj1) ∧ Aside0 (wc.heap[gb106]? = some (.cells #[.int .i64 a0_0, .int .i64 a0_1, .int .i64 a0_2, (.slice A0_3 l0_3.length c0_3)] 24 (0, 0))) ∧ Aside0 (Below w.heap.size w wc))
        case first =>
          have H := HC12.out
          clear HC12
          by_cases c13 : a0_2 < 0
          · rw [if_pos c13] at H
            have c13b0 : decide (a0_2 < 0) = true := decide_eq_true c13
            clear c13
            (first | rw [c13b0] | (simp only [i64_w, i32_w]; rw [c13b0]) | skip)
            have H' := Aside0.mk H
            clear H
            have hcz14_0 : wc.cell? ⟨gb106, 0, none⟩ = some (.int .i64 a0_0) := (blk_cell BK106.out 0).trans rfl
            have hcz14_1 : wc.cell? ⟨gb106, 1, none⟩ = some (.int .i64 a0_1) := (blk_cell BK106.out 1).trans rfl
            have hcz14_2 : wc.cell? ⟨gb106, 2, none⟩ = some (.int .i64 a0_2) := (blk_cell BK106.out 2).trans rfl
            have hcz14_3 : wc.cell? ⟨gb106, 3, none⟩ = some (.slice A0_3 l0_3.length c0_3) := (blk_cell BK106.out 3).trans rfl
            have hfz14_0 := blk_frozen BK106.out 0
            have hfz14_1 := blk_frozen BK106.out 1
            have hfz14_2 := blk_frozen BK106.out 2
            have hfz14_3 := blk_frozen BK106.out 3
            go_wp2
            repeat (go_quiet (fail); try go_wp2)
            go_meet
            case rel => exact ⟨_, (true), (by first | rfl | (simp; done) | (simp [*]; done)), H', ⟨by have := HJ1.out; first | omega | exact Nat.le_refl _⟩, ⟨by (with_reducible repeat (first | refine blk_drewN ?_ _ | refine blk_drew ?_ | refine blk_alloc ?_ _)); exact BK106.out⟩, ⟨by repeat (first | (with_reducible first | exact HB.out | apply below_alloc | apply pw_below_drewN | apply below_drew1 | refine below_set ?_ GE106.out) | exact HB.out)⟩⟩
          · rw [if_neg c13] at H
            have c13b0 : decide (a0_2 < 0) = false := decide_eq_false c13
            clear c13
            (first | rw [c13b0] | (simp only [i64_w, i32_w]; rw [c13b0]) | skip)
            by_cases c15 : a0_2 > 1099511627776
            · rw [if_pos c15] at H
              have c15b0 : decide (1099511627776 < a0_2) = true := decide_eq_true c15
              clear c15
              have H' := Aside0.mk H
              clear H
              have hcz16_0 : wc.cell? ⟨gb106, 0, none⟩ = some (.int .i64 a0_0) := (blk_cell BK106.out 0).trans rfl
              have hcz16_1 : wc.cell? ⟨gb106, 1, none⟩ = some (.int .i64 a0_1) := (blk_cell BK106.out 1).trans rfl
              have hcz16_2 : wc.cell? ⟨gb106, 2, none⟩ = some (.int .i64 a0_2) := (blk_cell BK106.out 2).trans rfl
              have hcz16_3 : wc.cell? ⟨gb106, 3, none⟩ = some (.slice A0_3 l0_3.length c0_3) := (blk_cell BK106.out 3).trans rfl
              have hfz16_0 := blk_frozen BK106.out 0
              have hfz16_1 := blk_frozen BK106.out 1
              have hfz16_2 := blk_frozen BK106.out 2
              have hfz16_3 := blk_frozen BK106.out 3
              go_wp2
              repeat (go_quiet (fail); try go_wp2)
              go_meet
              case rel => exact ⟨_, (true), (by first | rfl | (simp; done) | (simp [*]; done)), H', ⟨by have := HJ1.out; first | omega | exact Nat.le_refl _⟩, ⟨by (with_reducible repeat (first | refine blk_drewN ?_ _ | refine blk_drew ?_ | refine blk_alloc ?_ _)); exact BK106.out⟩, ⟨by repeat (first | (with_reducible first | exact HB.out | apply below_alloc | apply pw_below_drewN | apply below_drew1 | refine below_set ?_ GE106.out) | exact HB.out)⟩⟩
            · rw [if_neg c15] at H
              have c15b0 : decide (1099511627776 < a0_2) = false := decide_eq_false c15
              clear c15
              have H' := Aside0.mk H
              clear H
              have hcz17_0 : wc.cell? ⟨gb106, 0, none⟩ = some (.int .i64 a0_0) := (blk_cell BK106.out 0).trans rfl
              have hcz17_1 : wc.cell? ⟨gb106, 1, none⟩ = some (.int .i64 a0_1) := (blk_cell BK106.out 1).trans rfl
              have hcz17_2 : wc.cell? ⟨gb106, 2, none⟩ = some (.int .i64 a0_2) := (blk_cell BK106.out 2).trans rfl
              have hcz17_3 : wc.cell? ⟨gb106, 3, none⟩ = some (.slice A0_3 l0_3.length c0_3) := (blk_cell BK106.out 3).trans rfl
              have hfz17_0 := blk_frozen BK106.out 0
              have hfz17_1 := blk_frozen BK106.out 1
              have hfz17_2 := blk_frozen BK106.out 2
              have hfz17_3 := blk_frozen BK106.out 3
              go_wp2
              repeat (go_quiet (fail); try go_wp2)
              go_meet
              case rel => exact ⟨_, (decide ((l0_3.length : Int) > 2000)), (by first | rfl | (simp; done) | (simp [*]; done)), H', ⟨by have := HJ1.out; first | omega | exact Nat.le_refl _⟩, ⟨by (with_reducible repeat (first | refine blk_drewN ?_ _ | refine blk_drew ?_ | refine blk_alloc ?_ _)); exact BK106.out⟩, ⟨by repeat (first | (with_reducible first | exact HB.out | apply below_alloc | apply pw_below_drewN | apply below_drew1 | refine below_set ?_ GE106.out) | exact HB.out)⟩⟩
        case rest =>
          clear HC12
          try clear c1
          try clear p2
          try clear c4
          try clear c4b0
          try clear c6
          try clear c6b0
          try clear c8
          try clear c8b0
          try clear c11
          try clear c13
          try clear c13b0
          try clear c15
          try clear c15b0
          try clear hcz10_0
          try clear hcz10_1
          try clear hcz10_2
          try clear hcz10_3
          try clear hcz14_0
          try clear hcz14_1
          try clear hcz14_2
          try clear hcz14_3
          try clear hcz16_0
          try clear hcz16_1
          try clear hcz16_2
          try clear hcz16_3
          try clear hcz17_0
          try clear hcz17_1
          try clear hcz17_2
          try clear hcz17_3
          try clear hcz5_0
          try clear hcz5_1
          try clear hcz5_2
          try clear hcz5_3
          try clear hcz7_0
          try clear hcz7_1
          try clear hcz7_2
          try clear hcz7_3
          try clear hcz9_0
          try clear hcz9_1
          try clear hcz9_2
          try clear hcz9_3
          try clear hfz10_0
          try clear hfz10_1
          try clear hfz10_2
          try clear hfz10_3
          try clear hfz14_0
          try clear hfz14_1
          try clear hfz14_2
          try clear hfz14_3
          try clear hfz16_0
          try clear hfz16_1
          try clear hfz16_2
          try clear hfz16_3
          try clear hfz17_0
          try clear hfz17_1
          try clear hfz17_2
          try clear hfz17_3
          try clear hfz5_0
          try clear hfz5_1
          try clear hfz5_2
          try clear hfz5_3
          try clear hfz7_0
          try clear hfz7_1
          try clear hfz7_2
          try clear hfz7_3
          try clear hfz9_0
          try clear hfz9_1
          try clear hfz9_2
          try clear hfz9_3
          try clear p2
          obtain ⟨kq, x39_11, rfl, HA, HJ11, BK106, HB⟩ := hcut
          cases kq with
          | zero => exact absurd HA.out (by simp [qdigest_Check.j1])
          | succ kj11 =>
            have H := HA.out
            clear HA
            simp only [qdigest_Check.j1] at H
            by_cases c18 : x39_11 = true
            · subst c18
              have H1 : (some 1) = some r := by rw [if_pos rfl] at H; exact H
              clear H
              have H := H1
              clear H1
              obtain rfl := Option.some.inj H
              go_wp2
              repeat (go_quiet (fail); try go_wp2)
              go_ret
              exact ⟨by first | rfl | (simp [errW_none, errW_some] <;> rfl) | (simp [*, errW_none, errW_some] <;> rfl), by repeat (first | (with_reducible first | exact HB.out | apply below_alloc | apply pw_below_drewN | apply below_drew1 | refine below_set ?_ GE106.out) | exact HB.out)⟩
            · replace c18 := Bool.eq_false_iff.mpr c18
              subst c18
              have H1 : (if a0_1 = 0 then (none) else (qdigest_Check.l0 kj11 (wrap64 (Int.tdiv a0_2 a0_1)) 0 0 l0_3 (l0_3.length : Int) 0 a0_0 a0_1 a0_2 l0_3)) = some r := by rw [if_neg (show ¬ (false = true) by decide)] at H; exact H
              clear H
              have H := H1
              clear H1
              by_cases c19 : a0_1 = 0
              · rw [if_pos c19] at H
                exact absurd H (by simp)
              · rw [if_neg c19] at H
                have c19b0 : (a0_1 == 0) = false := beq_eq_false_iff_ne.mpr c19
                have c19b1 : (a0_1 != 0) = true := bne_iff_ne.mpr c19
                have H' := Aside0.mk H
                clear H
                have hcz20_0 : wc.cell? ⟨gb106, 0, none⟩ = some (.int .i64 a0_0) := (blk_cell BK106.out 0).trans rfl
                have hcz20_1 : wc.cell? ⟨gb106, 1, none⟩ = some (.int .i64 a0_1) := (blk_cell BK106.out 1).trans rfl
                have hcz20_2 : wc.cell? ⟨gb106, 2, none⟩ = some (.int .i64 a0_2) := (blk_cell BK106.out 2).trans rfl
                have hcz20_3 : wc.cell? ⟨gb106, 3, none⟩ = some (.slice A0_3 l0_3.length c0_3) := (blk_cell BK106.out 3).trans rfl
                have hfz20_0 := blk_frozen BK106.out 0
                have hfz20_1 := blk_frozen BK106.out 1
                have hfz20_2 := blk_frozen BK106.out 2
                have hfz20_3 := blk_frozen BK106.out 3
                go_wp2
                repeat (go_quiet (fail); try go_wp2)
                go_loopg [4, 5, 48] kj11 (fun kq v4 v5 v48 w' => ∃ (x4_3 : Int) (x5_3 : Int) (x48_3 : Int), v4 = .int .i64 x4_3 ∧ v5 = .int .i64 x5_3 ∧ v48 = .int .i64 x48_3 ∧ Aside0 (qdigest_Check.l0 kq (wrap64 (Int.tdiv a0_2 a0_1)) x4_3 x5_3 l0_3 (l0_3.length : Int) x48_3 a0_0 a0_1 a0_2 l0_3 = some r) ∧ Aside0 (kq ≤ kj11) ∧ Aside0 (w'.heap[gb106]? = some (.cells #[.int .i64 a0_0, .int .i64 a0_1, .int .i64 a0_2, (.slice A0_3 l0_3.length c0_3)] 24 (0, 0))) ∧ Aside0 (Below w.heap.size w w'))
                case atStart => exact ⟨(0), (0), (0), (by first | rfl | (simp; done) | (simp [*]; done)), (by first | rfl | (simp; done) | (simp [*]; done)), (by first | rfl | (simp; done) | (simp [*]; done)), H', ⟨Nat.le_refl _⟩, ⟨by (with_reducible repeat (first | refine blk_drewN ?_ _ | refine blk_drew ?_ | refine blk_alloc ?_ _)); exact BK106.out⟩, ⟨by repeat (first | (with_reducible first | exact HB.out | apply below_alloc | apply pw_below_drewN | apply below_drew1 | refine below_set ?_ GE106.out) | exact HB.out)⟩⟩
                case round =>
                  clear H'
                  try clear c1
                  try clear p2
                  try clear c4
                  try clear c4b0
                  try clear c6
                  try clear c6b0
                  try clear p6
                  try clear c8
                  try clear c8b0
                  try clear c11
                  try clear c13
                  try clear c13b0
                  try clear c15
                  try clear c15b0
                  try clear c18
                  try clear c19
                  try clear c19b0
                  try clear c19b1
                  try clear hcz10_0
                  try clear hcz10_1
                  try clear hcz10_2
                  try clear hcz10_3
                  try clear hcz14_0
                  try clear hcz14_1
                  try clear hcz14_2
                  try clear hcz14_3
                  try clear hcz16_0
                  try clear hcz16_1
                  try clear hcz16_2
                  try clear hcz16_3
                  try clear hcz17_0
                  try clear hcz17_1
                  try clear hcz17_2
                  try clear hcz17_3
                  try clear hcz20_0
                  try clear hcz20_1
                  try clear hcz20_2
                  try clear hcz20_3
                  try clear hcz5_0
                  try clear hcz5_1
                  try clear hcz5_2
                  try clear hcz5_3
                  try clear hcz7_0
                  try clear hcz7_1
                  try clear hcz7_2
                  try clear hcz7_3
                  try clear hcz9_0
                  try clear hcz9_1
                  try clear hcz9_2
                  try clear hcz9_3
                  try clear hfz10_0
                  try clear hfz10_1
                  try clear hfz10_2
                  try clear hfz10_3
                  try clear hfz14_0
                  try clear hfz14_1
                  try clear hfz14_2
                  try clear hfz14_3
                  try clear hfz16_0
                  try clear hfz16_1
                  try clear hfz16_2
                  try clear hfz16_3
                  try clear hfz17_0
                  try clear hfz17_1
                  try clear hfz17_2
                  try clear hfz17_3
                  try clear hfz20_0
                  try clear hfz20_1
                  try clear hfz20_2
                  try clear hfz20_3
                  try clear hfz5_0
                  try clear hfz5_1
                  try clear hfz5_2
                  try clear hfz5_3
                  try clear hfz7_0
                  try clear hfz7_1
                  try clear hfz7_2
                  try clear hfz7_3
                  try clear hfz9_0
                  try clear hfz9_1
                  try clear hfz9_2
                  try clear hfz9_3
                  try clear p2
                  obtain ⟨x4_3, x5_3, x48_3, rfl, rfl, rfl, HA, HK3, BK106, HB⟩ := hrel
                  cases gk with
                  | zero => exact absurd HA.out (by simp [qdigest_Check.l0])
                  | succ k3 =>
                    have H := HA.out
                    clear HA
                    simp only [qdigest_Check.l0] at H
                    by_cases c21 : x48_3 < (l0_3.length : Int)
                    · rw [if_pos c21] at H
                      have c21b0 : decide (x48_3 < (l0_3.length : Int)) = true := decide_eq_true c21
                      clear c21
                      by_cases c22 : 0 ≤ x48_3
                      · rw [if_pos c22] at H
                        have c22b0 : decide (0 ≤ x48_3) = true := decide_eq_true c22
                        clear c22
                        by_cases c23 : x48_3 < (l0_3.length : Int)
                        · rw [if_pos c23] at H
                          have c23b0 : decide (x48_3 < (l0_3.length : Int)) = true := decide_eq_true c23
                          clear c23
                          have HC24 := Aside0.mk H
                          clear H
                          have p107 : 0 ≤ (x48_3 : Int) := of_decide_eq_true (by first | (with_reducible assumption) | assumption)
                          have q107 : x48_3 < (l0_3.length : Int) := of_decide_eq_true (by first | (with_reducible assumption) | assumption)
                          obtain ⟨ad107, e107, hx107_0, hx107_1⟩ := at_T63 HR0_3.out x48_3 p107 q107
                          cases e107
                          replace hx107_0 := (HB.out.cell (World.block_lt_of_cell? w _ hx107_0)).trans hx107_0
                          replace hx107_1 := (HB.out.cell (World.block_lt_of_cell? w _ hx107_1)).trans hx107_1
                          replace p107 := eq_true p107
                          replace q107 := eq_true q107
                          go_upto_region 10 with (first | ((with_reducible refine gate_dst (N := 7) rfl ?_); (try (refine gate_guard (by rfl) ?_; dsimp only)); refine box_event ?hg (N := 7) ?hd (cs := #[.int .i64 0, .int .i64 0]) (t := 63) ?hr ?_; (case hd => rfl); (case hg => rfl); (case hr => first | (go_simp; done) | (go_simp; rfl)); intro gb108 hg w25 hbox hb; have n0_ := Aside0.mk (blk_below (g := gb106) (o := .cells #[.int .i64 a0_0, .int .i64 a0_1, .int .i64 a0_2, .slice (some ad107) l0_3.length c0_3] 24 (0, 0)) (by (with_reducible repeat (first | refine blk_drewN ?_ _ | refine blk_drew ?_ | refine blk_alloc ?_ _)); exact BK106.out) hb); have n1_ := Aside0.mk (below_step (by repeat (first | (with_reducible first | exact HB.out | apply below_alloc | apply pw_below_drewN | apply below_drew1 | refine below_set ?_ GE106.out) | exact HB.out)) hb); have n2_ := Aside0.mk (hbox); have n3_ := Aside0.mk ((by rw [hg]; exact (below_size (by repeat (first | (with_reducible first | exact HB.out | apply below_alloc | apply pw_below_drewN | apply below_drew1 | refine below_set ?_ GE106.out) | exact HB.out))) : w.heap.size ≤ gb108)); have n4_ := Aside0.mk ((by rw [hg]; exact (below_size (by repeat (first | (with_reducible first | exact HB.out | apply below_alloc | apply pw_below_drewN | apply below_drew1 | refine below_set ?_ GE106.out) | exact HB.out))) : w.heap.size ≤ gb108)); have n5_ := Aside0.mk ((by rw [hg]; exact Nat.ne_of_lt (blk_lt (g := gb106) (o := .cells #[.int .i64 a0_0, .int .i64 a0_1, .int .i64 a0_2, .slice (some ad107) l0_3.length c0_3] 24 (0, 0)) (by (with_reducible repeat (first | refine blk_drewN ?_ _ | refine blk_drew ?_ | refine blk_alloc ?_ _)); exact BK106.out)) : gb106 ≠ gb108)); have n6_ := Aside0.mk ((by rw [hg]; exact Nat.ne_of_gt (blk_lt (g := gb106) (o := .cells #[.int .i64 a0_0, .int .i64 a0_1, .int .i64 a0_2, .slice (some ad107) l0_3.length c0_3] 24 (0, 0)) (by (with_reducible repeat (first | refine blk_drewN ?_ _ | refine blk_drew ?_ | refine blk_alloc ?_ _)); exact BK106.out)) : gb108 ≠ gb106)); clear BK106; clear HB; have BK106 := n0_; have HB := n1_; have BK108 := n2_; have GW108 := n3_; have GE108 := n4_; have NB106_108 := n5_; have NB108_106 := n6_; clear n0_ n1_ n2_ n3_ n4_ n5_ n6_; clear hb hbox hg; have hnb26 := NB108_106.out; have hnc26 := NB106_108.out; have hcz27_0 : w25.cell? ⟨gb108, 0, none⟩ = some (.int .i64 0) := (blk_cell BK108.out 0).trans rfl; have hcz27_1 : w25.cell? ⟨gb108, 1, none⟩ = some (.int .i64 0) := (blk_cell BK108.out 1).trans rfl; have hfz27_0 := blk_frozen BK108.out 0; have hfz27_1 := blk_frozen BK108.out 1))
                          repeat (go_quiet (first | ((with_reducible refine gate_dst (N := 7) rfl ?_); (try (refine gate_guard (by rfl) ?_; dsimp only)); refine box_event ?hg (N := 7) ?hd (cs := #[.int .i64 0, .int .i64 0]) (t := 63) ?hr ?_; (case hd => rfl); (case hg => rfl); (case hr => first | (go_simp; done) | (go_simp; rfl)); intro gb108 hg w25 hbox hb; have n0_ := Aside0.mk (blk_below (g := gb106) (o := .cells #[.int .i64 a0_0, .int .i64 a0_1, .int .i64 a0_2, .slice (some ad107) l0_3.length c0_3] 24 (0, 0)) (by (with_reducible repeat (first | refine blk_drewN ?_ _ | refine blk_drew ?_ | refine blk_alloc ?_ _)); exact BK106.out) hb); have n1_ := Aside0.mk (below_step (by repeat (first | (with_reducible first | exact HB.out | apply below_alloc | apply pw_below_drewN | apply below_drew1 | refine below_set ?_ GE106.out) | exact HB.out)) hb); have n2_ := Aside0.mk (hbox); have n3_ := Aside0.mk ((by rw [hg]; exact (below_size (by repeat (first | (with_reducible first | exact HB.out | apply below_alloc | apply pw_below_drewN | apply below_drew1 | refine below_set ?_ GE106.out) | exact HB.out))) : w.heap.size ≤ gb108)); have n4_ := Aside0.mk ((by rw [hg]; exact (below_size (by repeat (first | (with_reducible first | exact HB.out | apply below_alloc | apply pw_below_drewN | apply below_drew1 | refine below_set ?_ GE106.out) | exact HB.out))) : w.heap.size ≤ gb108)); have n5_ := Aside0.mk ((by rw [hg]; exact Nat.ne_of_lt (blk_lt (g := gb106) (o := .cells #[.int .i64 a0_0, .int .i64 a0_1, .int .i64 a0_2, .slice (some ad107) l0_3.length c0_3] 24 (0, 0)) (by (with_reducible repeat (first | refine blk_drewN ?_ _ | refine blk_drew ?_ | refine blk_alloc ?_ _)); exact BK106.out)) : gb106 ≠ gb108)); have n6_ := Aside0.mk ((by rw [hg]; exact Nat.ne_of_gt (blk_lt (g := gb106) (o := .cells #[.int .i64 a0_0, .int .i64 a0_1, .int .i64 a0_2, .slice (some ad107) l0_3.length c0_3] 24 (0, 0)) (by (with_reducible repeat (first | refine blk_drewN ?_ _ | refine blk_drew ?_ | refine blk_alloc ?_ _)); exact BK106.out)) : gb108 ≠ gb106)); clear BK106; clear HB; have BK106 := n0_; have HB := n1_; have BK108 := n2_; have GW108 := n3_; have GE108 := n4_; have NB106_108 := n5_; have NB108_106 := n6_; clear n0_ n1_ n2_ n3_ n4_ n5_ n6_; clear hb hbox hg; have hnb26 := NB108_106.out; have hnc26 := NB106_108.out; have hcz27_0 : w25.cell? ⟨gb108, 0, none⟩ = some (.int .i64 0) := (blk_cell BK108.out 0).trans rfl; have hcz27_1 : w25.cell? ⟨gb108, 1, none⟩ = some (.int .i64 0) := (blk_cell BK108.out 1).trans rfl; have hfz27_0 := blk_frozen BK108.out 0; have hfz27_1 := blk_frozen BK108.out 1)); go_upto_region 10 with (first | ((with_reducible refine gate_dst (N := 7) rfl ?_); (try (refine gate_guard (by rfl) ?_; dsimp only)); refine box_event ?hg (N := 7) ?hd (cs := #[.int .i64 0, .int .i64 0]) (t := 63) ?hr ?_; (case hd => rfl); (case hg => rfl); (case hr => first | (go_simp; done) | (go_simp; rfl)); intro gb108 hg w25 hbox hb; have n0_ := Aside0.mk (blk_below (g := gb106) (o := .cells #[.int .i64 a0_0, .int .i64 a0_1, .int .i64 a0_2, .slice (some ad107) l0_3.length c0_3] 24 (0, 0)) (by (with_reducible repeat (first | refine blk_drewN ?_ _ | refine blk_drew ?_ | refine blk_alloc ?_ _)); exact BK106.out) hb); have n1_ := Aside0.mk (below_step (by repeat (first | (with_reducible first | exact HB.out | apply below_alloc | apply pw_below_drewN | apply below_drew1 | refine below_set ?_ GE106.out) | exact HB.out)) hb); have n2_ := Aside0.mk (hbox); have n3_ := Aside0.mk ((by rw [hg]; exact (below_size (by repeat (first | (with_reducible first | exact HB.out | apply below_alloc | apply pw_below_drewN | apply below_drew1 | refine below_set ?_ GE106.out) | exact HB.out))) : w.heap.size ≤ gb108)); have n4_ := Aside0.mk ((by rw [hg]; exact (below_size (by repeat (first | (with_reducible first | exact HB.out | apply below_alloc | apply pw_below_drewN | apply below_drew1 | refine below_set ?_ GE106.out) | exact HB.out))) : w.heap.size ≤ gb108)); have n5_ := Aside0.mk ((by rw [hg]; exact Nat.ne_of_lt (blk_lt (g := gb106) (o := .cells #[.int .i64 a0_0, .int .i64 a0_1, .int .i64 a0_2, .slice (some ad107) l0_3.length c0_3] 24 (0, 0)) (by (with_reducible repeat (first | refine blk_drewN ?_ _ | refine blk_drew ?_ | refine blk_alloc ?_ _)); exact BK106.out)) : gb106 ≠ gb108)); have n6_ := Aside0.mk ((by rw [hg]; exact Nat.ne_of_gt (blk_lt (g := gb106) (o := .cells #[.int .i64 a0_0, .int .i64 a0_1, .int .i64 a0_2, .slice (some ad107) l0_3.length c0_3] 24 (0, 0)) (by (with_reducible repeat (first | refine blk_drewN ?_ _ | refine blk_drew ?_ | refine blk_alloc ?_ _)); exact BK106.out)) : gb108 ≠ gb106)); clear BK106; clear HB; have BK106 := n0_; have HB := n1_; have BK108 := n2_; have GW108 := n3_; have GE108 := n4_; have NB106_108 := n5_; have NB108_106 := n6_; clear n0_ n1_ n2_ n3_ n4_ n5_ n6_; clear hb hbox hg; have hnb26 := NB108_106.out; have hnc26 := NB106_108.out; have hcz27_0 : w25.cell? ⟨gb108, 0, none⟩ = some (.int .i64 0) := (blk_cell BK108.out 0).trans rfl; have hcz27_1 : w25.cell? ⟨gb108, 1, none⟩ = some (.int .i64 0) := (blk_cell BK108.out 1).trans rfl; have hfz27_0 := blk_frozen BK108.out 0; have hfz27_1 := blk_frozen BK108.out 1)))
                          (try simp only [Act.put, List.setIfInBounds_toArray, List.set_cons_zero, List.set_cons_succ])
                          go_cut [75] (fun v75 wc => ∃ (kq : Nat) (x75_23 : Bool), v75 = .bool x75_23 ∧ Aside0 (qdigest_Check.j3 kq (wrap64 (Int.tdiv a0_2 a0_1)) x4_3 l0_3 (l0_3.length : Int) x48_3 x75_23 a0_0 a0_1 a0_2 l0_3 ((rd_T63 l0_3 x48_3).f0) ((rd_T63 l0_3 x48_3).f1) = some r) ∧ Aside0 (kq ≤ k3) ∧ Aside0 (wc.heap[gb106]? = some (.cells #[.int .i64 a0_0, .int .i64 a0_1, .int .i64 a0_2, (.slice (some ad107) l0_3.length c0_3)] 24 (0, 0))) ∧ Aside0 (wc.heap[gb108]? = some (.cells #[.int .i64 ((rd_T63 l0_3 x48_3).f0), .int .i64 ((rd_T63 l0_3 x48_3).f1)] 63 (0, 0))) ∧ Aside0 (Below w.heap.size w wc))
                          case first =>
                            have H := HC24.out
                            clear HC24
                            by_cases c28 : ((rd_T63 l0_3 x48_3).f0) ≤ x5_3
                            · rw [if_pos c28] at H
                              have c28b0 : decide (((rd_T63 l0_3 x48_3).f0) ≤ x5_3) = true := decide_eq_true c28
                              clear c28
                              (first | rw [c28b0] | (simp only [i64_w, i32_w]; rw [c28b0]) | skip)
                              have H' := Aside0.mk H
                              clear H
                              have hnb29 := NB108_106.out
                              have hnc29 := NB106_108.out
                              have hcz30_0 : w25.cell? ⟨gb108, 0, none⟩ = some (.int .i64 0) := (blk_cell BK108.out 0).trans rfl
                              have hcz30_1 : w25.cell? ⟨gb108, 1, none⟩ = some (.int .i64 0) := (blk_cell BK108.out 1).trans rfl
                              have hfz30_0 := blk_frozen BK108.out 0
                              have hfz30_1 := blk_frozen BK108.out 1
                              go_wp2
                              repeat (go_quiet (fail); try go_wp2)
                              go_meet
                              case rel => exact ⟨_, (true), (by first | rfl | (simp; done) | (simp [*]; done)), H', ⟨by have := HJ1.out; have := HJ11.out; have := HK3.out; first | omega | exact Nat.le_refl _⟩, ⟨by (with_reducible repeat (first | refine blk_drewN ?_ _ | refine blk_drew ?_ | refine blk_alloc ?_ _)); refine blk_far ?_ NB106_108.out _; (with_reducible repeat (first | refine blk_drewN ?_ _ | refine blk_drew ?_ | refine blk_alloc ?_ _)); refine blk_far ?_ NB106_108.out _; (with_reducible repeat (first | refine blk_drewN ?_ _ | refine blk_drew ?_ | refine blk_alloc ?_ _)); exact BK106.out⟩, ⟨by (with_reducible repeat (first | refine blk_drewN ?_ _ | refine blk_drew ?_ | refine blk_alloc ?_ _)); refine blk_put (cs := #[.int .i64 ((rd_T63 l0_3 x48_3).f0), .int .i64 0]) ?_ 1 _ rfl; (with_reducible repeat (first | refine blk_drewN ?_ _ | refine blk_drew ?_ | refine blk_alloc ?_ _)); refine blk_put (cs := #[.int .i64 0, .int .i64 0]) ?_ 0 _ rfl; (with_reducible repeat (first | refine blk_drewN ?_ _ | refine blk_drew ?_ | refine blk_alloc ?_ _)); exact BK108.out⟩, ⟨by repeat (first | (with_reducible first | exact HB.out | apply below_alloc | apply pw_below_drewN | apply below_drew1 | refine below_set ?_ GE106.out | refine below_set ?_ GE108.out) | exact HB.out)⟩⟩
                            · rw [if_neg c28] at H
                              have c28b0 : decide (((rd_T63 l0_3 x48_3).f0) ≤ x5_3) = false := decide_eq_false c28
                              clear c28
                              (first | rw [c28b0] | (simp only [i64_w, i32_w]; rw [c28b0]) | skip)
                              by_cases c31 : 0 ≤ a0_0
                              · rw [if_pos c31] at H
                                have c31b0 := eq_true c31
                                have c31b1 : decide (0 ≤ a0_0) = true := decide_eq_true c31
                                clear c31
                                obtain ⟨ji32, hji32⟩ : ∃ j_ : Int, (shl .i64 2 a0_0) = j_ := ⟨_, rfl⟩
                                replace H : (if ((rd_T63 l0_3 x48_3).f0) ≥ (ji32) then (qdigest_Check.j3 k3 (wrap64 (Int.tdiv a0_2 a0_1)) x4_3 l0_3 (l0_3.length : Int) x48_3 true a0_0 a0_1 a0_2 l0_3 ((rd_T63 l0_3 x48_3).f0) ((rd_T63 l0_3 x48_3).f1)) else (if ((rd_T63 l0_3 x48_3).f1) < 1 then (qdigest_Check.j3 k3 (wrap64 (Int.tdiv a0_2 a0_1)) x4_3 l0_3 (l0_3.length : Int) x48_3 true a0_0 a0_1 a0_2 l0_3 ((rd_T63 l0_3 x48_3).f0) ((rd_T63 l0_3 x48_3).f1)) else (qdigest_Check.j3 k3 (wrap64 (Int.tdiv a0_2 a0_1)) x4_3 l0_3 (l0_3.length : Int) x48_3 (decide (((rd_T63 l0_3 x48_3).f1) > a0_2)) a0_0 a0_1 a0_2 l0_3 ((rd_T63 l0_3 x48_3).f0) ((rd_T63 l0_3 x48_3).f1)))) = some r := by first | (rw [hji32] at H; exact H) | (simp only [hji32] at H ⊢; exact H)
                                have hji32_ : (IntKind.i64.wrap (2 * 2 ^ min a0_0.toNat 64)) = ji32 := hji32
                                have hji32z : a0_0 ≤ 64 → (IntKind.i64.wrap (2 * 2 ^ a0_0.toNat)) = ji32 := shl_small hji32
                                have hji32y : (wrap64 (2 * 2 ^ min a0_0.toNat 64)) = ji32 := (i64_w _).symm.trans hji32_
                                have hji32x : a0_0 ≤ 64 → (wrap64 (2 * 2 ^ a0_0.toNat)) = ji32 := fun h_ => (i64_w _).symm.trans (hji32z h_)
                                by_cases c33 : ((rd_T63 l0_3 x48_3).f0) ≥ (ji32)
                                · rw [if_pos c33] at H
                                  have c33b0 : decide ((ji32) ≤ ((rd_T63 l0_3 x48_3).f0)) = true := decide_eq_true c33
                                  clear c33
                                  have H' := Aside0.mk H
                                  clear H
                                  have hnb34 := NB108_106.out
                                  have hnc34 := NB106_108.out
                                  have hcz35_0 : w25.cell? ⟨gb108, 0, none⟩ = some (.int .i64 0) := (blk_cell BK108.out 0).trans rfl
                                  have hcz35_1 : w25.cell? ⟨gb108, 1, none⟩ = some (.int .i64 0) := (blk_cell BK108.out 1).trans rfl
                                  have hfz35_0 := blk_frozen BK108.out 0
                                  have hfz35_1 := blk_frozen BK108.out 1
                                  have hcz36_0 : w25.cell? ⟨gb106, 0, none⟩ = some (.int .i64 a0_0) := (blk_cell BK106.out 0).trans rfl
                                  have hcz36_1 : w25.cell? ⟨gb106, 1, none⟩ = some (.int .i64 a0_1) := (blk_cell BK106.out 1).trans rfl
                                  have hcz36_2 : w25.cell? ⟨gb106, 2, none⟩ = some (.int .i64 a0_2) := (blk_cell BK106.out 2).trans rfl
                                  have hcz36_3 : w25.cell? ⟨gb106, 3, none⟩ = some (.slice (some ad107) l0_3.length c0_3) := (blk_cell BK106.out 3).trans rfl
                                  have hfz36_0 := blk_frozen BK106.out 0
                                  have hfz36_1 := blk_frozen BK106.out 1
                                  have hfz36_2 := blk_frozen BK106.out 2
                                  have hfz36_3 := blk_frozen BK106.out 3
                                  go_wp2
                                  repeat (go_quiet (fail); try go_wp2)
                                  go_meet
                                  case rel => exact ⟨_, (true), (by first | rfl | (simp; done) | (simp [*]; done)), H', ⟨by have := HJ1.out; have := HJ11.out; have := HK3.out; first | omega | exact Nat.le_refl _⟩, ⟨by (with_reducible repeat (first | refine blk_drewN ?_ _ | refine blk_drew ?_ | refine blk_alloc ?_ _)); refine blk_far ?_ NB106_108.out _; (with_reducible repeat (first | refine blk_drewN ?_ _ | refine blk_drew ?_ | refine blk_alloc ?_ _)); refine blk_far ?_ NB106_108.out _; (with_reducible repeat (first | refine blk_drewN ?_ _ | refine blk_drew ?_ | refine blk_alloc ?_ _)); exact BK106.out⟩, ⟨by (with_reducible repeat (first | refine blk_drewN ?_ _ | refine blk_drew ?_ | refine blk_alloc ?_ _)); refine blk_put (cs := #[.int .i64 ((rd_T63 l0_3 x48_3).f0), .int .i64 0]) ?_ 1 _ rfl; (with_reducible repeat (first | refine blk_drewN ?_ _ | refine blk_drew ?_ | refine blk_alloc ?_ _)); refine blk_put (cs := #[.int .i64 0, .int .i64 0]) ?_ 0 _ rfl; (with_reducible repeat (first | refine blk_drewN ?_ _ | refine blk_drew ?_ | refine blk_alloc ?_ _)); exact BK108.out⟩, ⟨by repeat (first | (with_reducible first | exact HB.out | apply below_alloc | apply pw_below_drewN | apply below_drew1 | refine below_set ?_ GE106.out | refine below_set ?_ GE108.out) | exact HB.out)⟩⟩
                                · rw [if_neg c33] at H
                                  have c33b0 : decide ((ji32) ≤ ((rd_T63 l0_3 x48_3).f0)) = false := decide_eq_false c33
                                  clear c33
                                  by_cases c37 : ((rd_T63 l0_3 x48_3).f1) < 1
                                  · rw [if_pos c37] at H
                                    have c37b0 : decide (((rd_T63 l0_3 x48_3).f1) < 1) = true := decide_eq_true c37
                                    clear c37
                                    have H' := Aside0.mk H
                                    clear H
                                    have hnb38 := NB108_106.out
                                    have hnc38 := NB106_108.out
                                    have hcz39_0 : w25.cell? ⟨gb108, 0, none⟩ = some (.int .i64 0) := (blk_cell BK108.out 0).trans rfl
                                    have hcz39_1 : w25.cell? ⟨gb108, 1, none⟩ = some (.int .i64 0) := (blk_cell BK108.out 1).trans rfl
                                    have hfz39_0 := blk_frozen BK108.out 0
                                    have hfz39_1 := blk_frozen BK108.out 1
                                    have hcz40_0 : w25.cell? ⟨gb106, 0, none⟩ = some (.int .i64 a0_0) := (blk_cell BK106.out 0).trans rfl
                                    have hcz40_1 : w25.cell? ⟨gb106, 1, none⟩ = some (.int .i64 a0_1) := (blk_cell BK106.out 1).trans rfl
                                    have hcz40_2 : w25.cell? ⟨gb106, 2, none⟩ = some (.int .i64 a0_2) := (blk_cell BK106.out 2).trans rfl
                                    have hcz40_3 : w25.cell? ⟨gb106, 3, none⟩ = some (.slice (some ad107) l0_3.length c0_3) := (blk_cell BK106.out 3).trans rfl
                                    have hfz40_0 := blk_frozen BK106.out 0
                                    have hfz40_1 := blk_frozen BK106.out 1
                                    have hfz40_2 := blk_frozen BK106.out 2
                                    have hfz40_3 := blk_frozen BK106.out 3
                                    go_wp2
                                    repeat (go_quiet (fail); try go_wp2)
                                    go_meet
                                    case rel => exact ⟨_, (true), (by first | rfl | (simp; done) | (simp [*]; done)), H', ⟨by have := HJ1.out; have := HJ11.out; have := HK3.out; first | omega | exact Nat.le_refl _⟩, ⟨by (with_reducible repeat (first | refine blk_drewN ?_ _ | refine blk_drew ?_ | refine blk_alloc ?_ _)); refine blk_far ?_ NB106_108.out _; (with_reducible repeat (first | refine blk_drewN ?_ _ | refine blk_drew ?_ | refine blk_alloc ?_ _)); refine blk_far ?_ NB106_108.out _; (with_reducible repeat (first | refine blk_drewN ?_ _ | refine blk_drew ?_ | refine blk_alloc ?_ _)); exact BK106.out⟩, ⟨by (with_reducible repeat (first | refine blk_drewN ?_ _ | refine blk_drew ?_ | refine blk_alloc ?_ _)); refine blk_put (cs := #[.int .i64 ((rd_T63 l0_3 x48_3).f0), .int .i64 0]) ?_ 1 _ rfl; (with_reducible repeat (first | refine blk_drewN ?_ _ | refine blk_drew ?_ | refine blk_alloc ?_ _)); refine blk_put (cs := #[.int .i64 0, .int .i64 0]) ?_ 0 _ rfl; (with_reducible repeat (first | refine blk_drewN ?_ _ | refine blk_drew ?_ | refine blk_alloc ?_ _)); exact BK108.out⟩, ⟨by repeat (first | (with_reducible first | exact HB.out | apply below_alloc | apply pw_below_drewN | apply below_drew1 | refine below_set ?_ GE106.out | refine below_set ?_ GE108.out) | exact HB.out)⟩⟩
                                  · rw [if_neg c37] at H
                                    have c37b0 : decide (((rd_T63 l0_3 x48_3).f1) < 1) = false := decide_eq_false c37
                                    clear c37
                                    have H' := Aside0.mk H
                                    clear H
                                    have hnb41 := NB108_106.out
                                    have hnc41 := NB106_108.out
                                    have hcz42_0 : w25.cell? ⟨gb108, 0, none⟩ = some (.int .i64 0) := (blk_cell BK108.out 0).trans rfl
                                    have hcz42_1 : w25.cell? ⟨gb108, 1, none⟩ = some (.int .i64 0) := (blk_cell BK108.out 1).trans rfl
                                    have hfz42_0 := blk_frozen BK108.out 0
                                    have hfz42_1 := blk_frozen BK108.out 1
                                    have hcz43_0 : w25.cell? ⟨gb106, 0, none⟩ = some (.int .i64 a0_0) := (blk_cell BK106.out 0).trans rfl
                                    have hcz43_1 : w25.cell? ⟨gb106, 1, none⟩ = some (.int .i64 a0_1) := (blk_cell BK106.out 1).trans rfl
                                    have hcz43_2 : w25.cell? ⟨gb106, 2, none⟩ = some (.int .i64 a0_2) := (blk_cell BK106.out 2).trans rfl
                                    have hcz43_3 : w25.cell? ⟨gb106, 3, none⟩ = some (.slice (some ad107) l0_3.length c0_3) := (blk_cell BK106.out 3).trans rfl
                                    have hfz43_0 := blk_frozen BK106.out 0
                                    have hfz43_1 := blk_frozen BK106.out 1
                                    have hfz43_2 := blk_frozen BK106.out 2
                                    have hfz43_3 := blk_frozen BK106.out 3
                                    go_wp2
                                    repeat (go_quiet (fail); try go_wp2)
                                    go_meet
                                    case rel => exact ⟨_, (decide (((rd_T63 l0_3 x48_3).f1) > a0_2)), (by first | rfl | (simp; done) | (simp [*]; done)), H', ⟨by have := HJ1.out; have := HJ11.out; have := HK3.out; first | omega | exact Nat.le_refl _⟩, ⟨by (with_reducible repeat (first | refine blk_drewN ?_ _ | refine blk_drew ?_ | refine blk_alloc ?_ _)); refine blk_far ?_ NB106_108.out _; (with_reducible repeat (first | refine blk_drewN ?_ _ | refine blk_drew ?_ | refine blk_alloc ?_ _)); refine blk_far ?_ NB106_108.out _; (with_reducible repeat (first | refine blk_drewN ?_ _ | refine blk_drew ?_ | refine blk_alloc ?_ _)); exact BK106.out⟩, ⟨by (with_reducible repeat (first | refine blk_drewN ?_ _ | refine blk_drew ?_ | refine blk_alloc ?_ _)); refine blk_put (cs := #[.int .i64 ((rd_T63 l0_3 x48_3).f0), .int .i64 0]) ?_ 1 _ rfl; (with_reducible repeat (first | refine blk_drewN ?_ _ | refine blk_drew ?_ | refine blk_alloc ?_ _)); refine blk_put (cs := #[.int .i64 0, .int .i64 0]) ?_ 0 _ rfl; (with_reducible repeat (first | refine blk_drewN ?_ _ | refine blk_drew ?_ | refine blk_alloc ?_ _)); exact BK108.out⟩, ⟨by repeat (first | (with_reducible first | exact HB.out | apply below_alloc | apply pw_below_drewN | apply below_drew1 | refine below_set ?_ GE106.out | refine below_set ?_ GE108.out) | exact HB.out)⟩⟩
                              · rw [if_neg c31] at H
                                exact absurd H (by simp)
                          case rest =>
                            clear HC24
                            try clear c1
                            try clear p1
                            try clear q1
                            try clear hx1
                            try clear c2
                            try clear p2
                            try clear c3
                            try clear c4
                            try clear c4b0
                            try clear c6
                            try clear c6b0
                            try clear p6
                            try clear c8
                            try clear c8b0
                            try clear p10
                            try clear q10
                            try clear hx10
                            try clear c11
                            try clear c13
                            try clear c13b0
                            try clear c15
                            try clear c15b0
                            try clear c18
                            try clear c19
                            try clear c19b0
                            try clear c19b1
                            try clear c21
                            try clear c21b0
                            try clear c22
                            try clear c22b0
                            try clear c23
                            try clear c23b0
                            try clear c26
                            try clear c28
                            try clear c28b0
                            try clear c29
                            try clear c31
                            try clear c31b0
                            try clear c31b1
                            try clear c33
                            try clear c33b0
                            try clear c34
                            try clear c37
                            try clear c37b0
                            try clear c38
                            try clear c41
                            try clear hcz10_0
                            try clear hcz10_1
                            try clear hcz10_2
                            try clear hcz10_3
                            try clear hcz14_0
                            try clear hcz14_1
                            try clear hcz14_2
                            try clear hcz14_3
                            try clear hcz16_0
                            try clear hcz16_1
                            try clear hcz16_2
                            try clear hcz16_3
                            try clear hcz17_0
                            try clear hcz17_1
                            try clear hcz17_2
                            try clear hcz17_3
                            try clear hcz20_0
                            try clear hcz20_1
                            try clear hcz20_2
                            try clear hcz20_3
                            try clear hcz27_0
                            try clear hcz27_1
                            try clear hcz30_0
                            try clear hcz30_1
                            try clear hcz35_0
                            try clear hcz35_1
                            try clear hcz36_0
                            try clear hcz36_1
                            try clear hcz36_2
                            try clear hcz36_3
                            try clear hcz39_0
                            try clear hcz39_1
                            try clear hcz40_0
                            try clear hcz40_1
                            try clear hcz40_2
                            try clear hcz40_3
                            try clear hcz42_0
                            try clear hcz42_1
                            try clear hcz43_0
                            try clear hcz43_1
                            try clear hcz43_2
                            try clear hcz43_3
                            try clear hcz5_0
                            try clear hcz5_1
                            try clear hcz5_2
                            try clear hcz5_3
                            try clear hcz7_0
                            try clear hcz7_1
                            try clear hcz7_2
                            try clear hcz7_3
                            try clear hcz9_0
                            try clear hcz9_1
                            try clear hcz9_2
                            try clear hcz9_3
                            try clear hfz10_0
                            try clear hfz10_1
                            try clear hfz10_2
                            try clear hfz10_3
                            try clear hfz14_0
                            try clear hfz14_1
                            try clear hfz14_2
                            try clear hfz14_3
                            try clear hfz16_0
                            try clear hfz16_1
                            try clear hfz16_2
                            try clear hfz16_3
                            try clear hfz17_0
                            try clear hfz17_1
                            try clear hfz17_2
                            try clear hfz17_3
                            try clear hfz20_0
                            try clear hfz20_1
                            try clear hfz20_2
                            try clear hfz20_3
                            try clear hfz27_0
                            try clear hfz27_1
                            try clear hfz30_0
                            try clear hfz30_1
                            try clear hfz35_0
                            try clear hfz35_1
                            try clear hfz36_0
                            try clear hfz36_1
                            try clear hfz36_2
                            try clear hfz36_3
                            try clear hfz39_0
                            try clear hfz39_1
                            try clear hfz40_0
                            try clear hfz40_1
                            try clear hfz40_2
                            try clear hfz40_3
                            try clear hfz42_0
                            try clear hfz42_1
                            try clear hfz43_0
                            try clear hfz43_1
                            try clear hfz43_2
                            try clear hfz43_3
                            try clear hfz5_0
                            try clear hfz5_1
                            try clear hfz5_2
                            try clear hfz5_3
                            try clear hfz7_0
                            try clear hfz7_1
                            try clear hfz7_2
                            try clear hfz7_3
                            try clear hfz9_0
                            try clear hfz9_1
                            try clear hfz9_2
                            try clear hfz9_3
                            try clear hx107_0
                            try clear hx107_1
                            try clear p107
                            try clear p2
                            try clear p6
                            try clear q107
                            obtain ⟨kq, x75_23, rfl, HA, HJ23, BK106, BK108, HB⟩ := hcut
                            cases kq with
                            | zero => exact absurd HA.out (by simp [qdigest_Check.j3])
                            | succ kj23 =>
                              have H := HA.out
                              clear HA
                              simp only [qdigest_Check.j3] at H
                              by_cases c44 : x75_23 = true
                              · subst c44
                                have H1 : (some 1) = some r := by rw [if_pos rfl] at H; exact H
                                clear H
                                have H := H1
                                clear H1
                                obtain rfl := Option.some.inj H
                                go_wp2
                                repeat (go_quiet (fail); try go_wp2)
                                go_ret
                                exact ⟨by first | rfl | (simp [errW_none, errW_some] <;> rfl) | (simp [*, errW_none, errW_some] <;> rfl), by repeat (first | (with_reducible first | exact HB.out | apply below_alloc | apply pw_below_drewN | apply below_drew1 | refine below_set ?_ GE106.out | refine below_set ?_ GE108.out) | exact HB.out)⟩
                              · replace c44 := Bool.eq_false_iff.mpr c44
                                subst c44
                                have H1 : (if 0 ≤ a0_0 then (if ((rd_T63 l0_3 x48_3).f0) < (shl .i64 1 a0_0) then (if ((rd_T63 l0_3 x48_3).f1) > (wrap64 (Int.tdiv a0_2 a0_1)) then (some 1) else (qdigest_Check.l0 kj23 (wrap64 (Int.tdiv a0_2 a0_1)) (wrap64 (x4_3 + ((rd_T63 l0_3 x48_3).f1))) ((rd_T63 l0_3 x48_3).f0) l0_3 (l0_3.length : Int) (wrap64 (x48_3 + 1)) a0_0 a0_1 a0_2 l0_3)) else (qdigest_Check.l0 kj23 (wrap64 (Int.tdiv a0_2 a0_1)) (wrap64 (x4_3 + ((rd_T63 l0_3 x48_3).f1))) ((rd_T63 l0_3 x48_3).f0) l0_3 (l0_3.length : Int) (wrap64 (x48_3 + 1)) a0_0 a0_1 a0_2 l0_3)) else (none)) = some r := by rw [if_neg (show ¬ (false = true) by decide)] at H; exact H
                                clear H
                                have H := H1
                                clear H1
                                by_cases c45 : 0 ≤ a0_0
                                · rw [if_pos c45] at H
                                  have c45b0 := eq_true c45
                                  have c45b1 : decide (0 ≤ a0_0) = true := decide_eq_true c45
                                  clear c45
                                  obtain ⟨ji46, hji46⟩ : ∃ j_ : Int, (shl .i64 1 a0_0) = j_ := ⟨_, rfl⟩
                                  replace H : (if ((rd_T63 l0_3 x48_3).f0) < (ji46) then (if ((rd_T63 l0_3 x48_3).f1) > (wrap64 (Int.tdiv a0_2 a0_1)) then (some 1) else (qdigest_Check.l0 kj23 (wrap64 (Int.tdiv a0_2 a0_1)) (wrap64 (x4_3 + ((rd_T63 l0_3 x48_3).f1))) ((rd_T63 l0_3 x48_3).f0) l0_3 (l0_3.length : Int) (wrap64 (x48_3 + 1)) a0_0 a0_1 a0_2 l0_3)) else (qdigest_Check.l0 kj23 (wrap64 (Int.tdiv a0_2 a0_1)) (wrap64 (x4_3 + ((rd_T63 l0_3 x48_3).f1))) ((rd_T63 l0_3 x48_3).f0) l0_3 (l0_3.length : Int) (wrap64 (x48_3 + 1)) a0_0 a0_1 a0_2 l0_3)) = some r := by first | (rw [hji46] at H; exact H) | (simp only [hji46] at H ⊢; exact H)
                                  have hji46_ : (IntKind.i64.wrap (1 * 2 ^ min a0_0.toNat 64)) = ji46 := hji46
                                  have hji46z : a0_0 ≤ 64 → (IntKind.i64.wrap (1 * 2 ^ a0_0.toNat)) = ji46 := shl_small hji46
                                  have hji46u : (IntKind.i64.wrap (2 ^ min a0_0.toNat 64)) = ji46 := by have h_ := hji46_; rw [Int.one_mul] at h_; exact h_
                                  have hji46v : a0_0 ≤ 64 → (IntKind.i64.wrap (2 ^ a0_0.toNat)) = ji46 := fun hle_ => by have h_ := hji46z hle_; rw [Int.one_mul] at h_; exact h_
                                  have hji46y : (wrap64 (1 * 2 ^ min a0_0.toNat 64)) = ji46 := (i64_w _).symm.trans hji46_
                                  have hji46x : a0_0 ≤ 64 → (wrap64 (1 * 2 ^ a0_0.toNat)) = ji46 := fun h_ => (i64_w _).symm.trans (hji46z h_)
                                  by_cases c47 : ((rd_T63 l0_3 x48_3).f0) < (ji46)
                                  · rw [if_pos c47] at H
                                    have c47b0 : decide (((rd_T63 l0_3 x48_3).f0) < (ji46)) = true := decide_eq_true c47
                                    clear c47
                                    by_cases c48 : ((rd_T63 l0_3 x48_3).f1) > (wrap64 (Int.tdiv a0_2 a0_1))
                                    · rw [if_pos c48] at H
                                      have c48b0 : decide ((wrap64 (Int.tdiv a0_2 a0_1)) < ((rd_T63 l0_3 x48_3).f1)) = true := decide_eq_true c48
                                      clear c48
                                      obtain rfl := Option.some.inj H
                                      have hnb49 := NB108_106.out
                                      have hnc49 := NB106_108.out
                                      have hcz50_0 : wc.cell? ⟨gb108, 0, none⟩ = some (.int .i64 ((rd_T63 l0_3 x48_3).f0)) := (blk_cell BK108.out 0).trans rfl
                                      have hcz50_1 : wc.cell? ⟨gb108, 1, none⟩ = some (.int .i64 ((rd_T63 l0_3 x48_3).f1)) := (blk_cell BK108.out 1).trans rfl
                                      have hfz50_0 := blk_frozen BK108.out 0
                                      have hfz50_1 := blk_frozen BK108.out 1
                                      have hcz51_0 : wc.cell? ⟨gb106, 0, none⟩ = some (.int .i64 a0_0) := (blk_cell BK106.out 0).trans rfl
                                      have hcz51_1 : wc.cell? ⟨gb106, 1, none⟩ = some (.int .i64 a0_1) := (blk_cell BK106.out 1).trans rfl
                                      have hcz51_2 : wc.cell? ⟨gb106, 2, none⟩ = some (.int .i64 a0_2) := (blk_cell BK106.out 2).trans rfl
                                      have hcz51_3 : wc.cell? ⟨gb106, 3, none⟩ = some (.slice (some ad107) l0_3.length c0_3) := (blk_cell BK106.out 3).trans rfl
                                      have hfz51_0 := blk_frozen BK106.out 0
                                      have hfz51_1 := blk_frozen BK106.out 1
                                      have hfz51_2 := blk_frozen BK106.out 2
                                      have hfz51_3 := blk_frozen BK106.out 3
                                      go_wp2
                                      repeat (go_quiet (fail); try go_wp2)
                                      go_ret
                                      exact ⟨by first | rfl | (simp [errW_none, errW_some] <;> rfl) | (simp only [← hji46]; first | rfl | (simp [errW_none, errW_some] <;> rfl)) | (simp [*, errW_none, errW_some] <;> rfl), by repeat (first | (with_reducible first | exact HB.out | apply below_alloc | apply pw_below_drewN | apply below_drew1 | refine below_set ?_ GE106.out | refine below_set ?_ GE108.out) | exact HB.out)⟩
                                    · rw [if_neg c48] at H
                                      have c48b0 : decide ((wrap64 (Int.tdiv a0_2 a0_1)) < ((rd_T63 l0_3 x48_3).f1)) = false := decide_eq_false c48
                                      clear c48
                                      have H' := Aside0.mk H
                                      clear H
                                      have hnb52 := NB108_106.out
                                      have hnc52 := NB106_108.out
                                      have hcz53_0 : wc.cell? ⟨gb108, 0, none⟩ = some (.int .i64 ((rd_T63 l0_3 x48_3).f0)) := (blk_cell BK108.out 0).trans rfl
                                      have hcz53_1 : wc.cell? ⟨gb108, 1, none⟩ = some (.int .i64 ((rd_T63 l0_3 x48_3).f1)) := (blk_cell BK108.out 1).trans rfl
                                      have hfz53_0 := blk_frozen BK108.out 0
                                      have hfz53_1 := blk_frozen BK108.out 1
                                      have hcz54_0 : wc.cell? ⟨gb106, 0, none⟩ = some (.int .i64 a0_0) := (blk_cell BK106.out 0).trans rfl
                                      have hcz54_1 : wc.cell? ⟨gb106, 1, none⟩ = some (.int .i64 a0_1) := (blk_cell BK106.out 1).trans rfl
                                      have hcz54_2 : wc.cell? ⟨gb106, 2, none⟩ = some (.int .i64 a0_2) := (blk_cell BK106.out 2).trans rfl
                                      have hcz54_3 : wc.cell? ⟨gb106, 3, none⟩ = some (.slice (some ad107) l0_3.length c0_3) := (blk_cell BK106.out 3).trans rfl
                                      have hfz54_0 := blk_frozen BK106.out 0
                                      have hfz54_1 := blk_frozen BK106.out 1
                                      have hfz54_2 := blk_frozen BK106.out 2
                                      have hfz54_3 := blk_frozen BK106.out 3
                                      go_wp2
                                      repeat (go_quiet (fail); try go_wp2)
                                      go_roundg kj23
                                      case measure => have := HJ1.out; have := HJ11.out; have := HK3.out; have := HJ23.out; omega
                                      case rel => exact ⟨(wrap64 (x4_3 + ((rd_T63 l0_3 x48_3).f1))), (((rd_T63 l0_3 x48_3).f0)), (wrap64 (x48_3 + 1)), (by first | rfl | (simp; done) | (simp [*]; done)), (by first | rfl | (simp; done) | (simp [*]; done)), (by first | rfl | (simp; done) | (simp [*]; done)), H', ⟨by have := HJ1.out; have := HJ11.out; have := HK3.out; have := HJ23.out; omega⟩, ⟨by (with_reducible repeat (first | refine blk_drewN ?_ _ | refine blk_drew ?_ | refine blk_alloc ?_ _)); exact BK106.out⟩, ⟨by repeat (first | (with_reducible first | exact HB.out | apply below_alloc | apply pw_below_drewN | apply below_drew1 | refine below_set ?_ GE106.out | refine below_set ?_ GE108.out) | exact HB.out)⟩⟩
                                  · rw [if_neg c47] at H
                                    have c47b0 : decide (((rd_T63 l0_3 x48_3).f0) < (ji46)) = false := decide_eq_false c47
                                    clear c47
                                    have H' := Aside0.mk H
                                    clear H
                                    have hnb55 := NB108_106.out
                                    have hnc55 := NB106_108.out
                                    have hcz56_0 : wc.cell? ⟨gb108, 0, none⟩ = some (.int .i64 ((rd_T63 l0_3 x48_3).f0)) := (blk_cell BK108.out 0).trans rfl
                                    have hcz56_1 : wc.cell? ⟨gb108, 1, none⟩ = some (.int .i64 ((rd_T63 l0_3 x48_3).f1)) := (blk_cell BK108.out 1).trans rfl
                                    have hfz56_0 := blk_frozen BK108.out 0
                                    have hfz56_1 := blk_frozen BK108.out 1
                                    have hcz57_0 : wc.cell? ⟨gb106, 0, none⟩ = some (.int .i64 a0_0) := (blk_cell BK106.out 0).trans rfl
                                    have hcz57_1 : wc.cell? ⟨gb106, 1, none⟩ = some (.int .i64 a0_1) := (blk_cell BK106.out 1).trans rfl
                                    have hcz57_2 : wc.cell? ⟨gb106, 2, none⟩ = some (.int .i64 a0_2) := (blk_cell BK106.out 2).trans rfl
                                    have hcz57_3 : wc.cell? ⟨gb106, 3, none⟩ = some (.slice (some ad107) l0_3.length c0_3) := (blk_cell BK106.out 3).trans rfl
                                    have hfz57_0 := blk_frozen BK106.out 0
                                    have hfz57_1 := blk_frozen BK106.out 1
                                    have hfz57_2 := blk_frozen BK106.out 2
                                    have hfz57_3 := blk_frozen BK106.out 3
                                    go_wp2
                                    repeat (go_quiet (fail); try go_wp2)
                                    go_roundg kj23
                                    case measure => have := HJ1.out; have := HJ11.out; have := HK3.out; have := HJ23.out; omega
                                    case rel => exact ⟨(wrap64 (x4_3 + ((rd_T63 l0_3 x48_3).f1))), (((rd_T63 l0_3 x48_3).f0)), (wrap64 (x48_3 + 1)), (by first | rfl | (simp; done) | (simp [*]; done)), (by first | rfl | (simp; done) | (simp [*]; done)), (by first | rfl | (simp; done) | (simp [*]; done)), H', ⟨by have := HJ1.out; have := HJ11.out; have := HK3.out; have := HJ23.out; omega⟩, ⟨by (with_reducible repeat (first | refine blk_drewN ?_ _ | refine blk_drew ?_ | refine blk_alloc ?_ _)); exact BK106.out⟩, ⟨by repeat (first | (with_reducible first | exact HB.out | apply below_alloc | apply pw_below_drewN | apply below_drew1 | refine below_set ?_ GE106.out | refine below_set ?_ GE108.out) | exact HB.out)⟩⟩
                                · rw [if_neg c45] at H
                                  exact absurd H (by simp)
                        · rw [if_neg c23] at H
                          exact absurd H (by simp)
                      · rw [if_neg c22] at H
                        exact absurd H (by simp)
                    · rw [if_neg c21] at H
                      have c21b0 : decide (x48_3 < (l0_3.length : Int)) = false := decide_eq_false c21
                      clear c21
                      by_cases c58 : x4_3 = a0_2
                      · rw [if_pos c58] at H
                        have c58b0 : (x4_3 == a0_2) = true := beq_iff_eq.mpr c58
                        have c58b1 : (x4_3 != a0_2) = false := bne_eq_false_iff_eq.mpr c58
                        clear c58
                        obtain rfl := Option.some.inj H
                        have hcz59_0 : wr.cell? ⟨gb106, 0, none⟩ = some (.int .i64 a0_0) := (blk_cell BK106.out 0).trans rfl
                        have hcz59_1 : wr.cell? ⟨gb106, 1, none⟩ = some (.int .i64 a0_1) := (blk_cell BK106.out 1).trans rfl
                        have hcz59_2 : wr.cell? ⟨gb106, 2, none⟩ = some (.int .i64 a0_2) := (blk_cell BK106.out 2).trans rfl
                        have hcz59_3 : wr.cell? ⟨gb106, 3, none⟩ = some (.slice A0_3 l0_3.length c0_3) := (blk_cell BK106.out 3).trans rfl
                        have hfz59_0 := blk_frozen BK106.out 0
                        have hfz59_1 := blk_frozen BK106.out 1
                        have hfz59_2 := blk_frozen BK106.out 2
                        have hfz59_3 := blk_frozen BK106.out 3
                        go_wp2
                        repeat (go_quiet (fail); try go_wp2)
                        go_ret
                        exact ⟨by first | rfl | (simp [errW_none, errW_some] <;> rfl) | (simp [*, errW_none, errW_some] <;> rfl), by repeat (first | (with_reducible first | exact HB.out | apply below_alloc | apply pw_below_drewN | apply below_drew1 | refine below_set ?_ GE106.out) | exact HB.out)⟩
                      · rw [if_neg c58] at H
                        have c58b0 : (x4_3 == a0_2) = false := beq_eq_false_iff_ne.mpr c58
                        have c58b1 : (x4_3 != a0_2) = true := bne_iff_ne.mpr c58
                        obtain rfl := Option.some.inj H
                        have hcz60_0 : wr.cell? ⟨gb106, 0, none⟩ = some (.int .i64 a0_0) := (blk_cell BK106.out 0).trans rfl
                        have hcz60_1 : wr.cell? ⟨gb106, 1, none⟩ = some (.int .i64 a0_1) := (blk_cell BK106.out 1).trans rfl
                        have hcz60_2 : wr.cell? ⟨gb106, 2, none⟩ = some (.int .i64 a0_2) := (blk_cell BK106.out 2).trans rfl
                        have hcz60_3 : wr.cell? ⟨gb106, 3, none⟩ = some (.slice A0_3 l0_3.length c0_3) := (blk_cell BK106.out 3).trans rfl
                        have hfz60_0 := blk_frozen BK106.out 0
                        have hfz60_1 := blk_frozen BK106.out 1
                        have hfz60_2 := blk_frozen BK106.out 2
                        have hfz60_3 := blk_frozen BK106.out 3
                        go_wp2
                        repeat (go_quiet (fail); try go_wp2)
                        go_ret
                        exact ⟨by first | rfl | (simp [errW_none, errW_some] <;> rfl) | (simp [*, errW_none, errW_some] <;> rfl), by repeat (first | (with_reducible first | exact HB.out | apply below_alloc | apply pw_below_drewN | apply below_drew1 | refine below_set ?_ GE106.out) | exact HB.out)⟩

end Go.Proofs.Ytcgimjoebkeifaa.PQ

/- qdigest.reach, as a plain function: the walk through the nodes in the order of their ends does not depend on how nodes with one end are ordered. -/
namespace Go.Proofs.Ytcgimjoebkeifaa.Quan
set_option linter.unusedSimpArgs false
set_option linter.unusedVariables false
open Go.Proofs.Ytcgimjoebkeifaa.PQ
/-- The walk of reach. -/
def walkR (ed : Int → Int) (rank : Int) : List S63 → Int → Int → Int
  | [], _, last => last
  | x :: xs, sum, _ => if rank ≤ sum + x.f1 then ed x.f0 else walkR ed rank xs (sum + x.f1) (ed x.f0)
def byEnd (ed : Int → Int) (xs : List S63) : List S63 := xs.mergeSort (fun a b => decide (ed a.f0 ≤ ed b.f0))
def reachF (ed : Int → Int) (xs : List S63) (rank : Int) : Int := walkR ed rank (byEnd ed xs) 0 0
def upTo (ed : Int → Int) (e : Int) : List S63 → Int
  | [] => 0
  | x :: xs => (if ed x.f0 ≤ e then x.f1 else 0) + upTo ed e xs
def tot : List S63 → Int
  | [] => 0
  | x :: xs => x.f1 + tot xs
theorem upTo_perm (ed : Int → Int) (e : Int) {xs ys : List S63} (h : xs.Perm ys) : upTo ed e xs = upTo ed e ys := by
  induction h with
  | nil => rfl
  | cons x _ ih => simp only [upTo, ih]
  | swap x y l => simp only [upTo]; omega
  | trans _ _ h1 h2 => exact h1.trans h2
theorem tot_perm {xs ys : List S63} (h : xs.Perm ys) : tot xs = tot ys := by
  induction h with
  | nil => rfl
  | cons x _ ih => simp only [tot, ih]
  | swap x y l => simp only [tot]; omega
  | trans _ _ h1 h2 => exact h1.trans h2
theorem upTo_nonneg (ed : Int → Int) (e : Int) : ∀ (xs : List S63), (∀ x ∈ xs, 0 ≤ x.f1) → 0 ≤ upTo ed e xs
  | [], _ => Int.le_refl _
  | x :: xs, h => by
    have h1 := upTo_nonneg ed e xs (fun y hy => h y (List.mem_cons_of_mem _ hy))
    have h2 := h x (List.mem_cons_self ..)
    simp only [upTo]
    split <;> omega
theorem upTo_zero (ed : Int → Int) (e : Int) : ∀ (xs : List S63), (∀ x ∈ xs, e < ed x.f0) → upTo ed e xs = 0
  | [], _ => rfl
  | x :: xs, h => by
    have h1 := upTo_zero ed e xs (fun y hy => h y (List.mem_cons_of_mem _ hy))
    have h2 := h x (List.mem_cons_self ..)
    simp only [upTo, h1]
    rw [if_neg (by omega)]
    rfl
theorem walkR_is (ed : Int → Int) (rank : Int) : ∀ (ys : List S63) (sum last : Int), ys.Pairwise (fun a b => ed a.f0 ≤ ed b.f0) → (∀ x ∈ ys, 0 ≤ x.f1) → sum < rank → rank ≤ sum + tot ys →
    rank ≤ sum + upTo ed (walkR ed rank ys sum last) ys ∧ ∀ e, e < walkR ed rank ys sum last → sum + upTo ed e ys < rank
  | [], sum, last, _, _, h1, h2 => by simp only [tot] at h2; omega
  | x :: xs, sum, last, hs, hp, h1, h2 => by
    obtain ⟨hx, hs'⟩ := List.pairwise_cons.1 hs
    have hp' : ∀ y ∈ xs, 0 ≤ y.f1 := fun y hy => hp y (List.mem_cons_of_mem _ hy)
    have hpx := hp x (List.mem_cons_self ..)
    simp only [walkR]
    by_cases hb : rank ≤ sum + x.f1
    · rw [if_pos hb]
      refine ⟨?_, fun e he => ?_⟩
      · have := upTo_nonneg ed (ed x.f0) xs hp'
        simp only [upTo, Int.le_refl, if_true]
        omega
      · have := upTo_zero ed e xs (fun y hy => by have := hx y hy; omega)
        simp only [upTo, this]
        rw [if_neg (by omega)]
        omega
    · rw [if_neg hb]
      simp only [tot] at h2
      obtain ⟨i1, i2⟩ := walkR_is ed rank xs (sum + x.f1) (ed x.f0) hs' hp' (by omega) (by omega)
      generalize walkR ed rank xs (sum + x.f1) (ed x.f0) = r at *
      have hle : ed x.f0 ≤ r := by
        rcases (show r < ed x.f0 ∨ ed x.f0 ≤ r by omega) with h | h
        · have := upTo_zero ed r xs (fun y hy => by have := hx y hy; omega)
          omega
        · exact h
      refine ⟨?_, fun e he => ?_⟩
      · simp only [upTo]
        rw [if_pos hle]
        omega
      · have := i2 e he
        simp only [upTo]
        split <;> omega
theorem byEnd_perm (ed : Int → Int) (xs : List S63) : (byEnd ed xs).Perm xs := List.mergeSort_perm _ _
theorem byEnd_sorted (ed : Int → Int) (xs : List S63) : (byEnd ed xs).Pairwise (fun a b => ed a.f0 ≤ ed b.f0) := by
  unfold byEnd
  refine (List.pairwise_mergeSort ?_ ?_ _).imp (fun h => by simpa using h)
  · intro a b c h1 h2; simp at *; omega
  · intro a b; simp; omega
/-- However ties were ordered. -/
theorem walkR_reachF (ed : Int → Int) (rank : Int) {ys xs : List S63} (hp : ys.Perm xs) (hs : ys.Pairwise (fun a b => ed a.f0 ≤ ed b.f0)) (h0 : ∀ x ∈ xs, 0 ≤ x.f1) (hr : 0 < rank) (ht : rank ≤ tot xs) : walkR ed rank ys 0 0 = reachF ed xs rank := by
  have a := walkR_is ed rank ys 0 0 hs (fun x hx => h0 x (hp.mem_iff.1 hx)) hr (by rw [tot_perm hp]; omega)
  have b := walkR_is ed rank (byEnd ed xs) 0 0 (byEnd_sorted ed xs) (fun x hx => h0 x ((byEnd_perm ed xs).mem_iff.1 hx)) hr (by rw [tot_perm (byEnd_perm ed xs)]; omega)
  rw [show reachF ed xs rank = walkR ed rank (byEnd ed xs) 0 0 from rfl]
  generalize walkR ed rank ys 0 0 = r1 at *
  generalize walkR ed rank (byEnd ed xs) 0 0 = r2 at *
  have e1 := fun e => upTo_perm ed e hp
  have e2 := fun e => upTo_perm ed e (byEnd_perm ed xs)
  simp only [e1] at a
  simp only [e2] at b
  rcases Int.lt_trichotomy r1 r2 with h | h | h
  · have := b.2 r1 h; omega
  · exact h
  · have := a.2 r2 h; omega
end Go.Proofs.Ytcgimjoebkeifaa.Quan

/- container/heap over *qdigest.greatest: each call makes of the heap's list what HeapPure's functions make of it. Conditions: the heap lies in one block, its variable in another; indices within the list. -/
namespace Go.Proofs.Ytcgimjoebkeifaa.QHeap
open Go.RowKit Go.Proofs.YtcgimjoebkeifaaW.PrintWords Go.Proofs.QHeap
set_option maxHeartbeats 400000

/-- What a call leaves alone: all but the blocks of S, and what is new. -/
structure Fr (S : Nat → Prop) (w w' : World) : Prop where
  os : w'.os = w.os
  tape : w'.tape = w.tape
  output : w'.output = w.output
  size : w.heap.size ≤ w'.heap.size
  block : ∀ k, k < w.heap.size → ¬ S k → w'.heap[k]? = w.heap[k]?
theorem Fr.refl (S : Nat → Prop) (w : World) : Fr S w w := ⟨rfl, rfl, rfl, Nat.le_refl _, fun _ _ _ => rfl⟩
theorem Fr.trans {S : Nat → Prop} {a b c : World} (h : Fr S a b) (k : Fr S b c) : Fr S a c :=
  ⟨k.os.trans h.os, k.tape.trans h.tape, k.output.trans h.output, Nat.le_trans h.size k.size, fun i hi hn => (k.block i (Nat.lt_of_lt_of_le hi h.size) hn).trans (h.block i hi hn)⟩
theorem Fr.mono {S S' : Nat → Prop} {a b : World} (h : Fr S a b) (hs : ∀ k, k < a.heap.size → S k → S' k) : Fr S' a b :=
  ⟨h.os, h.tape, h.output, h.size, fun i hi hn => h.block i hi (fun hk => hn (hs i hi hk))⟩
theorem Fr.drewN (S : Nat → Prop) (w : World) (n : Nat) : Fr S w (w.drewN n) := ⟨rfl, rfl, rfl, Nat.le_refl _, fun _ _ _ => rfl⟩
theorem Fr.below {S : Nat → Prop} {B : Nat} {a b : World} (h : Fr S a b) (hB : B ≤ a.heap.size) (hs : ∀ k, S k → B ≤ k) : Below B a b :=
  ⟨h.os, h.tape, h.output, h.size, fun k hk => h.block k (by omega) (fun hS => by have := hs k hS; omega)⟩

theorem own_cell {w : World} {B r n cap : Nat} {L : List Int} (h : w.ownsRow B 3 1 (.slice (some ⟨r, 0, none⟩) n cap) n (nums .i64 L)) (j : Nat) (hj : j < n) : w.cell? ⟨r, j, none⟩ = some (.int .i64 (L.getD j 0)) := by
  rw [h.cellAt j (by omega)]
  have hl : L.length = n := by have := h.1; simpa [nums] using this
  simp [nums, List.getElem?_eq_getElem (show j < L.length by omega), List.getD_eq_getElem?_getD]

/-- The heap's variable (block g) holds the slice, its row is block r: the list L. -/
structure Hp (w : World) (B g r cap : Nat) (L : List Int) : Prop where
  ge : B ≤ g
  box : w.heap[g]? = some (.cells #[.slice (some ⟨r, 0, none⟩) L.length cap] 68 (0, 0))
  row : w.ownsRow B 3 1 (.slice (some ⟨r, 0, none⟩) L.length cap) L.length (nums .i64 L)
section
variable {w w' : World} {B g r cap : Nat} {L : List Int}
theorem Hp.cell (h : Hp w B g r cap L) : w.cell? ⟨g, 0, none⟩ = some (.slice (some ⟨r, 0, none⟩) L.length cap) := by simp [World.cell?, h.box]
theorem Hp.free (h : Hp w B g r cap L) : w.frozen? ⟨g, 0, none⟩ = false := by simp [World.frozen?, h.box]
theorem Hp.at_ (h : Hp w B g r cap L) (j : Nat) (hj : j < L.length) : w.cell? ⟨r, j, none⟩ = some (.int .i64 (L.getD j 0)) := own_cell h.row j hj
theorem Hp.ne (h : Hp w B g r cap L) : g ≠ r := by
  rintro rfl
  rcases h.row.2 with ⟨h1, _⟩ | ⟨g', cap', cur, h1, _, h2, _⟩
  · simp at h1
  · simp at h1
    obtain ⟨rfl, _⟩ := h1
    rw [h.box] at h2
    simp at h2
theorem Hp.row_ge (h : Hp w B g r cap L) : B ≤ r ∧ r < w.heap.size := h.row.lt r (by simp [Value.ownBlock])
theorem Hp.lt (h : Hp w B g r cap L) : g < w.heap.size := (Array.getElem?_eq_some_iff.1 h.box).1
theorem Hp.drewN (h : Hp w B g r cap L) (n : Nat) : Hp (w.drewN n) B g r cap L := ⟨h.ge, h.box, h.row⟩
theorem Hp.cap_le (h : Hp w B g r cap L) : L.length ≤ cap ∧ cap ≤ maxLen := by
  rcases h.row.2 with ⟨h1, _⟩ | ⟨g', cap', cur, h1, _, h2, h3, h4, _⟩
  · simp at h1
  · simp at h1
    obtain ⟨_, rfl⟩ := h1
    exact ⟨h3, h4⟩
end

set_option maxRecDepth 100000 in
theorem Less_walk (r n cap : Nat) (x y : Int) (i j : Nat) (hi : i < n) (hj : j < n) (w : World) (hci : w.cell? ⟨r, i, none⟩ = some (.int .i64 x)) (hcj : w.cell? ⟨r, j, none⟩ = some (.int .i64 y)) :
    Calls Try.prog 138 #[.slice (some ⟨r, 0, none⟩) n cap, .int .i64 i, .int .i64 j] w fun e w' => e = .returned (.bool (decide (y < x))) ∧ ∃ m, w' = w.drewN m := by
  have hi' : (i : Int) < n := by omega
  have hj' : (j : Int) < n := by omega
  have hi0 : (0 : Int) ≤ i := by omega
  have hj0 : (0 : Int) ≤ j := by omega
  go_enter Try.func138, Try.ntmps138
  go_wp2
  go_quiet (fail)
  go_wp2
  go_ret
  exact ⟨rfl, _, rfl⟩

theorem cell?_setCell_some {w : World} {p q : Addr} {x v : Value} (h : w.cell? q = some v) : ∃ v', (w.setCell p x).cell? q = some v' := by
  by_cases e : p = q
  · subst e; exact ⟨x, World.cell?_setCell_same w p x h⟩
  · exact ⟨v, (World.cell?_setCell_other w p q x e).trans h⟩
set_option maxRecDepth 100000 in
theorem Swap_walk (r n cap i j : Nat) (x y : Int) (hi : i < n) (hj : j < n) (w : World) (hx : w.cell? ⟨r, i, none⟩ = some (.int .i64 x)) (hy : w.cell? ⟨r, j, none⟩ = some (.int .i64 y)) (fx : w.frozen? ⟨r, i, none⟩ = false) (fy : w.frozen? ⟨r, j, none⟩ = false) :
    Calls Try.prog 139 #[.slice (some ⟨r, 0, none⟩) n cap, .int .i64 i, .int .i64 j] w fun e w' => e = .returned (.tuple #[]) ∧ w'.Alike ((w.setCell ⟨r, i, none⟩ (.int .i64 y)).setCell ⟨r, j, none⟩ (.int .i64 x)) ∧ w'.tape = w.tape := by
  obtain ⟨v', hy'⟩ := cell?_setCell_some (w := w) (p := ⟨r, i, none⟩) (x := .int .i64 y) (q := ⟨r, j, none⟩) (v := .int .i64 y) (by go_simp)
  have hi' : (i : Int) < n := by omega
  have hj' : (j : Int) < n := by omega
  have hi0 : (0 : Int) ≤ i := by omega
  have hj0 : (0 : Int) ≤ j := by omega
  go_enter Try.func139, Try.ntmps139
  go_wp2
  go_region
  all_goals (go_end0; exact ⟨rfl, ⟨rfl, rfl, rfl⟩, rfl⟩)

section
variable {w : World} {B g r cap : Nat} {L : List Int}
theorem Less_calls (h : Hp w B g r cap L) (i j : Nat) (hi : i < L.length) (hj : j < L.length) :
    Calls Try.prog 138 #[.slice (some ⟨r, 0, none⟩) L.length cap, .int .i64 i, .int .i64 j] w fun e w' => e = .returned (.bool (decide (L.getD j 0 < L.getD i 0))) ∧ ∃ m, w' = w.drewN m :=
  Less_walk r L.length cap _ _ i j hi hj w (h.at_ i hi) (h.at_ j hj)
theorem alike_heap {w w1 : World} (h : w.Alike w1) (k : Nat) : w.heap[k]? = w1.heap[k]? := by rw [h.1]
theorem Swap_calls (h : Hp w B g r cap L) (i j : Nat) (hi : i < L.length) (hj : j < L.length) :
    Calls Try.prog 139 #[.slice (some ⟨r, 0, none⟩) L.length cap, .int .i64 i, .int .i64 j] w fun e w' => e = .returned (.tuple #[]) ∧ Hp w' B g r cap (swapL L i j) ∧ Fr (fun k => k = r) w w' := by
  refine (Swap_walk r L.length cap i j _ _ hi hj w (h.at_ i hi) (h.at_ j hj) (h.row.frozenAt i) (h.row.frozenAt j)).mono ?_
  rintro e w' ⟨rfl, ha, ht⟩
  refine ⟨rfl, ⟨h.ge, ?_, ?_⟩, ⟨?_, ht, ?_, ?_, ?_⟩⟩
  · rw [alike_heap ha, Below.heap_setCell _ _ _ _ (by simpa using h.ne), Below.heap_setCell _ _ _ _ (by simpa using h.ne), swapL_length]
    exact h.box
  · rw [swapL_length]
    have h1 := h.row.stored i (.int .i64 (L.getD j 0))
    have h2 := h1.1.stored j (.int .i64 (L.getD i 0))
    have e1 : nums .i64 (swapL L i j) = ((nums .i64 L).set i (.int .i64 (L.getD j 0))).set j (.int .i64 (L.getD i 0)) := by
      simp [nums, swapL, List.map_set]
    rw [e1]
    exact own_move h2.1 (fun k _ => alike_heap ha k)
  · rw [ha.2.1]; rfl
  · rw [ha.2.2]; rfl
  · rw [ha.1]; simp [World.setCell]
  · intro k hk hn
    rw [alike_heap ha, Below.heap_setCell _ _ _ _ (by simpa using hn), Below.heap_setCell _ _ _ _ (by simpa using hn)]
end

theorem meth_Push (g : Nat) (w : World) : (method 279 70 (.pointer (some ⟨g, 0, none⟩)) "Push").run Try.prog w = .ok (141, .pointer (some ⟨g, 0, none⟩)) w := by kernel_rfl
theorem meth_Pop (g : Nat) (w : World) : (method 279 70 (.pointer (some ⟨g, 0, none⟩)) "Pop").run Try.prog w = .ok (140, .pointer (some ⟨g, 0, none⟩)) w := by kernel_rfl
theorem meth_val (g : Nat) (w : World) (name : String) (f : Nat) (h : (method 279 70 (.pointer (some ⟨g, 0, none⟩)) name).run Try.prog w = (loadVar 68 ⟨g, 0, none⟩ >>= fun v => pure (f, v)).run Try.prog w) (v : Value) (hc : w.cell? ⟨g, 0, none⟩ = some v) : (method 279 70 (.pointer (some ⟨g, 0, none⟩)) name).run Try.prog w = .ok (f, v) w := by
  rw [h]
  have hu := Try.underlying68
  go_simp
theorem meth_Len (g : Nat) (w : World) (v : Value) (hc : w.cell? ⟨g, 0, none⟩ = some v) : (method 279 70 (.pointer (some ⟨g, 0, none⟩)) "Len").run Try.prog w = .ok (33, v) w :=
  meth_val g w "Len" 33 (by kernel_rfl) v hc
theorem meth_Less (g : Nat) (w : World) (v : Value) (hc : w.cell? ⟨g, 0, none⟩ = some v) : (method 279 70 (.pointer (some ⟨g, 0, none⟩)) "Less").run Try.prog w = .ok (138, v) w :=
  meth_val g w "Less" 138 (by kernel_rfl) v hc
theorem meth_Swap (g : Nat) (w : World) (v : Value) (hc : w.cell? ⟨g, 0, none⟩ = some v) : (method 279 70 (.pointer (some ⟨g, 0, none⟩)) "Swap").run Try.prog w = .ok (139, v) w :=
  meth_val g w "Swap" 139 (by kernel_rfl) v hc
end Go.Proofs.Ytcgimjoebkeifaa.QHeap

/- qdigest.ordered: the elements in the order of a comparison: a permutation of the list, ascending; what was there stays. Conditions: the comparison is a strict weak order, and its calls lay blocks at most. -/
namespace Go.Proofs.Ytcgimjoebkeifaa.Ord
open Go.RowKit Go.Shelf Go.Lib Go.Sort
set_option maxHeartbeats 1000000
section
variable {α : Type} [Inhabited α]
theorem flatMap_get (enc : α → List Value) (k : Nat) (hk : ∀ x, (enc x).length = k) (h0 : 0 < k) : ∀ (xs : List α) (j : Nat), j < xs.length * k → (xs.flatMap enc)[j]? = some ((enc xs.toArray[j / k]!)[j % k]!)
  | [], j, h => by simp at h
  | x :: xs, j, h => by
    rw [List.flatMap_cons]
    by_cases hj : j < k
    · rw [List.getElem?_append_left (by rw [hk]; exact hj), Nat.div_eq_of_lt hj, Nat.mod_eq_of_lt hj]
      have hl : j < (enc x).length := by rw [hk]; exact hj
      simp [hl]
    · rw [List.getElem?_append_right (by rw [hk]; omega), hk]
      have h1 : (x :: xs).length * k = xs.length * k + k := by simp [Nat.add_mul]
      have ih := flatMap_get enc k hk h0 xs (j - k) (by omega)
      rw [ih]
      obtain ⟨d, rfl⟩ : ∃ d, j = d + k := ⟨j - k, by omega⟩
      simp only [Nat.add_sub_cancel, Nat.add_div_right _ h0, Nat.add_mod_right]
      simp
omit [Inhabited α] in
theorem flatMap_len (enc : α → List Value) (k : Nat) (hk : ∀ x, (enc x).length = k) (xs : List α) : (xs.flatMap enc).length = xs.length * k := by
  induction xs with
  | nil => simp
  | cons x xs ih => simp [List.flatMap_cons, ih, hk, Nat.add_mul]; omega
theorem flatK_toList (enc : α → List Value) (k : Nat) (hk : ∀ x, (enc x).length = k) (h0 : 0 < k) (d : Array α) : (flatK enc k d).toList = d.toList.flatMap enc := by
  apply List.ext_getElem?
  intro j
  by_cases hj : j < d.size * k
  · rw [flatMap_get enc k hk h0 d.toList j (by simpa using hj)]
    simp [flatK, hj]
  · rw [List.getElem?_eq_none (by simp; omega), List.getElem?_eq_none (by rw [flatMap_len enc k hk]; simp; omega)]
/-- DOWN. -/
theorem holdsK_of_own {enc : α → List Value} {k : Nat} (hk : ∀ x, (enc x).length = k) (h0 : 0 < k) {w : World} {base : Nat} {e : TypeId} {v : Value} {n : Nat} {xs : List α} (h : w.ownsRow base e k v n (xs.flatMap enc)) (hv : v ≠ .slice none 0 0) :
    ∃ g cap, v = .slice (some ⟨g, 0, none⟩) n cap ∧ base ≤ g ∧ g < w.heap.size ∧ xs.length = n ∧ n ≤ maxLen ∧ HoldsK enc k w g 0 xs.toArray := by
  have hl : xs.length = n := by
    have h1 := h.1
    rw [flatMap_len enc k hk] at h1
    exact Nat.eq_of_mul_eq_mul_right h0 h1
  rcases h.2 with ⟨e0, _⟩ | ⟨g, cap, cur, rfl, hb, hg, hn, hm, hs, ht⟩
  · exact absurd e0 hv
  · refine ⟨g, cap, rfl, hb, (Array.getElem?_eq_some_iff.1 hg).1, hl, by omega, fun j hj => ?_⟩
    have hj' : j < n * k := by simpa [hl] using hj
    refine ⟨?_, by simp [World.frozen?, hg]⟩
    have e1 : (cur.toList.take (n * k))[j]? = (xs.flatMap enc)[j]? := by rw [ht]
    rw [List.getElem?_take, if_pos hj', Array.getElem?_toList, flatMap_get enc k hk h0 xs j (by rw [hl]; exact hj')] at e1
    simp only [World.cell?, hg, Nat.zero_add]
    simp only [Option.isSome_none, Bool.false_eq_true, if_false]
    rw [e1, get_flatK _ _ _ _ (by simpa [hl] using hj')]
    rfl
/-- UP. -/
theorem own_putRowK {enc : α → List Value} {k : Nat} (hk : ∀ x, (enc x).length = k) (h0 : 0 < k) {w : World} {base : Nat} {e : TypeId} {g n cap q : Nat} {xs : List α} {d : Array α} (h : w.ownsRow base e k (.slice (some ⟨g, 0, none⟩) n cap) n (xs.flatMap enc)) (hd : d.size = n) :
    (putRowK enc k (Sort.ahead w q) g 0 d).ownsRow base e k (.slice (some ⟨g, 0, none⟩) n cap) n (d.toList.flatMap enc) := by
  have hfl : (flatK enc k d).size = n * k := by rw [size_flatK, hd]
  rcases h.2 with ⟨e0, _⟩ | ⟨g', cap', cur, e0, hb, hg, hn, hm, hs, ht⟩
  · cases e0
  · injection e0 with e1 _ e3
    injection e1 with e1
    injection e1 with e1
    subst e1; subst e3
    have hnc : n * k ≤ cur.size := by rw [hs]; exact Nat.mul_le_mul_right _ hn
    refine ⟨by rw [flatMap_len enc k hk]; simp [hd], .inr ⟨g, cap, putCells id 0 (flatK enc k d) cur, rfl, hb, ?_, hn, hm, by simpa [putCells] using hs, ?_⟩⟩
    · simp [putRowK, putRow, mapBlock, Sort.ahead, Array.getElem?_modify, hg, onCells]
    · rw [← flatK_toList enc k hk h0 d]
      apply List.ext_getElem?
      intro j
      rw [List.getElem?_take, Array.getElem?_toList, Array.getElem?_toList]
      by_cases hj : j < n * k
      · have hjc : j < cur.size := by omega
        simp only [if_pos hj, putCells, Array.getElem?_mapIdx, Array.getElem?_eq_getElem hjc, Option.map_some]
        rw [if_pos (by omega), Array.getElem?_eq_getElem (by omega)]
        simp only [Nat.sub_zero, id]
        rw [getElem!_pos _ _ (by omega)]
      · rw [if_neg hj, Array.getElem?_eq_none (by omega)]
theorem own_grow {w : World} {base : Nat} {e : TypeId} {k : Nat} {v : Value} {n : Nat} {xs : List Value} (h : w.ownsRow base e k v n xs) (os : Array Obj) : (grow w os).ownsRow base e k v n xs := by
  refine ⟨h.1, ?_⟩
  rcases h.2 with h2 | ⟨g, cap, cur, rfl, hb, hg, r⟩
  · exact .inl h2
  · refine .inr ⟨g, cap, cur, rfl, hb, ?_, r⟩
    have hlt := (Array.getElem?_eq_some_iff.1 hg).1
    simp only [grow]
    rw [Array.getElem?_append_left hlt]
    exact hg
theorem below_grow {B : Nat} {w0 w : World} (h : Below B w0 w) (hB : B ≤ w.heap.size) (os : Array Obj) : Below B w0 (grow w os) :=
  ⟨h.os, h.tape, h.output, by simp [grow]; have := h.size; omega, fun k hk => by
    rw [← h.block k hk]
    simp only [grow]
    rw [Array.getElem?_append_left (by omega)]⟩
/-- What 'ordered' answers: an ascending permutation, in a row of its own. -/
def OrdPost (enc : α → List Value) (cf : α → α → Int) (xs : List α) (n : Nat) (w : World) (e : Ending) (w' : World) : Prop :=
  ∃ (v' : Value) (ys : List α), e = .returned v' ∧ ys.Perm xs ∧ SortedIn (ltOf cf) 0 n ys.toArray ∧ w'.ownsRow w.heap.size 63 2 v' n (ys.flatMap enc) ∧ Below w.heap.size w w'
theorem info63 : (Try.prog.info? 63).map (fun i => (i.zero, i.size, i.bytes)) = some (some (.agg #[.int .i64 0, .int .i64 0]), 2, 16) := by kernel_rfl
set_option maxRecDepth 100000 in
theorem ordered_calls (enc : α → List Value) (hk : ∀ x, (enc x).length = 2) (h1 : ∀ x, ∀ v ∈ enc x, v.oneCell' = true) (cf : α → α → Int) (hO : SWO (ltOf cf)) (g : Nat) (cb : Array Value)
    (eg : ∀ args w, (callFunc g args).run Try.prog w = .ok (.enter g args) w) (b off n c : Nat) (xs : List α) (hn : xs.length = n) (hbig : n ≤ 1000000) (w : World)
    (hc : ∀ j u, (xs.flatMap enc)[j]? = some u → w.cell? ⟨b, off + j, none⟩ = some u)
    (hcmp : ∀ W, Below w.heap.size w W → ∀ x y, Calls Try.prog g (#[.agg (enc x).toArray, .agg (enc y).toArray] ++ cb) W fun e w' => e = .returned (.int .i64 (cf x y)) ∧ ∃ q os', w' = grow (W.drewN q) os') :
    Calls Try.prog 36 #[.slice (some ⟨b, off, none⟩) n c, .func (.func g) #[] cb] w (OrdPost enc cf xs n w) := by
  obtain ⟨i0, hi, hz0, hz1, hz2⟩ := info_parts info63
  have hfl := flatMap_len enc 2 hk xs
  have hcl := AnyE.slices_Clone Try.cloneDN i0 (.agg #[.int .i64 0, .int .i64 0]) 2 16 hi hz0 hz1 hz2 rfl (by decide) Try.sizeOf63 b off n c (xs.flatMap enc) w (by rw [hfl, hn]) (by unfold maxLen; omega) (by omega) hc (fun u hu => by
    obtain ⟨x, _, hx⟩ := List.mem_flatMap.1 hu
    exact h1 x u hx)
  change Calls Try.prog 61 _ _ _ at hcl
  have hsf : ∀ (blk cap : Nat) (W : World), W.ownsRow w.heap.size 63 2 (.slice (some ⟨blk, 0, none⟩) n cap) n (xs.flatMap enc) → HoldsK enc 2 W blk 0 xs.toArray → w.heap.size ≤ blk → blk < W.heap.size → Below w.heap.size w W →
      Calls Try.prog 62 #[.slice (some ⟨blk, 0, none⟩) n cap, .func (.func g) #[] cb] W fun e w' => e = .returned (.tuple #[]) ∧ ∃ ys : List α, ys.Perm xs ∧ SortedIn (ltOf cf) 0 n ys.toArray ∧ w'.ownsRow w.heap.size 63 2 (.slice (some ⟨blk, 0, none⟩) n cap) n (ys.flatMap enc) ∧ Below w.heap.size w w' := by
    intro blk cap W hown hH hge hlt hB
    have hcon := AnyQ.slices_SortFunc Try.sortDN 2 Try.isAgg63 Try.sizeOf63 enc hk h1 cf hO g cb blk 0 cap xs.toArray W eg (fun m os dk hs x y => ?_) hH hlt (by simp; omega)
    · change Calls Try.prog 62 _ _ _ at hcon
      rw [show xs.toArray.size = n by simpa using hn] at hcon
      refine hcon.mono ?_
      rintro e w' ⟨rfl, d', m, os, hp, hs, rfl⟩
      have hds : d'.size = n := by have := hp.1; simp at this; omega
      refine ⟨rfl, d'.toList, ?_, by simpa using hs, ?_, ?_⟩
      · have := hp.2.2
        have e1 : d'.extract 0 n = d' := by rw [← hds]; simp
        have e2 : xs.toArray.extract 0 n = xs.toArray := by rw [← hn]; simp
        rw [e1, e2] at this
        simpa using this
      · unfold sortWorldK
        exact own_grow (own_putRowK hk (by decide) hown hds) os
      · unfold sortWorldK
        exact below_grow (below_putRow (enc := id) hB hge) (by simp [putRow, mapBlock, Sort.ahead]; have := hB.size; omega) os
    · exact hcmp _ (by
        unfold sortWorldK
        exact below_grow (below_putRow (enc := id) hB hge) (by simp [putRow, mapBlock, Sort.ahead]; have := hB.size; omega) os) x y
  have HC := Lib.hid hc
  have HN := Lib.hid hn
  have HFL := Lib.hid hfl
  have HCMP := Lib.hid hcmp
  clear hc hn hfl hcmp hz0 hz1 hz2 hi
  go_enter Try.func36, Try.ntmps36
  go_wp2_with fail
  refine hcl.mono ?_
  rintro e w1 ⟨v', rfl, hown, hne, hB⟩
  obtain ⟨blk, cap, rfl, hge, hlt, _, _, hH⟩ := holdsK_of_own hk (by decide) hown hne
  have hs2 := hsf blk cap w1 hown hH hge hlt hB
  clear hsf hcl
  go_wp2_with fail
  refine hs2.mono ?_
  rintro e w2 ⟨rfl, ys, hp, hs, hown2, hB2⟩
  go_wp2_with fail
  go_ret
  exact ⟨_, ys, rfl, hp, hs, hown2, hB2⟩
end
end Go.Proofs.Ytcgimjoebkeifaa.Ord
