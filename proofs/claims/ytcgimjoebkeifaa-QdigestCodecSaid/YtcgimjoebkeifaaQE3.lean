/- Parts of one proof, one behind the other (put together by wip/merge2.py out of: PQxf9). No conditions beyond each theorem's own. -/
import Derived.Test.YtcgimjoebkeifaaPQx0
/- Written by a program of this session (wip/patch_print.py): Go functions as Lean functions, each with a proof that the call does what its function says. No conditions beyond each theorem's own. -/
namespace Go.Proofs.Ytcgimjoebkeifaa.PQ
open Go.RowKit Go.Proofs.YtcgimjoebkeifaaW.PrintWords Go.Proofs.YtcgimjoebkeifaaW.PrintLast Go.Proofs.YtcgimjoebkeifaaW.PrintMore
attribute [local go_sem] max2_int min2_int max_two min_two max_three min_three max_four min_four   -- for this text's walks alone
set_option linter.unusedVariables false
set_option linter.unusedSimpArgs false

/-! ### lookoutref31_Check: function 9 -/
mutual
def lookoutref31_Check.j0 : Nat → Bool → Int → Int → Int → List (S63) → Option (Int)
 | 0, _, _, _, _, _ => none
 | k + 1, x39, x103000, x103001, x103002, x103003 => if x39 = true then (some 1) else (lookoutref31_Check.l0 k 0 0 x103000 x103001 x103002 x103003)
def lookoutref31_Check.l0 : Nat → Int → Int → Int → Int → Int → List (S63) → Option (Int)
 | 0, _, _, _, _, _, _ => none
 | k + 1, x3, x4, x103000, x103001, x103002, x103003 => if x4 < (x103003.length : Int) then (if 0 ≤ x4 then (if ((rd_T63 x103003 x4).f0) < 1 then (lookoutref31_Check.j2 k x3 x4 true x103000 x103001 x103002 x103003 ((rd_T63 x103003 x4).f0) ((rd_T63 x103003 x4).f1)) else (if 0 ≤ x103000 then (if ((rd_T63 x103003 x4).f0) ≥ (shl .i64 2 x103000) then (lookoutref31_Check.j2 k x3 x4 true x103000 x103001 x103002 x103003 ((rd_T63 x103003 x4).f0) ((rd_T63 x103003 x4).f1)) else (if x4 > 0 then (if 0 ≤ (wrap64 (x4 - 1)) then (if (wrap64 (x4 - 1)) < (x103003.length : Int) then (if ((rd_T63 x103003 (wrap64 (x4 - 1))).f0) ≥ ((rd_T63 x103003 x4).f0) then (lookoutref31_Check.j2 k x3 x4 true x103000 x103001 x103002 x103003 ((rd_T63 x103003 x4).f0) ((rd_T63 x103003 x4).f1)) else (if ((rd_T63 x103003 x4).f1) < 1 then (lookoutref31_Check.j2 k x3 x4 true x103000 x103001 x103002 x103003 ((rd_T63 x103003 x4).f0) ((rd_T63 x103003 x4).f1)) else (if ((rd_T63 x103003 x4).f1) > x103002 then (lookoutref31_Check.j2 k x3 x4 true x103000 x103001 x103002 x103003 ((rd_T63 x103003 x4).f0) ((rd_T63 x103003 x4).f1)) else (if ((rd_T63 x103003 x4).f0) < (shl .i64 1 x103000) then (if x103001 = 0 then (none) else (lookoutref31_Check.j2 k x3 x4 (decide (((rd_T63 x103003 x4).f1) > (wrap64 (Int.tdiv x103002 x103001)))) x103000 x103001 x103002 x103003 ((rd_T63 x103003 x4).f0) ((rd_T63 x103003 x4).f1))) else (lookoutref31_Check.j2 k x3 x4 false x103000 x103001 x103002 x103003 ((rd_T63 x103003 x4).f0) ((rd_T63 x103003 x4).f1)))))) else (none)) else (none)) else (if ((rd_T63 x103003 x4).f1) < 1 then (lookoutref31_Check.j2 k x3 x4 true x103000 x103001 x103002 x103003 ((rd_T63 x103003 x4).f0) ((rd_T63 x103003 x4).f1)) else (if ((rd_T63 x103003 x4).f1) > x103002 then (lookoutref31_Check.j2 k x3 x4 true x103000 x103001 x103002 x103003 ((rd_T63 x103003 x4).f0) ((rd_T63 x103003 x4).f1)) else (if ((rd_T63 x103003 x4).f0) < (shl .i64 1 x103000) then (if x103001 = 0 then (none) else (lookoutref31_Check.j2 k x3 x4 (decide (((rd_T63 x103003 x4).f1) > (wrap64 (Int.tdiv x103002 x103001)))) x103000 x103001 x103002 x103003 ((rd_T63 x103003 x4).f0) ((rd_T63 x103003 x4).f1))) else (lookoutref31_Check.j2 k x3 x4 false x103000 x103001 x103002 x103003 ((rd_T63 x103003 x4).f0) ((rd_T63 x103003 x4).f1))))))) else (none))) else (none)) else (if x3 = x103002 then (some 0) else (some 1))
def lookoutref31_Check.j2 : Nat → Int → Int → Bool → Int → Int → Int → List (S63) → Int → Int → Option (Int)
 | 0, _, _, _, _, _, _, _, _, _ => none
 | k + 1, x3, x4, x108, x103000, x103001, x103002, x103003, x105000, x105001 => if x108 = true then (some 1) else (lookoutref31_Check.l0 k (wrap64 (x3 + x105001)) (wrap64 (x4 + 1)) x103000 x103001 x103002 x103003)
end
def lookoutref31_Check.f (k : Nat) (a0_0 : Int) (a0_1 : Int) (a0_2 : Int) (l0_3 : List (S63)) : Option (Int) := if a0_0 < 1 then (lookoutref31_Check.j0 k true a0_0 a0_1 a0_2 l0_3) else (if a0_0 > 20 then (lookoutref31_Check.j0 k true a0_0 a0_1 a0_2 l0_3) else (if a0_1 < 1 then (lookoutref31_Check.j0 k true a0_0 a0_1 a0_2 l0_3) else (if a0_1 > 10000 then (lookoutref31_Check.j0 k true a0_0 a0_1 a0_2 l0_3) else (if a0_2 < 0 then (lookoutref31_Check.j0 k true a0_0 a0_1 a0_2 l0_3) else (if a0_2 > 1099511627776 then (lookoutref31_Check.j0 k true a0_0 a0_1 a0_2 l0_3) else (lookoutref31_Check.j0 k (decide ((l0_3.length : Int) > 2000)) a0_0 a0_1 a0_2 l0_3))))))
theorem lookoutref31_Check.mono_l : ∀ k, (∀ y0 y1 y2 y3 y4, LeO (lookoutref31_Check.j0 k y0 y1 y2 y3 y4) (lookoutref31_Check.j0 (k + 1) y0 y1 y2 y3 y4)) ∧ (∀ y0 y1 y2 y3 y4 y5, LeO (lookoutref31_Check.l0 k y0 y1 y2 y3 y4 y5) (lookoutref31_Check.l0 (k + 1) y0 y1 y2 y3 y4 y5)) ∧ (∀ y0 y1 y2 y3 y4 y5 y6 y7 y8, LeO (lookoutref31_Check.j2 k y0 y1 y2 y3 y4 y5 y6 y7 y8) (lookoutref31_Check.j2 (k + 1) y0 y1 y2 y3 y4 y5 y6 y7 y8))
 | 0 => ⟨fun _ _ _ _ _ r h => by simp [lookoutref31_Check.j0] at h, fun _ _ _ _ _ _ r h => by simp [lookoutref31_Check.l0] at h, fun _ _ _ _ _ _ _ _ _ r h => by simp [lookoutref31_Check.j2] at h⟩
 | k + 1 => by
  obtain ⟨ih0, ih1, ih2⟩ := lookoutref31_Check.mono_l k
  refine ⟨?_, ?_, ?_⟩
  ·intro y0 y1 y2 y3 y4
   unfold lookoutref31_Check.j0
   repeat' first
   | (with_reducible exact ih0 _ _ _ _ _)
   | (with_reducible exact ih1 _ _ _ _ _ _)
   | (with_reducible exact ih2 _ _ _ _ _ _ _ _ _)
   | (with_reducible exact LeO.refl _)
   | (with_reducible exact LeO.none _)
   | (with_reducible refine LeO.ite ?_ ?_)
   | (with_reducible refine LeO.bind ?_ (fun _ => ?_))
   | exact ih0 _ _ _ _ _
   | exact ih1 _ _ _ _ _ _
   | exact ih2 _ _ _ _ _ _ _ _ _
   | exact LeO.none _
   | refine LeO.ite ?_ ?_
   | refine LeO.bind ?_ (fun _ => ?_)
  ·intro y0 y1 y2 y3 y4 y5
   unfold lookoutref31_Check.l0
   repeat' first
   | (with_reducible exact ih0 _ _ _ _ _)
   | (with_reducible exact ih1 _ _ _ _ _ _)
   | (with_reducible exact ih2 _ _ _ _ _ _ _ _ _)
   | (with_reducible exact LeO.refl _)
   | (with_reducible exact LeO.none _)
   | (with_reducible refine LeO.ite ?_ ?_)
   | (with_reducible refine LeO.bind ?_ (fun _ => ?_))
   | exact ih0 _ _ _ _ _
   | exact ih1 _ _ _ _ _ _
   | exact ih2 _ _ _ _ _ _ _ _ _
   | exact LeO.none _
   | refine LeO.ite ?_ ?_
   | refine LeO.bind ?_ (fun _ => ?_)
  ·intro y0 y1 y2 y3 y4 y5 y6 y7 y8
   unfold lookoutref31_Check.j2
   repeat' first
   | (with_reducible exact ih0 _ _ _ _ _)
   | (with_reducible exact ih1 _ _ _ _ _ _)
   | (with_reducible exact ih2 _ _ _ _ _ _ _ _ _)
   | (with_reducible exact LeO.refl _)
   | (with_reducible exact LeO.none _)
   | (with_reducible refine LeO.ite ?_ ?_)
   | (with_reducible refine LeO.bind ?_ (fun _ => ?_))
   | exact ih0 _ _ _ _ _
   | exact ih1 _ _ _ _ _ _
   | exact ih2 _ _ _ _ _ _ _ _ _
   | exact LeO.none _
   | refine LeO.ite ?_ ?_
   | refine LeO.bind ?_ (fun _ => ?_)
theorem lookoutref31_Check.mono : ∀ a0 a1 a2 a3 k, LeO (lookoutref31_Check.f k a0 a1 a2 a3) (lookoutref31_Check.f (k + 1) a0 a1 a2 a3) := by
 intro a0 a1 a2 a3 k
 obtain ⟨ih0, ih1, ih2⟩ := lookoutref31_Check.mono_l k
 unfold lookoutref31_Check.f
 repeat' first
   | (with_reducible exact ih0 _ _ _ _ _)
   | (with_reducible exact ih1 _ _ _ _ _ _)
   | (with_reducible exact ih2 _ _ _ _ _ _ _ _ _)
   | (with_reducible exact LeO.refl _)
   | (with_reducible exact LeO.none _)
   | (with_reducible refine LeO.ite ?_ ?_)
   | (with_reducible refine LeO.bind ?_ (fun _ => ?_))
   | exact ih0 _ _ _ _ _
   | exact ih1 _ _ _ _ _ _
   | exact ih2 _ _ _ _ _ _ _ _ _
   | exact LeO.none _
   | refine LeO.ite ?_ ?_
   | refine LeO.bind ?_ (fun _ => ?_)
set_option maxHeartbeats 8000000 in
set_option maxRecDepth 100000 in
theorem lookoutref31_Check.calls (k : Nat) (a0_0 : Int) (a0_1 : Int) (a0_2 : Int) (A0_3 : Option Addr) (c0_3 : Nat) (l0_3 : List (S63)) (r : Int) (w : World) (hr0_3 : Kd.C k63 w A0_3 l0_3.length l0_3) (hc0_3 : l0_3.length ≤ c0_3) (h : lookoutref31_Check.f k a0_0 a0_1 a0_2 l0_3 = some r) :
  Calls Try.prog 9 #[.agg #[.int .i64 a0_0, .int .i64 a0_1, .int .i64 a0_2, .slice A0_3 l0_3.length c0_3]] w fun e w' => e = .returned (.int .i64 r) ∧ Below w.heap.size w w' := by
 have hu24 := Try.underlying24
 have hu63 := Try.underlying63
 have HR0_3 := Aside0.mk hr0_3
 have HC0_3 := Aside0.mk hc0_3
 clear hr0_3 hc0_3
 have HB := Aside0.mk (Below.refl w.heap.size w)
 have H : (if a0_0 < 1 then (lookoutref31_Check.j0 k true a0_0 a0_1 a0_2 l0_3) else (if a0_0 > 20 then (lookoutref31_Check.j0 k true a0_0 a0_1 a0_2 l0_3) else (if a0_1 < 1 then (lookoutref31_Check.j0 k true a0_0 a0_1 a0_2 l0_3) else (if a0_1 > 10000 then (lookoutref31_Check.j0 k true a0_0 a0_1 a0_2 l0_3) else (if a0_2 < 0 then (lookoutref31_Check.j0 k true a0_0 a0_1 a0_2 l0_3) else (if a0_2 > 1099511627776 then (lookoutref31_Check.j0 k true a0_0 a0_1 a0_2 l0_3) else (lookoutref31_Check.j0 k (decide ((l0_3.length : Int) > 2000)) a0_0 a0_1 a0_2 l0_3))))))) = some r := h
 clear h
 have HC2 := Aside0.mk H
 clear H
 go_enter Try.func9, Try.ntmps9
 go_upto_region 1 with (first | ((with_reducible refine gate_dst (N := 1) rfl ?_); (try (refine gate_guard (by rfl) ?_; dsimp only)); refine box_event ?hg (N := 1) ?hd (cs := #[.int .i64 a0_0, .int .i64 a0_1, .int .i64 a0_2, .slice A0_3 l0_3.length c0_3]) (t := 24) ?hr ?_; (case hd => rfl); (case hg => rfl); (case hr => first | (go_simp; done) | (go_simp; rfl)); intro gb102 hg w3 hbox hb; have n0_ := Aside0.mk (below_step (by repeat (first | (with_reducible first | exact HB.out | apply below_alloc | apply pw_below_drewN | apply below_drew1) | exact HB.out)) hb); have n1_ := Aside0.mk (hbox); have n2_ := Aside0.mk ((by rw [hg]; exact (below_size (by repeat (first | (with_reducible first | exact HB.out | apply below_alloc | apply pw_below_drewN | apply below_drew1) | exact HB.out))) : w.heap.size ≤ gb102)); have n3_ := Aside0.mk ((by rw [hg]; exact (below_size (by repeat (first | (with_reducible first | exact HB.out | apply below_alloc | apply pw_below_drewN | apply below_drew1) | exact HB.out))) : w.heap.size ≤ gb102)); clear HB; have HB := n0_; have BK102 := n1_; have GW102 := n2_; have GE102 := n3_; clear n0_ n1_ n2_ n3_; clear hb hbox hg))
 repeat (go_quiet (first | ((with_reducible refine gate_dst (N := 1) rfl ?_); (try (refine gate_guard (by rfl) ?_; dsimp only)); refine box_event ?hg (N := 1) ?hd (cs := #[.int .i64 a0_0, .int .i64 a0_1, .int .i64 a0_2, .slice A0_3 l0_3.length c0_3]) (t := 24) ?hr ?_; (case hd => rfl); (case hg => rfl); (case hr => first | (go_simp; done) | (go_simp; rfl)); intro gb102 hg w3 hbox hb; have n0_ := Aside0.mk (below_step (by repeat (first | (with_reducible first | exact HB.out | apply below_alloc | apply pw_below_drewN | apply below_drew1) | exact HB.out)) hb); have n1_ := Aside0.mk (hbox); have n2_ := Aside0.mk ((by rw [hg]; exact (below_size (by repeat (first | (with_reducible first | exact HB.out | apply below_alloc | apply pw_below_drewN | apply below_drew1) | exact HB.out))) : w.heap.size ≤ gb102)); have n3_ := Aside0.mk ((by rw [hg]; exact (below_size (by repeat (first | (with_reducible first | exact HB.out | apply below_alloc | apply pw_below_drewN | apply below_drew1) | exact HB.out))) : w.heap.size ≤ gb102)); clear HB; have HB := n0_; have BK102 := n1_; have GW102 := n2_; have GE102 := n3_; clear n0_ n1_ n2_ n3_; clear hb hbox hg)); go_upto_region 1 with (first | ((with_reducible refine gate_dst (N := 1) rfl ?_); (try (refine gate_guard (by rfl) ?_; dsimp only)); refine box_event ?hg (N := 1) ?hd (cs := #[.int .i64 a0_0, .int .i64 a0_1, .int .i64 a0_2, .slice A0_3 l0_3.length c0_3]) (t := 24) ?hr ?_; (case hd => rfl); (case hg => rfl); (case hr => first | (go_simp; done) | (go_simp; rfl)); intro gb102 hg w3 hbox hb; have n0_ := Aside0.mk (below_step (by repeat (first | (with_reducible first | exact HB.out | apply below_alloc | apply pw_below_drewN | apply below_drew1) | exact HB.out)) hb); have n1_ := Aside0.mk (hbox); have n2_ := Aside0.mk ((by rw [hg]; exact (below_size (by repeat (first | (with_reducible first | exact HB.out | apply below_alloc | apply pw_below_drewN | apply below_drew1) | exact HB.out))) : w.heap.size ≤ gb102)); have n3_ := Aside0.mk ((by rw [hg]; exact (below_size (by repeat (first | (with_reducible first | exact HB.out | apply below_alloc | apply pw_below_drewN | apply below_drew1) | exact HB.out))) : w.heap.size ≤ gb102)); clear HB; have HB := n0_; have BK102 := n1_; have GW102 := n2_; have GE102 := n3_; clear n0_ n1_ n2_ n3_; clear hb hbox hg)))
 (try simp only [Act.put, List.setIfInBounds_toArray, List.set_cons_zero, List.set_cons_succ])
 go_cut [39] (fun v39 wc => ∃ (kq : Nat) (x39_1 : Bool), v39 = .bool x39_1 ∧ Aside0 (lookoutref31_Check.j0 kq x39_1 a0_0 a0_1 a0_2 l0_3 = some r) ∧ Aside0 (kq ≤ k) ∧ Aside0 (wc.heap[gb102]? = some (.cells #[.int .i64 a0_0, .int .i64 a0_1, .int .i64 a0_2, (.slice A0_3 l0_3.length c0_3)] 24 (0, 0))) ∧ Aside0 (Below w.heap.size w wc))
 case first =>
  have H := HC2.out
  clear HC2
  by_cases c4 : a0_0 < 1
  ·rw [if_pos c4] at H
   have c4b0 : decide (a0_0 < 1) = true := decide_eq_true c4
   clear c4
   (first | rw [c4b0] | (simp only [i64_w, i32_w]; rw [c4b0]) | skip)
   have H' := Aside0.mk H
   clear H
   have hcz5_0 : w3.cell? ⟨gb102, 0, none⟩ = some (.int .i64 a0_0) := (blk_cell BK102.out 0).trans rfl
   have hcz5_1 : w3.cell? ⟨gb102, 1, none⟩ = some (.int .i64 a0_1) := (blk_cell BK102.out 1).trans rfl
   have hcz5_2 : w3.cell? ⟨gb102, 2, none⟩ = some (.int .i64 a0_2) := (blk_cell BK102.out 2).trans rfl
   have hcz5_3 : w3.cell? ⟨gb102, 3, none⟩ = some (.slice A0_3 l0_3.length c0_3) := (blk_cell BK102.out 3).trans rfl
   have hfz5_0 := blk_frozen BK102.out 0
   have hfz5_1 := blk_frozen BK102.out 1
   have hfz5_2 := blk_frozen BK102.out 2
   have hfz5_3 := blk_frozen BK102.out 3
   go_wp2
   repeat (go_quiet (fail); try go_wp2)
   go_meet
   case rel => exact ⟨_, (true), (by first | rfl | (simp; done) | (simp [*]; done)), H', ⟨by first | omega | exact Nat.le_refl _⟩, ⟨by (with_reducible repeat (first | refine blk_drewN ?_ _ | refine blk_drew ?_ | refine blk_alloc ?_ _)); exact BK102.out⟩, ⟨by repeat (first | (with_reducible first | exact HB.out | apply below_alloc | apply pw_below_drewN | apply below_drew1 | refine below_set ?_ GE102.out) | exact HB.out)⟩⟩
  ·rw [if_neg c4] at H
   have c4b0 : decide (a0_0 < 1) = false := decide_eq_false c4
   clear c4
   (first | rw [c4b0] | (simp only [i64_w, i32_w]; rw [c4b0]) | skip)
   by_cases c6 : a0_0 > 20
   ·rw [if_pos c6] at H
    have c6b0 : decide (20 < a0_0) = true := decide_eq_true c6
    clear c6
    have H' := Aside0.mk H
    clear H
    have hcz7_0 : w3.cell? ⟨gb102, 0, none⟩ = some (.int .i64 a0_0) := (blk_cell BK102.out 0).trans rfl
    have hcz7_1 : w3.cell? ⟨gb102, 1, none⟩ = some (.int .i64 a0_1) := (blk_cell BK102.out 1).trans rfl
    have hcz7_2 : w3.cell? ⟨gb102, 2, none⟩ = some (.int .i64 a0_2) := (blk_cell BK102.out 2).trans rfl
    have hcz7_3 : w3.cell? ⟨gb102, 3, none⟩ = some (.slice A0_3 l0_3.length c0_3) := (blk_cell BK102.out 3).trans rfl
    have hfz7_0 := blk_frozen BK102.out 0
    have hfz7_1 := blk_frozen BK102.out 1
    have hfz7_2 := blk_frozen BK102.out 2
    have hfz7_3 := blk_frozen BK102.out 3
    go_wp2
    repeat (go_quiet (fail); try go_wp2)
    go_meet
    case rel => exact ⟨_, (true), (by first | rfl | (simp; done) | (simp [*]; done)), H', ⟨by first | omega | exact Nat.le_refl _⟩, ⟨by (with_reducible repeat (first | refine blk_drewN ?_ _ | refine blk_drew ?_ | refine blk_alloc ?_ _)); exact BK102.out⟩, ⟨by repeat (first | (with_reducible first | exact HB.out | apply below_alloc | apply pw_below_drewN | apply below_drew1 | refine below_set ?_ GE102.out) | exact HB.out)⟩⟩
   ·rw [if_neg c6] at H
    have c6b0 : decide (20 < a0_0) = false := decide_eq_false c6
    clear c6
    by_cases c8 : a0_1 < 1
    ·rw [if_pos c8] at H
     have c8b0 : decide (a0_1 < 1) = true := decide_eq_true c8
     clear c8
     have H' := Aside0.mk H
     clear H
     have hcz9_0 : w3.cell? ⟨gb102, 0, none⟩ = some (.int .i64 a0_0) := (blk_cell BK102.out 0).trans rfl
     have hcz9_1 : w3.cell? ⟨gb102, 1, none⟩ = some (.int .i64 a0_1) := (blk_cell BK102.out 1).trans rfl
     have hcz9_2 : w3.cell? ⟨gb102, 2, none⟩ = some (.int .i64 a0_2) := (blk_cell BK102.out 2).trans rfl
     have hcz9_3 : w3.cell? ⟨gb102, 3, none⟩ = some (.slice A0_3 l0_3.length c0_3) := (blk_cell BK102.out 3).trans rfl
     have hfz9_0 := blk_frozen BK102.out 0
     have hfz9_1 := blk_frozen BK102.out 1
     have hfz9_2 := blk_frozen BK102.out 2
     have hfz9_3 := blk_frozen BK102.out 3
     go_wp2
     repeat (go_quiet (fail); try go_wp2)
     go_meet
     case rel => exact ⟨_, (true), (by first | rfl | (simp; done) | (simp [*]; done)), H', ⟨by first | omega | exact Nat.le_refl _⟩, ⟨by (with_reducible repeat (first | refine blk_drewN ?_ _ | refine blk_drew ?_ | refine blk_alloc ?_ _)); exact BK102.out⟩, ⟨by repeat (first | (with_reducible first | exact HB.out | apply below_alloc | apply pw_below_drewN | apply below_drew1 | refine below_set ?_ GE102.out) | exact HB.out)⟩⟩
    ·rw [if_neg c8] at H
     have c8b0 : decide (a0_1 < 1) = false := decide_eq_false c8
     clear c8
     by_cases c10 : a0_1 > 10000
     ·rw [if_pos c10] at H
      have c10b0 : decide (10000 < a0_1) = true := decide_eq_true c10
      clear c10
      have H' := Aside0.mk H
      clear H
      have hcz11_0 : w3.cell? ⟨gb102, 0, none⟩ = some (.int .i64 a0_0) := (blk_cell BK102.out 0).trans rfl
      have hcz11_1 : w3.cell? ⟨gb102, 1, none⟩ = some (.int .i64 a0_1) := (blk_cell BK102.out 1).trans rfl
      have hcz11_2 : w3.cell? ⟨gb102, 2, none⟩ = some (.int .i64 a0_2) := (blk_cell BK102.out 2).trans rfl
      have hcz11_3 : w3.cell? ⟨gb102, 3, none⟩ = some (.slice A0_3 l0_3.length c0_3) := (blk_cell BK102.out 3).trans rfl
      have hfz11_0 := blk_frozen BK102.out 0
      have hfz11_1 := blk_frozen BK102.out 1
      have hfz11_2 := blk_frozen BK102.out 2
      have hfz11_3 := blk_frozen BK102.out 3
      go_wp2
      repeat (go_quiet (fail); try go_wp2)
      go_meet
      case rel => exact ⟨_, (true), (by first | rfl | (simp; done) | (simp [*]; done)), H', ⟨by first | omega | exact Nat.le_refl _⟩, ⟨by (with_reducible repeat (first | refine blk_drewN ?_ _ | refine blk_drew ?_ | refine blk_alloc ?_ _)); exact BK102.out⟩, ⟨by repeat (first | (with_reducible first | exact HB.out | apply below_alloc | apply pw_below_drewN | apply below_drew1 | refine below_set ?_ GE102.out) | exact HB.out)⟩⟩
     ·rw [if_neg c10] at H
      have c10b0 : decide (10000 < a0_1) = false := decide_eq_false c10
      clear c10
      by_cases c12 : a0_2 < 0
      ·rw [if_pos c12] at H
       have c12b0 : decide (a0_2 < 0) = true := decide_eq_true c12
       clear c12
       have H' := Aside0.mk H
       clear H
       have hcz13_0 : w3.cell? ⟨gb102, 0, none⟩ = some (.int .i64 a0_0) := (blk_cell BK102.out 0).trans rfl
       have hcz13_1 : w3.cell? ⟨gb102, 1, none⟩ = some (.int .i64 a0_1) := (blk_cell BK102.out 1).trans rfl
       have hcz13_2 : w3.cell? ⟨gb102, 2, none⟩ = some (.int .i64 a0_2) := (blk_cell BK102.out 2).trans rfl
       have hcz13_3 : w3.cell? ⟨gb102, 3, none⟩ = some (.slice A0_3 l0_3.length c0_3) := (blk_cell BK102.out 3).trans rfl
       have hfz13_0 := blk_frozen BK102.out 0
       have hfz13_1 := blk_frozen BK102.out 1
       have hfz13_2 := blk_frozen BK102.out 2
       have hfz13_3 := blk_frozen BK102.out 3
       go_wp2
       repeat (go_quiet (fail); try go_wp2)
       go_meet
       case rel => exact ⟨_, (true), (by first | rfl | (simp; done) | (simp [*]; done)), H', ⟨by first | omega | exact Nat.le_refl _⟩, ⟨by (with_reducible repeat (first | refine blk_drewN ?_ _ | refine blk_drew ?_ | refine blk_alloc ?_ _)); exact BK102.out⟩, ⟨by repeat (first | (with_reducible first | exact HB.out | apply below_alloc | apply pw_below_drewN | apply below_drew1 | refine below_set ?_ GE102.out) | exact HB.out)⟩⟩
      ·rw [if_neg c12] at H
       have c12b0 : decide (a0_2 < 0) = false := decide_eq_false c12
       clear c12
       by_cases c14 : a0_2 > 1099511627776
       ·rw [if_pos c14] at H
        have c14b0 : decide (1099511627776 < a0_2) = true := decide_eq_true c14
        clear c14
        have H' := Aside0.mk H
        clear H
        have hcz15_0 : w3.cell? ⟨gb102, 0, none⟩ = some (.int .i64 a0_0) := (blk_cell BK102.out 0).trans rfl
        have hcz15_1 : w3.cell? ⟨gb102, 1, none⟩ = some (.int .i64 a0_1) := (blk_cell BK102.out 1).trans rfl
        have hcz15_2 : w3.cell? ⟨gb102, 2, none⟩ = some (.int .i64 a0_2) := (blk_cell BK102.out 2).trans rfl
        have hcz15_3 : w3.cell? ⟨gb102, 3, none⟩ = some (.slice A0_3 l0_3.length c0_3) := (blk_cell BK102.out 3).trans rfl
        have hfz15_0 := blk_frozen BK102.out 0
        have hfz15_1 := blk_frozen BK102.out 1
        have hfz15_2 := blk_frozen BK102.out 2
        have hfz15_3 := blk_frozen BK102.out 3
        go_wp2
        repeat (go_quiet (fail); try go_wp2)
        go_meet
        case rel => exact ⟨_, (true), (by first | rfl | (simp; done) | (simp [*]; done)), H', ⟨by first | omega | exact Nat.le_refl _⟩, ⟨by (with_reducible repeat (first | refine blk_drewN ?_ _ | refine blk_drew ?_ | refine blk_alloc ?_ _)); exact BK102.out⟩, ⟨by repeat (first | (with_reducible first | exact HB.out | apply below_alloc | apply pw_below_drewN | apply below_drew1 | refine below_set ?_ GE102.out) | exact HB.out)⟩⟩
       ·rw [if_neg c14] at H
        have c14b0 : decide (1099511627776 < a0_2) = false := decide_eq_false c14
        clear c14
        have H' := Aside0.mk H
        clear H
        have hcz16_0 : w3.cell? ⟨gb102, 0, none⟩ = some (.int .i64 a0_0) := (blk_cell BK102.out 0).trans rfl
        have hcz16_1 : w3.cell? ⟨gb102, 1, none⟩ = some (.int .i64 a0_1) := (blk_cell BK102.out 1).trans rfl
        have hcz16_2 : w3.cell? ⟨gb102, 2, none⟩ = some (.int .i64 a0_2) := (blk_cell BK102.out 2).trans rfl
        have hcz16_3 : w3.cell? ⟨gb102, 3, none⟩ = some (.slice A0_3 l0_3.length c0_3) := (blk_cell BK102.out 3).trans rfl
        have hfz16_0 := blk_frozen BK102.out 0
        have hfz16_1 := blk_frozen BK102.out 1
        have hfz16_2 := blk_frozen BK102.out 2
        have hfz16_3 := blk_frozen BK102.out 3
        go_wp2
        repeat (go_quiet (fail); try go_wp2)
        go_meet
        case rel => exact ⟨_, (decide ((l0_3.length : Int) > 2000)), (by first | rfl | (simp; done) | (simp [*]; done)), H', ⟨by first | omega | exact Nat.le_refl _⟩, ⟨by (with_reducible repeat (first | refine blk_drewN ?_ _ | refine blk_drew ?_ | refine blk_alloc ?_ _)); exact BK102.out⟩, ⟨by repeat (first | (with_reducible first | exact HB.out | apply below_alloc | apply pw_below_drewN | apply below_drew1 | refine below_set ?_ GE102.out) | exact HB.out)⟩⟩
 case rest =>
  clear HC2
  try clear c1
  try clear p2
  try clear c4
  try clear c4b0
  try clear c6
  try clear c6b0
  try clear c8
  try clear c8b0
  try clear c9
  try clear c10
  try clear c10b0
  try clear c12
  try clear c12b0
  try clear c14
  try clear c14b0
  try clear hcz11_0
  try clear hcz11_1
  try clear hcz11_2
  try clear hcz11_3
  try clear hcz13_0
  try clear hcz13_1
  try clear hcz13_2
  try clear hcz13_3
  try clear hcz15_0
  try clear hcz15_1
  try clear hcz15_2
  try clear hcz15_3
  try clear hcz16_0
  try clear hcz16_1
  try clear hcz16_2
  try clear hcz16_3
  try clear hcz5_0
  try clear hcz5_1
  try clear hcz5_2
  try clear hcz5_3
  try clear hcz7_0
  try clear hcz7_1
  try clear hcz7_2
  try clear hcz7_3
  try clear hcz9_0
  try clear hcz9_1
  try clear hcz9_2
  try clear hcz9_3
  try clear hfz11_0
  try clear hfz11_1
  try clear hfz11_2
  try clear hfz11_3
  try clear hfz13_0
  try clear hfz13_1
  try clear hfz13_2
  try clear hfz13_3
  try clear hfz15_0
  try clear hfz15_1
  try clear hfz15_2
  try clear hfz15_3
  try clear hfz16_0
  try clear hfz16_1
  try clear hfz16_2
  try clear hfz16_3
  try clear hfz5_0
  try clear hfz5_1
  try clear hfz5_2
  try clear hfz5_3
  try clear hfz7_0
  try clear hfz7_1
  try clear hfz7_2
  try clear hfz7_3
  try clear hfz9_0
  try clear hfz9_1
  try clear hfz9_2
  try clear hfz9_3
  obtain ⟨kq, x39_1, rfl, HA, HJ1, BK102, HB⟩ := hcut
  cases kq with
  | zero => exact absurd HA.out (by simp [lookoutref31_Check.j0])
  | succ kj1 =>
   have H := HA.out
   clear HA
   simp only [lookoutref31_Check.j0] at H
   by_cases c17 : x39_1 = true
   ·subst c17
    have H1 : (some 1) = some r := by rw [if_pos rfl] at H; exact H
    clear H
    have H := H1
    clear H1
    obtain rfl := Option.some.inj H
    go_wp2
    repeat (go_quiet (fail); try go_wp2)
    go_ret
    exact ⟨by first | rfl | (simp [errW_none, errW_some] <;> rfl) | (simp [*, errW_none, errW_some] <;> rfl), by repeat (first | (with_reducible first | exact HB.out | apply below_alloc | apply pw_below_drewN | apply below_drew1 | refine below_set ?_ GE102.out) | exact HB.out)⟩
   ·replace c17 := Bool.eq_false_iff.mpr c17
    subst c17
    have H1 : (lookoutref31_Check.l0 kj1 0 0 a0_0 a0_1 a0_2 l0_3) = some r := by rw [if_neg (show ¬ (false = true) by decide)] at H; exact H
    clear H
    have H := H1
    clear H1
    have H' := Aside0.mk H
    clear H
    go_wp2
    repeat (go_quiet (fail); try go_wp2)
    go_loopg [3, 4] kj1 (fun kq v3 v4 w' => ∃ (x3_2 : Int) (x4_2 : Int), v3 = .int .i64 x3_2 ∧ v4 = .int .i64 x4_2 ∧ Aside0 (lookoutref31_Check.l0 kq x3_2 x4_2 a0_0 a0_1 a0_2 l0_3 = some r) ∧ Aside0 (kq ≤ kj1) ∧ Aside0 (w'.heap[gb102]? = some (.cells #[.int .i64 a0_0, .int .i64 a0_1, .int .i64 a0_2, (.slice A0_3 l0_3.length c0_3)] 24 (0, 0))) ∧ Aside0 (Below w.heap.size w w'))
    case atStart => exact ⟨(0), (0), (by first | rfl | (simp; done) | (simp [*]; done)), (by first | rfl | (simp; done) | (simp [*]; done)), H', ⟨Nat.le_refl _⟩, ⟨by (with_reducible repeat (first | refine blk_drewN ?_ _ | refine blk_drew ?_ | refine blk_alloc ?_ _)); exact BK102.out⟩, ⟨by repeat (first | (with_reducible first | exact HB.out | apply below_alloc | apply pw_below_drewN | apply below_drew1 | refine below_set ?_ GE102.out) | exact HB.out)⟩⟩
    case round =>
     clear H'
     try clear c1
     try clear p2
     try clear c4
     try clear c4b0
     try clear c6
     try clear c6b0
     try clear c8
     try clear c8b0
     try clear c9
     try clear c10
     try clear c10b0
     try clear c12
     try clear c12b0
     try clear c14
     try clear c14b0
     try clear c17
     try clear hcz11_0
     try clear hcz11_1
     try clear hcz11_2
     try clear hcz11_3
     try clear hcz13_0
     try clear hcz13_1
     try clear hcz13_2
     try clear hcz13_3
     try clear hcz15_0
     try clear hcz15_1
     try clear hcz15_2
     try clear hcz15_3
     try clear hcz16_0
     try clear hcz16_1
     try clear hcz16_2
     try clear hcz16_3
     try clear hcz5_0
     try clear hcz5_1
     try clear hcz5_2
     try clear hcz5_3
     try clear hcz7_0
     try clear hcz7_1
     try clear hcz7_2
     try clear hcz7_3
     try clear hcz9_0
     try clear hcz9_1
     try clear hcz9_2
     try clear hcz9_3
     try clear hfz11_0
     try clear hfz11_1
     try clear hfz11_2
     try clear hfz11_3
     try clear hfz13_0
     try clear hfz13_1
     try clear hfz13_2
     try clear hfz13_3
     try clear hfz15_0
     try clear hfz15_1
     try clear hfz15_2
     try clear hfz15_3
     try clear hfz16_0
     try clear hfz16_1
     try clear hfz16_2
     try clear hfz16_3
     try clear hfz5_0
     try clear hfz5_1
     try clear hfz5_2
     try clear hfz5_3
     try clear hfz7_0
     try clear hfz7_1
     try clear hfz7_2
     try clear hfz7_3
     try clear hfz9_0
     try clear hfz9_1
     try clear hfz9_2
     try clear hfz9_3
     try clear p2
     obtain ⟨x3_2, x4_2, rfl, rfl, HA, HK2, BK102, HB⟩ := hrel
     cases gk with
     | zero => exact absurd HA.out (by simp [lookoutref31_Check.l0])
     | succ k2 =>
      have H := HA.out
      clear HA
      simp only [lookoutref31_Check.l0] at H
      by_cases c18 : x4_2 < (l0_3.length : Int)
      ·rw [if_pos c18] at H
       have c18b0 : decide (x4_2 < (l0_3.length : Int)) = true := decide_eq_true c18
       clear c18
       by_cases c19 : 0 ≤ x4_2
       ·rw [if_pos c19] at H
        have c19b0 : decide (0 ≤ x4_2) = true := decide_eq_true c19
        clear c19
        have HC20 := Aside0.mk H
        clear H
        have hcz21_0 : wr.cell? ⟨gb102, 0, none⟩ = some (.int .i64 a0_0) := (blk_cell BK102.out 0).trans rfl
        have hcz21_1 : wr.cell? ⟨gb102, 1, none⟩ = some (.int .i64 a0_1) := (blk_cell BK102.out 1).trans rfl
        have hcz21_2 : wr.cell? ⟨gb102, 2, none⟩ = some (.int .i64 a0_2) := (blk_cell BK102.out 2).trans rfl
        have hcz21_3 : wr.cell? ⟨gb102, 3, none⟩ = some (.slice A0_3 l0_3.length c0_3) := (blk_cell BK102.out 3).trans rfl
        have hfz21_0 := blk_frozen BK102.out 0
        have hfz21_1 := blk_frozen BK102.out 1
        have hfz21_2 := blk_frozen BK102.out 2
        have hfz21_3 := blk_frozen BK102.out 3
        have p103 : 0 ≤ (x4_2 : Int) := of_decide_eq_true (by first | (with_reducible assumption) | assumption)
        have q103 : x4_2 < (l0_3.length : Int) := of_decide_eq_true (by first | (with_reducible assumption) | assumption)
        obtain ⟨ad103, e103, hx103_0, hx103_1⟩ := at_T63 HR0_3.out x4_2 p103 q103
        cases e103
        replace hx103_0 := (HB.out.cell (World.block_lt_of_cell? w _ hx103_0)).trans hx103_0
        replace hx103_1 := (HB.out.cell (World.block_lt_of_cell? w _ hx103_1)).trans hx103_1
        replace p103 := eq_true p103
        replace q103 := eq_true q103
        go_upto_region 8 with (first | ((with_reducible refine gate_dst (N := 5) rfl ?_); (try (refine gate_guard (by rfl) ?_; dsimp only)); refine box_event ?hg (N := 5) ?hd (cs := #[.int .i64 0, .int .i64 0]) (t := 63) ?hr ?_; (case hd => rfl); (case hg => rfl); (case hr => first | (go_simp; done) | (go_simp; rfl)); intro gb104 hg w22 hbox hb; have n0_ := Aside0.mk (blk_below (g := gb102) (o := .cells #[.int .i64 a0_0, .int .i64 a0_1, .int .i64 a0_2, .slice (some ad103) l0_3.length c0_3] 24 (0, 0)) (by (with_reducible repeat (first | refine blk_drewN ?_ _ | refine blk_drew ?_ | refine blk_alloc ?_ _)); exact BK102.out) hb); have n1_ := Aside0.mk (below_step (by repeat (first | (with_reducible first | exact HB.out | apply below_alloc | apply pw_below_drewN | apply below_drew1 | refine below_set ?_ GE102.out) | exact HB.out)) hb); have n2_ := Aside0.mk (hbox); have n3_ := Aside0.mk ((by rw [hg]; exact (below_size (by repeat (first | (with_reducible first | exact HB.out | apply below_alloc | apply pw_below_drewN | apply below_drew1 | refine below_set ?_ GE102.out) | exact HB.out))) : w.heap.size ≤ gb104)); have n4_ := Aside0.mk ((by rw [hg]; exact (below_size (by repeat (first | (with_reducible first | exact HB.out | apply below_alloc | apply pw_below_drewN | apply below_drew1 | refine below_set ?_ GE102.out) | exact HB.out))) : w.heap.size ≤ gb104)); have n5_ := Aside0.mk ((by rw [hg]; exact Nat.ne_of_lt (blk_lt (g := gb102) (o := .cells #[.int .i64 a0_0, .int .i64 a0_1, .int .i64 a0_2, .slice (some ad103) l0_3.length c0_3] 24 (0, 0)) (by (with_reducible repeat (first | refine blk_drewN ?_ _ | refine blk_drew ?_ | refine blk_alloc ?_ _)); exact BK102.out)) : gb102 ≠ gb104)); have n6_ := Aside0.mk ((by rw [hg]; exact Nat.ne_of_gt (blk_lt (g := gb102) (o := .cells #[.int .i64 a0_0, .int .i64 a0_1, .int .i64 a0_2, .slice (some ad103) l0_3.length c0_3] 24 (0, 0)) (by (with_reducible repeat (first | refine blk_drewN ?_ _ | refine blk_drew ?_ | refine blk_alloc ?_ _)); exact BK102.out)) : gb104 ≠ gb102)); clear BK102; clear HB; have BK102 := n0_; have HB := n1_; have BK104 := n2_; have GW104 := n3_; have GE104 := n4_; have NB102_104 := n5_; have NB104_102 := n6_; clear n0_ n1_ n2_ n3_ n4_ n5_ n6_; clear hb hbox hg; have hnb23 := NB104_102.out; have hnc23 := NB102_104.out; have hcz24_0 : w22.cell? ⟨gb104, 0, none⟩ = some (.int .i64 0) := (blk_cell BK104.out 0).trans rfl; have hcz24_1 : w22.cell? ⟨gb104, 1, none⟩ = some (.int .i64 0) := (blk_cell BK104.out 1).trans rfl; have hfz24_0 := blk_frozen BK104.out 0; have hfz24_1 := blk_frozen BK104.out 1))
        repeat (go_quiet (first | ((with_reducible refine gate_dst (N := 5) rfl ?_); (try (refine gate_guard (by rfl) ?_; dsimp only)); refine box_event ?hg (N := 5) ?hd (cs := #[.int .i64 0, .int .i64 0]) (t := 63) ?hr ?_; (case hd => rfl); (case hg => rfl); (case hr => first | (go_simp; done) | (go_simp; rfl)); intro gb104 hg w22 hbox hb; have n0_ := Aside0.mk (blk_below (g := gb102) (o := .cells #[.int .i64 a0_0, .int .i64 a0_1, .int .i64 a0_2, .slice (some ad103) l0_3.length c0_3] 24 (0, 0)) (by (with_reducible repeat (first | refine blk_drewN ?_ _ | refine blk_drew ?_ | refine blk_alloc ?_ _)); exact BK102.out) hb); have n1_ := Aside0.mk (below_step (by repeat (first | (with_reducible first | exact HB.out | apply below_alloc | apply pw_below_drewN | apply below_drew1 | refine below_set ?_ GE102.out) | exact HB.out)) hb); have n2_ := Aside0.mk (hbox); have n3_ := Aside0.mk ((by rw [hg]; exact (below_size (by repeat (first | (with_reducible first | exact HB.out | apply below_alloc | apply pw_below_drewN | apply below_drew1 | refine below_set ?_ GE102.out) | exact HB.out))) : w.heap.size ≤ gb104)); have n4_ := Aside0.mk ((by rw [hg]; exact (below_size (by repeat (first | (with_reducible first | exact HB.out | apply below_alloc | apply pw_below_drewN | apply below_drew1 | refine below_set ?_ GE102.out) | exact HB.out))) : w.heap.size ≤ gb104)); have n5_ := Aside0.mk ((by rw [hg]; exact Nat.ne_of_lt (blk_lt (g := gb102) (o := .cells #[.int .i64 a0_0, .int .i64 a0_1, .int .i64 a0_2, .slice (some ad103) l0_3.length c0_3] 24 (0, 0)) (by (with_reducible repeat (first | refine blk_drewN ?_ _ | refine blk_drew ?_ | refine blk_alloc ?_ _)); exact BK102.out)) : gb102 ≠ gb104)); have n6_ := Aside0.mk ((by rw [hg]; exact Nat.ne_of_gt (blk_lt (g := gb102) (o := .cells #[.int .i64 a0_0, .int .i64 a0_1, .int .i64 a0_2, .slice (some ad103) l0_3.length c0_3] 24 (0, 0)) (by (with_reducible repeat (first | refine blk_drewN ?_ _ | refine blk_drew ?_ | refine blk_alloc ?_ _)); exact BK102.out)) : gb104 ≠ gb102)); clear BK102; clear HB; have BK102 := n0_; have HB := n1_; have BK104 := n2_; have GW104 := n3_; have GE104 := n4_; have NB102_104 := n5_; have NB104_102 := n6_; clear n0_ n1_ n2_ n3_ n4_ n5_ n6_; clear hb hbox hg; have hnb23 := NB104_102.out; have hnc23 := NB102_104.out; have hcz24_0 : w22.cell? ⟨gb104, 0, none⟩ = some (.int .i64 0) := (blk_cell BK104.out 0).trans rfl; have hcz24_1 : w22.cell? ⟨gb104, 1, none⟩ = some (.int .i64 0) := (blk_cell BK104.out 1).trans rfl; have hfz24_0 := blk_frozen BK104.out 0; have hfz24_1 := blk_frozen BK104.out 1)); go_upto_region 8 with (first | ((with_reducible refine gate_dst (N := 5) rfl ?_); (try (refine gate_guard (by rfl) ?_; dsimp only)); refine box_event ?hg (N := 5) ?hd (cs := #[.int .i64 0, .int .i64 0]) (t := 63) ?hr ?_; (case hd => rfl); (case hg => rfl); (case hr => first | (go_simp; done) | (go_simp; rfl)); intro gb104 hg w22 hbox hb; have n0_ := Aside0.mk (blk_below (g := gb102) (o := .cells #[.int .i64 a0_0, .int .i64 a0_1, .int .i64 a0_2, .slice (some ad103) l0_3.length c0_3] 24 (0, 0)) (by (with_reducible repeat (first | refine blk_drewN ?_ _ | refine blk_drew ?_ | refine blk_alloc ?_ _)); exact BK102.out) hb); have n1_ := Aside0.mk (below_step (by repeat (first | (with_reducible first | exact HB.out | apply below_alloc | apply pw_below_drewN | apply below_drew1 | refine below_set ?_ GE102.out) | exact HB.out)) hb); have n2_ := Aside0.mk (hbox); have n3_ := Aside0.mk ((by rw [hg]; exact (below_size (by repeat (first | (with_reducible first | exact HB.out | apply below_alloc | apply pw_below_drewN | apply below_drew1 | refine below_set ?_ GE102.out) | exact HB.out))) : w.heap.size ≤ gb104)); have n4_ := Aside0.mk ((by rw [hg]; exact (below_size (by repeat (first | (with_reducible first | exact HB.out | apply below_alloc | apply pw_below_drewN | apply below_drew1 | refine below_set ?_ GE102.out) | exact HB.out))) : w.heap.size ≤ gb104)); have n5_ := Aside0.mk ((by rw [hg]; exact Nat.ne_of_lt (blk_lt (g := gb102) (o := .cells #[.int .i64 a0_0, .int .i64 a0_1, .int .i64 a0_2, .slice (some ad103) l0_3.length c0_3] 24 (0, 0)) (by (with_reducible repeat (first | refine blk_drewN ?_ _ | refine blk_drew ?_ | refine blk_alloc ?_ _)); exact BK102.out)) : gb102 ≠ gb104)); have n6_ := Aside0.mk ((by rw [hg]; exact Nat.ne_of_gt (blk_lt (g := gb102) (o := .cells #[.int .i64 a0_0, .int .i64 a0_1, .int .i64 a0_2, .slice (some ad103) l0_3.length c0_3] 24 (0, 0)) (by (with_reducible repeat (first | refine blk_drewN ?_ _ | refine blk_drew ?_ | refine blk_alloc ?_ _)); exact BK102.out)) : gb104 ≠ gb102)); clear BK102; clear HB; have BK102 := n0_; have HB := n1_; have BK104 := n2_; have GW104 := n3_; have GE104 := n4_; have NB102_104 := n5_; have NB104_102 := n6_; clear n0_ n1_ n2_ n3_ n4_ n5_ n6_; clear hb hbox hg; have hnb23 := NB104_102.out; have hnc23 := NB102_104.out; have hcz24_0 : w22.cell? ⟨gb104, 0, none⟩ = some (.int .i64 0) := (blk_cell BK104.out 0).trans rfl; have hcz24_1 : w22.cell? ⟨gb104, 1, none⟩ = some (.int .i64 0) := (blk_cell BK104.out 1).trans rfl; have hfz24_0 := blk_frozen BK104.out 0; have hfz24_1 := blk_frozen BK104.out 1)))
        (try simp only [Act.put, List.setIfInBounds_toArray, List.set_cons_zero, List.set_cons_succ])
        go_cut [108] (fun v108 wc => ∃ (kq : Nat) (x108_19 : Bool), v108 = .bool x108_19 ∧ Aside0 (lookoutref31_Check.j2 kq x3_2 x4_2 x108_19 a0_0 a0_1 a0_2 l0_3 ((rd_T63 l0_3 x4_2).f0) ((rd_T63 l0_3 x4_2).f1) = some r) ∧ Aside0 (kq ≤ k2) ∧ Aside0 (wc.heap[gb102]? = some (.cells #[.int .i64 a0_0, .int .i64 a0_1, .int .i64 a0_2, (.slice (some ad103) l0_3.length c0_3)] 24 (0, 0))) ∧ Aside0 (wc.heap[gb104]? = some (.cells #[.int .i64 ((rd_T63 l0_3 x4_2).f0), .int .i64 ((rd_T63 l0_3 x4_2).f1)] 63 (0, 0))) ∧ Aside0 (Below w.heap.size w wc))
        case first =>
         have H := HC20.out
         clear HC20
         by_cases c25 : ((rd_T63 l0_3 x4_2).f0) < 1
         ·rw [if_pos c25] at H
          have c25b0 : decide (((rd_T63 l0_3 x4_2).f0) < 1) = true := decide_eq_true c25
          clear c25
          (first | rw [c25b0] | (simp only [i64_w, i32_w]; rw [c25b0]) | skip)
          have H' := Aside0.mk H
          clear H
          have hnb26 := NB104_102.out
          have hnc26 := NB102_104.out
          have hcz27_0 : w22.cell? ⟨gb104, 0, none⟩ = some (.int .i64 0) := (blk_cell BK104.out 0).trans rfl
          have hcz27_1 : w22.cell? ⟨gb104, 1, none⟩ = some (.int .i64 0) := (blk_cell BK104.out 1).trans rfl
          have hfz27_0 := blk_frozen BK104.out 0
          have hfz27_1 := blk_frozen BK104.out 1
          go_wp2
          repeat (go_quiet (fail); try go_wp2)
          go_meet
          case rel => exact ⟨_, (true), (by first | rfl | (simp; done) | (simp [*]; done)), H', ⟨by have := HJ1.out; have := HK2.out; first | omega | exact Nat.le_refl _⟩, ⟨by (with_reducible repeat (first | refine blk_drewN ?_ _ | refine blk_drew ?_ | refine blk_alloc ?_ _)); refine blk_far ?_ NB102_104.out _; (with_reducible repeat (first | refine blk_drewN ?_ _ | refine blk_drew ?_ | refine blk_alloc ?_ _)); refine blk_far ?_ NB102_104.out _; (with_reducible repeat (first | refine blk_drewN ?_ _ | refine blk_drew ?_ | refine blk_alloc ?_ _)); exact BK102.out⟩, ⟨by (with_reducible repeat (first | refine blk_drewN ?_ _ | refine blk_drew ?_ | refine blk_alloc ?_ _)); refine blk_put (cs := #[.int .i64 ((rd_T63 l0_3 x4_2).f0), .int .i64 0]) ?_ 1 _ rfl; (with_reducible repeat (first | refine blk_drewN ?_ _ | refine blk_drew ?_ | refine blk_alloc ?_ _)); refine blk_put (cs := #[.int .i64 0, .int .i64 0]) ?_ 0 _ rfl; (with_reducible repeat (first | refine blk_drewN ?_ _ | refine blk_drew ?_ | refine blk_alloc ?_ _)); exact BK104.out⟩, ⟨by repeat (first | (with_reducible first | exact HB.out | apply below_alloc | apply pw_below_drewN | apply below_drew1 | refine below_set ?_ GE102.out | refine below_set ?_ GE104.out) | exact HB.out)⟩⟩
         ·rw [if_neg c25] at H
          have c25b0 : decide (((rd_T63 l0_3 x4_2).f0) < 1) = false := decide_eq_false c25
          clear c25
          (first | rw [c25b0] | (simp only [i64_w, i32_w]; rw [c25b0]) | skip)
          by_cases c28 : 0 ≤ a0_0
          ·rw [if_pos c28] at H
           have c28b0 := eq_true c28
           have c28b1 : decide (0 ≤ a0_0) = true := decide_eq_true c28
           clear c28
           obtain ⟨ji29, hji29⟩ : ∃ j_ : Int, (shl .i64 2 a0_0) = j_ := ⟨_, rfl⟩
           replace H : (if ((rd_T63 l0_3 x4_2).f0) ≥ (ji29) then (lookoutref31_Check.j2 k2 x3_2 x4_2 true a0_0 a0_1 a0_2 l0_3 ((rd_T63 l0_3 x4_2).f0) ((rd_T63 l0_3 x4_2).f1)) else (if x4_2 > 0 then (if 0 ≤ (wrap64 (x4_2 - 1)) then (if (wrap64 (x4_2 - 1)) < (l0_3.length : Int) then (if ((rd_T63 l0_3 (wrap64 (x4_2 - 1))).f0) ≥ ((rd_T63 l0_3 x4_2).f0) then (lookoutref31_Check.j2 k2 x3_2 x4_2 true a0_0 a0_1 a0_2 l0_3 ((rd_T63 l0_3 x4_2).f0) ((rd_T63 l0_3 x4_2).f1)) else (if ((rd_T63 l0_3 x4_2).f1) < 1 then (lookoutref31_Check.j2 k2 x3_2 x4_2 true a0_0 a0_1 a0_2 l0_3 ((rd_T63 l0_3 x4_2).f0) ((rd_T63 l0_3 x4_2).f1)) else (if ((rd_T63 l0_3 x4_2).f1) > a0_2 then (lookoutref31_Check.j2 k2 x3_2 x4_2 true a0_0 a0_1 a0_2 l0_3 ((rd_T63 l0_3 x4_2).f0) ((rd_T63 l0_3 x4_2).f1)) else (if ((rd_T63 l0_3 x4_2).f0) < (shl .i64 1 a0_0) then (if a0_1 = 0 then (none) else (lookoutref31_Check.j2 k2 x3_2 x4_2 (decide (((rd_T63 l0_3 x4_2).f1) > (wrap64 (Int.tdiv a0_2 a0_1)))) a0_0 a0_1 a0_2 l0_3 ((rd_T63 l0_3 x4_2).f0) ((rd_T63 l0_3 x4_2).f1))) else (lookoutref31_Check.j2 k2 x3_2 x4_2 false a0_0 a0_1 a0_2 l0_3 ((rd_T63 l0_3 x4_2).f0) ((rd_T63 l0_3 x4_2).f1)))))) else (none)) else (none)) else (if ((rd_T63 l0_3 x4_2).f1) < 1 then (lookoutref31_Check.j2 k2 x3_2 x4_2 true a0_0 a0_1 a0_2 l0_3 ((rd_T63 l0_3 x4_2).f0) ((rd_T63 l0_3 x4_2).f1)) else (if ((rd_T63 l0_3 x4_2).f1) > a0_2 then (lookoutref31_Check.j2 k2 x3_2 x4_2 true a0_0 a0_1 a0_2 l0_3 ((rd_T63 l0_3 x4_2).f0) ((rd_T63 l0_3 x4_2).f1)) else (if ((rd_T63 l0_3 x4_2).f0) < (shl .i64 1 a0_0) then (if a0_1 = 0 then (none) else (lookoutref31_Check.j2 k2 x3_2 x4_2 (decide (((rd_T63 l0_3 x4_2).f1) > (wrap64 (Int.tdiv a0_2 a0_1)))) a0_0 a0_1 a0_2 l0_3 ((rd_T63 l0_3 x4_2).f0) ((rd_T63 l0_3 x4_2).f1))) else (lookoutref31_Check.j2 k2 x3_2 x4_2 false a0_0 a0_1 a0_2 l0_3 ((rd_T63 l0_3 x4_2).f0) ((rd_T63 l0_3 x4_2).f1))))))) = some r := by first | (rw [hji29] at H; exact H) | (simp only [hji29] at H ⊢; exact H)
           have hji29_ : (IntKind.i64.wrap (2 * 2 ^ min a0_0.toNat 64)) = ji29 := hji29
           have hji29z : a0_0 ≤ 64 → (IntKind.i64.wrap (2 * 2 ^ a0_0.toNat)) = ji29 := shl_small hji29
           have hji29y : (wrap64 (2 * 2 ^ min a0_0.toNat 64)) = ji29 := (i64_w _).symm.trans hji29_
           have hji29x : a0_0 ≤ 64 → (wrap64 (2 * 2 ^ a0_0.toNat)) = ji29 := fun h_ => (i64_w _).symm.trans (hji29z h_)
           by_cases c30 : ((rd_T63 l0_3 x4_2).f0) ≥ (ji29)
           ·rw [if_pos c30] at H
            have c30b0 : decide ((ji29) ≤ ((rd_T63 l0_3 x4_2).f0)) = true := decide_eq_true c30
            clear c30
            have H' := Aside0.mk H
            clear H
            have hnb31 := NB104_102.out
            have hnc31 := NB102_104.out
            have hcz32_0 : w22.cell? ⟨gb104, 0, none⟩ = some (.int .i64 0) := (blk_cell BK104.out 0).trans rfl
            have hcz32_1 : w22.cell? ⟨gb104, 1, none⟩ = some (.int .i64 0) := (blk_cell BK104.out 1).trans rfl
            have hfz32_0 := blk_frozen BK104.out 0
            have hfz32_1 := blk_frozen BK104.out 1
            have hcz33_0 : w22.cell? ⟨gb102, 0, none⟩ = some (.int .i64 a0_0) := (blk_cell BK102.out 0).trans rfl
            have hcz33_1 : w22.cell? ⟨gb102, 1, none⟩ = some (.int .i64 a0_1) := (blk_cell BK102.out 1).trans rfl
            have hcz33_2 : w22.cell? ⟨gb102, 2, none⟩ = some (.int .i64 a0_2) := (blk_cell BK102.out 2).trans rfl
            have hcz33_3 : w22.cell? ⟨gb102, 3, none⟩ = some (.slice (some ad103) l0_3.length c0_3) := (blk_cell BK102.out 3).trans rfl
            have hfz33_0 := blk_frozen BK102.out 0
            have hfz33_1 := blk_frozen BK102.out 1
            have hfz33_2 := blk_frozen BK102.out 2
            have hfz33_3 := blk_frozen BK102.out 3
            go_wp2
            repeat (go_quiet (fail); try go_wp2)
            go_meet
            case rel => exact ⟨_, (true), (by first | rfl | (simp; done) | (simp [*]; done)), H', ⟨by have := HJ1.out; have := HK2.out; first | omega | exact Nat.le_refl _⟩, ⟨by (with_reducible repeat (first | refine blk_drewN ?_ _ | refine blk_drew ?_ | refine blk_alloc ?_ _)); refine blk_far ?_ NB102_104.out _; (with_reducible repeat (first | refine blk_drewN ?_ _ | refine blk_drew ?_ | refine blk_alloc ?_ _)); refine blk_far ?_ NB102_104.out _; (with_reducible repeat (first | refine blk_drewN ?_ _ | refine blk_drew ?_ | refine blk_alloc ?_ _)); exact BK102.out⟩, ⟨by (with_reducible repeat (first | refine blk_drewN ?_ _ | refine blk_drew ?_ | refine blk_alloc ?_ _)); refine blk_put (cs := #[.int .i64 ((rd_T63 l0_3 x4_2).f0), .int .i64 0]) ?_ 1 _ rfl; (with_reducible repeat (first | refine blk_drewN ?_ _ | refine blk_drew ?_ | refine blk_alloc ?_ _)); refine blk_put (cs := #[.int .i64 0, .int .i64 0]) ?_ 0 _ rfl; (with_reducible repeat (first | refine blk_drewN ?_ _ | refine blk_drew ?_ | refine blk_alloc ?_ _)); exact BK104.out⟩, ⟨by repeat (first | (with_reducible first | exact HB.out | apply below_alloc | apply pw_below_drewN | apply below_drew1 | refine below_set ?_ GE102.out | refine below_set ?_ GE104.out) | exact HB.out)⟩⟩
           ·rw [if_neg c30] at H
            have c30b0 : decide ((ji29) ≤ ((rd_T63 l0_3 x4_2).f0)) = false := decide_eq_false c30
            clear c30
            by_cases c34 : x4_2 > 0
            ·rw [if_pos c34] at H
             have c34b0 : decide (0 < x4_2) = true := decide_eq_true c34
             clear c34
             obtain ⟨ji35, hji35⟩ : ∃ j_ : Int, (wrap64 (x4_2 - 1)) = j_ := ⟨_, rfl⟩
             replace H : (if 0 ≤ (ji35) then (if (ji35) < (l0_3.length : Int) then (if ((rd_T63 l0_3 (ji35)).f0) ≥ ((rd_T63 l0_3 x4_2).f0) then (lookoutref31_Check.j2 k2 x3_2 x4_2 true a0_0 a0_1 a0_2 l0_3 ((rd_T63 l0_3 x4_2).f0) ((rd_T63 l0_3 x4_2).f1)) else (if ((rd_T63 l0_3 x4_2).f1) < 1 then (lookoutref31_Check.j2 k2 x3_2 x4_2 true a0_0 a0_1 a0_2 l0_3 ((rd_T63 l0_3 x4_2).f0) ((rd_T63 l0_3 x4_2).f1)) else (if ((rd_T63 l0_3 x4_2).f1) > a0_2 then (lookoutref31_Check.j2 k2 x3_2 x4_2 true a0_0 a0_1 a0_2 l0_3 ((rd_T63 l0_3 x4_2).f0) ((rd_T63 l0_3 x4_2).f1)) else (if ((rd_T63 l0_3 x4_2).f0) < (shl .i64 1 a0_0) then (if a0_1 = 0 then (none) else (lookoutref31_Check.j2 k2 x3_2 x4_2 (decide (((rd_T63 l0_3 x4_2).f1) > (wrap64 (Int.tdiv a0_2 a0_1)))) a0_0 a0_1 a0_2 l0_3 ((rd_T63 l0_3 x4_2).f0) ((rd_T63 l0_3 x4_2).f1))) else (lookoutref31_Check.j2 k2 x3_2 x4_2 false a0_0 a0_1 a0_2 l0_3 ((rd_T63 l0_3 x4_2).f0) ((rd_T63 l0_3 x4_2).f1)))))) else (none)) else (none)) = some r := by first | (rw [hji35] at H; exact H) | (simp only [hji35] at H ⊢; exact H)
             have hji35w : (IntKind.i64.wrap (x4_2 - 1)) = ji35 := (i64_w _).trans hji35
             by_cases c36 : 0 ≤ (ji35)
             ·rw [if_pos c36] at H
              have c36b0 : decide (0 ≤ (ji35)) = true := decide_eq_true c36
              clear c36
              by_cases c37 : (ji35) < (l0_3.length : Int)
              ·rw [if_pos c37] at H
               have c37b0 : decide ((ji35) < (l0_3.length : Int)) = true := decide_eq_true c37
               clear c37
               by_cases c38 : ((rd_T63 l0_3 (ji35)).f0) ≥ ((rd_T63 l0_3 x4_2).f0)
               ·rw [if_pos c38] at H
                have c38b0 : decide (((rd_T63 l0_3 x4_2).f0) ≤ ((rd_T63 l0_3 (ji35)).f0)) = true := decide_eq_true c38
                clear c38
                have H' := Aside0.mk H
                clear H
                have hnb39 := NB104_102.out
                have hnc39 := NB102_104.out
                have hcz40_0 : w22.cell? ⟨gb104, 0, none⟩ = some (.int .i64 0) := (blk_cell BK104.out 0).trans rfl
                have hcz40_1 : w22.cell? ⟨gb104, 1, none⟩ = some (.int .i64 0) := (blk_cell BK104.out 1).trans rfl
                have hfz40_0 := blk_frozen BK104.out 0
                have hfz40_1 := blk_frozen BK104.out 1
                have hcz41_0 : w22.cell? ⟨gb102, 0, none⟩ = some (.int .i64 a0_0) := (blk_cell BK102.out 0).trans rfl
                have hcz41_1 : w22.cell? ⟨gb102, 1, none⟩ = some (.int .i64 a0_1) := (blk_cell BK102.out 1).trans rfl
                have hcz41_2 : w22.cell? ⟨gb102, 2, none⟩ = some (.int .i64 a0_2) := (blk_cell BK102.out 2).trans rfl
                have hcz41_3 : w22.cell? ⟨gb102, 3, none⟩ = some (.slice (some ad103) l0_3.length c0_3) := (blk_cell BK102.out 3).trans rfl
                have hfz41_0 := blk_frozen BK102.out 0
                have hfz41_1 := blk_frozen BK102.out 1
                have hfz41_2 := blk_frozen BK102.out 2
                have hfz41_3 := blk_frozen BK102.out 3
                have p105 : 0 ≤ ((ji35) : Int) := of_decide_eq_true (by first | (with_reducible assumption) | assumption)
                have q105 : (ji35) < (l0_3.length : Int) := of_decide_eq_true (by first | (with_reducible assumption) | assumption)
                obtain ⟨ad105, e105, hx105_0, hx105_1⟩ := at_T63 HR0_3.out (ji35) p105 q105
                obtain rfl : ad103 = ad105 := (by injection e105)
                have hn105_0 : ad103.block ≠ gb104 := Nat.ne_of_lt (Nat.lt_of_lt_of_le (by have := World.block_lt_of_cell? _ _ hx105_0; first | rwa [add_block] at this | exact this) GW104.out)
                have hn105_1 : ad103.block ≠ gb104 := Nat.ne_of_lt (Nat.lt_of_lt_of_le (by have := World.block_lt_of_cell? _ _ hx105_0; first | rwa [add_block] at this | exact this) GW104.out)
                replace hx105_0 := (HB.out.cell (World.block_lt_of_cell? w _ hx105_0)).trans hx105_0
                replace hx105_1 := (HB.out.cell (World.block_lt_of_cell? w _ hx105_1)).trans hx105_1
                replace hx105_0 := (cell_far (p := ⟨gb104, 0, none⟩) (by first | (rw [add_block]; exact hn105_0) | (show (Addr.add _ _).block ≠ _; rw [add_block]; exact hn105_0) | exact hn105_0) (.int .i64 ((rd_T63 l0_3 x4_2).f0))).trans hx105_0
                replace hx105_1 := (cell_far (p := ⟨gb104, 0, none⟩) (by first | (rw [add_block]; exact hn105_0) | (show (Addr.add _ _).block ≠ _; rw [add_block]; exact hn105_0) | exact hn105_0) (.int .i64 ((rd_T63 l0_3 x4_2).f0))).trans hx105_1
                replace hx105_0 := (cell_far (p := ⟨gb104, 1, none⟩) (by first | (rw [add_block]; exact hn105_1) | (show (Addr.add _ _).block ≠ _; rw [add_block]; exact hn105_1) | exact hn105_1) (.int .i64 ((rd_T63 l0_3 x4_2).f1))).trans hx105_0
                replace hx105_1 := (cell_far (p := ⟨gb104, 1, none⟩) (by first | (rw [add_block]; exact hn105_1) | (show (Addr.add _ _).block ≠ _; rw [add_block]; exact hn105_1) | exact hn105_1) (.int .i64 ((rd_T63 l0_3 x4_2).f1))).trans hx105_1
                (try have hy105_0 := fun (n_ : Nat) => (show ((((w22.drewN n_).setCell ⟨gb104, 0, none⟩ (.int .i64 ((rd_T63 l0_3 x4_2).f0))).setCell ⟨gb104, 1, none⟩ (.int .i64 ((rd_T63 l0_3 x4_2).f1)))).cell? _ = some _ from hx105_0))
                (try have hy105_1 := fun (n_ : Nat) => (show ((((w22.drewN n_).setCell ⟨gb104, 0, none⟩ (.int .i64 ((rd_T63 l0_3 x4_2).f0))).setCell ⟨gb104, 1, none⟩ (.int .i64 ((rd_T63 l0_3 x4_2).f1)))).cell? _ = some _ from hx105_1))
                clear hn105_0
                clear hn105_1
                replace p105 := eq_true p105
                replace q105 := eq_true q105
                go_wp2
                repeat (go_quiet (fail); try go_wp2)
                go_meet
                case rel => exact ⟨_, (true), (by first | rfl | (simp; done) | (simp [*]; done)), H', ⟨by have := HJ1.out; have := HK2.out; first | omega | exact Nat.le_refl _⟩, ⟨by (with_reducible repeat (first | refine blk_drewN ?_ _ | refine blk_drew ?_ | refine blk_alloc ?_ _)); refine blk_far ?_ NB102_104.out _; (with_reducible repeat (first | refine blk_drewN ?_ _ | refine blk_drew ?_ | refine blk_alloc ?_ _)); refine blk_far ?_ NB102_104.out _; (with_reducible repeat (first | refine blk_drewN ?_ _ | refine blk_drew ?_ | refine blk_alloc ?_ _)); exact BK102.out⟩, ⟨by (with_reducible repeat (first | refine blk_drewN ?_ _ | refine blk_drew ?_ | refine blk_alloc ?_ _)); refine blk_put (cs := #[.int .i64 ((rd_T63 l0_3 x4_2).f0), .int .i64 0]) ?_ 1 _ rfl; (with_reducible repeat (first | refine blk_drewN ?_ _ | refine blk_drew ?_ | refine blk_alloc ?_ _)); refine blk_put (cs := #[.int .i64 0, .int .i64 0]) ?_ 0 _ rfl; (with_reducible repeat (first | refine blk_drewN ?_ _ | refine blk_drew ?_ | refine blk_alloc ?_ _)); exact BK104.out⟩, ⟨by repeat (first | (with_reducible first | exact HB.out | apply below_alloc | apply pw_below_drewN | apply below_drew1 | refine below_set ?_ GE102.out | refine below_set ?_ GE104.out) | exact HB.out)⟩⟩
               ·rw [if_neg c38] at H
                have c38b0 : decide (((rd_T63 l0_3 x4_2).f0) ≤ ((rd_T63 l0_3 (ji35)).f0)) = false := decide_eq_false c38
                clear c38
                by_cases c42 : ((rd_T63 l0_3 x4_2).f1) < 1
                ·rw [if_pos c42] at H
                 have c42b0 : decide (((rd_T63 l0_3 x4_2).f1) < 1) = true := decide_eq_true c42
                 clear c42
                 have H' := Aside0.mk H
                 clear H
                 have hnb43 := NB104_102.out
                 have hnc43 := NB102_104.out
                 have hcz44_0 : w22.cell? ⟨gb104, 0, none⟩ = some (.int .i64 0) := (blk_cell BK104.out 0).trans rfl
                 have hcz44_1 : w22.cell? ⟨gb104, 1, none⟩ = some (.int .i64 0) := (blk_cell BK104.out 1).trans rfl
                 have hfz44_0 := blk_frozen BK104.out 0
                 have hfz44_1 := blk_frozen BK104.out 1
                 have hcz45_0 : w22.cell? ⟨gb102, 0, none⟩ = some (.int .i64 a0_0) := (blk_cell BK102.out 0).trans rfl
                 have hcz45_1 : w22.cell? ⟨gb102, 1, none⟩ = some (.int .i64 a0_1) := (blk_cell BK102.out 1).trans rfl
                 have hcz45_2 : w22.cell? ⟨gb102, 2, none⟩ = some (.int .i64 a0_2) := (blk_cell BK102.out 2).trans rfl
                 have hcz45_3 : w22.cell? ⟨gb102, 3, none⟩ = some (.slice (some ad103) l0_3.length c0_3) := (blk_cell BK102.out 3).trans rfl
                 have hfz45_0 := blk_frozen BK102.out 0
                 have hfz45_1 := blk_frozen BK102.out 1
                 have hfz45_2 := blk_frozen BK102.out 2
                 have hfz45_3 := blk_frozen BK102.out 3
                 have p105 : 0 ≤ ((ji35) : Int) := of_decide_eq_true (by first | (with_reducible assumption) | assumption)
                 have q105 : (ji35) < (l0_3.length : Int) := of_decide_eq_true (by first | (with_reducible assumption) | assumption)
                 obtain ⟨ad105, e105, hx105_0, hx105_1⟩ := at_T63 HR0_3.out (ji35) p105 q105
                 obtain rfl : ad103 = ad105 := (by injection e105)
                 have hn105_0 : ad103.block ≠ gb104 := Nat.ne_of_lt (Nat.lt_of_lt_of_le (by have := World.block_lt_of_cell? _ _ hx105_0; first | rwa [add_block] at this | exact this) GW104.out)
                 have hn105_1 : ad103.block ≠ gb104 := Nat.ne_of_lt (Nat.lt_of_lt_of_le (by have := World.block_lt_of_cell? _ _ hx105_0; first | rwa [add_block] at this | exact this) GW104.out)
                 replace hx105_0 := (HB.out.cell (World.block_lt_of_cell? w _ hx105_0)).trans hx105_0
                 replace hx105_1 := (HB.out.cell (World.block_lt_of_cell? w _ hx105_1)).trans hx105_1
                 replace hx105_0 := (cell_far (p := ⟨gb104, 0, none⟩) (by first | (rw [add_block]; exact hn105_0) | (show (Addr.add _ _).block ≠ _; rw [add_block]; exact hn105_0) | exact hn105_0) (.int .i64 ((rd_T63 l0_3 x4_2).f0))).trans hx105_0
                 replace hx105_1 := (cell_far (p := ⟨gb104, 0, none⟩) (by first | (rw [add_block]; exact hn105_0) | (show (Addr.add _ _).block ≠ _; rw [add_block]; exact hn105_0) | exact hn105_0) (.int .i64 ((rd_T63 l0_3 x4_2).f0))).trans hx105_1
                 replace hx105_0 := (cell_far (p := ⟨gb104, 1, none⟩) (by first | (rw [add_block]; exact hn105_1) | (show (Addr.add _ _).block ≠ _; rw [add_block]; exact hn105_1) | exact hn105_1) (.int .i64 ((rd_T63 l0_3 x4_2).f1))).trans hx105_0
                 replace hx105_1 := (cell_far (p := ⟨gb104, 1, none⟩) (by first | (rw [add_block]; exact hn105_1) | (show (Addr.add _ _).block ≠ _; rw [add_block]; exact hn105_1) | exact hn105_1) (.int .i64 ((rd_T63 l0_3 x4_2).f1))).trans hx105_1
                 (try have hy105_0 := fun (n_ : Nat) => (show ((((w22.drewN n_).setCell ⟨gb104, 0, none⟩ (.int .i64 ((rd_T63 l0_3 x4_2).f0))).setCell ⟨gb104, 1, none⟩ (.int .i64 ((rd_T63 l0_3 x4_2).f1)))).cell? _ = some _ from hx105_0))
                 (try have hy105_1 := fun (n_ : Nat) => (show ((((w22.drewN n_).setCell ⟨gb104, 0, none⟩ (.int .i64 ((rd_T63 l0_3 x4_2).f0))).setCell ⟨gb104, 1, none⟩ (.int .i64 ((rd_T63 l0_3 x4_2).f1)))).cell? _ = some _ from hx105_1))
                 clear hn105_0
                 clear hn105_1
                 replace p105 := eq_true p105
                 replace q105 := eq_true q105
                 go_wp2
                 repeat (go_quiet (fail); try go_wp2)
                 go_meet
                 case rel => exact ⟨_, (true), (by first | rfl | (simp; done) | (simp [*]; done)), H', ⟨by have := HJ1.out; have := HK2.out; first | omega | exact Nat.le_refl _⟩, ⟨by (with_reducible repeat (first | refine blk_drewN ?_ _ | refine blk_drew ?_ | refine blk_alloc ?_ _)); refine blk_far ?_ NB102_104.out _; (with_reducible repeat (first | refine blk_drewN ?_ _ | refine blk_drew ?_ | refine blk_alloc ?_ _)); refine blk_far ?_ NB102_104.out _; (with_reducible repeat (first | refine blk_drewN ?_ _ | refine blk_drew ?_ | refine blk_alloc ?_ _)); exact BK102.out⟩, ⟨by (with_reducible repeat (first | refine blk_drewN ?_ _ | refine blk_drew ?_ | refine blk_alloc ?_ _)); refine blk_put (cs := #[.int .i64 ((rd_T63 l0_3 x4_2).f0), .int .i64 0]) ?_ 1 _ rfl; (with_reducible repeat (first | refine blk_drewN ?_ _ | refine blk_drew ?_ | refine blk_alloc ?_ _)); refine blk_put (cs := #[.int .i64 0, .int .i64 0]) ?_ 0 _ rfl; (with_reducible repeat (first | refine blk_drewN ?_ _ | refine blk_drew ?_ | refine blk_alloc ?_ _)); exact BK104.out⟩, ⟨by repeat (first | (with_reducible first | exact HB.out | apply below_alloc | apply pw_below_drewN | apply below_drew1 | refine below_set ?_ GE102.out | refine below_set ?_ GE104.out) | exact HB.out)⟩⟩
                ·rw [if_neg c42] at H
                 have c42b0 : decide (((rd_T63 l0_3 x4_2).f1) < 1) = false := decide_eq_false c42
                 clear c42
                 by_cases c46 : ((rd_T63 l0_3 x4_2).f1) > a0_2
                 ·rw [if_pos c46] at H
                  have c46b0 : decide (a0_2 < ((rd_T63 l0_3 x4_2).f1)) = true := decide_eq_true c46
                  clear c46
                  have H' := Aside0.mk H
                  clear H
                  have hnb47 := NB104_102.out
                  have hnc47 := NB102_104.out
                  have hcz48_0 : w22.cell? ⟨gb104, 0, none⟩ = some (.int .i64 0) := (blk_cell BK104.out 0).trans rfl
                  have hcz48_1 : w22.cell? ⟨gb104, 1, none⟩ = some (.int .i64 0) := (blk_cell BK104.out 1).trans rfl
                  have hfz48_0 := blk_frozen BK104.out 0
                  have hfz48_1 := blk_frozen BK104.out 1
                  have hcz49_0 : w22.cell? ⟨gb102, 0, none⟩ = some (.int .i64 a0_0) := (blk_cell BK102.out 0).trans rfl
                  have hcz49_1 : w22.cell? ⟨gb102, 1, none⟩ = some (.int .i64 a0_1) := (blk_cell BK102.out 1).trans rfl
                  have hcz49_2 : w22.cell? ⟨gb102, 2, none⟩ = some (.int .i64 a0_2) := (blk_cell BK102.out 2).trans rfl
                  have hcz49_3 : w22.cell? ⟨gb102, 3, none⟩ = some (.slice (some ad103) l0_3.length c0_3) := (blk_cell BK102.out 3).trans rfl
                  have hfz49_0 := blk_frozen BK102.out 0
                  have hfz49_1 := blk_frozen BK102.out 1
                  have hfz49_2 := blk_frozen BK102.out 2
                  have hfz49_3 := blk_frozen BK102.out 3
                  have p105 : 0 ≤ ((ji35) : Int) := of_decide_eq_true (by first | (with_reducible assumption) | assumption)
                  have q105 : (ji35) < (l0_3.length : Int) := of_decide_eq_true (by first | (with_reducible assumption) | assumption)
                  obtain ⟨ad105, e105, hx105_0, hx105_1⟩ := at_T63 HR0_3.out (ji35) p105 q105
                  obtain rfl : ad103 = ad105 := (by injection e105)
                  have hn105_0 : ad103.block ≠ gb104 := Nat.ne_of_lt (Nat.lt_of_lt_of_le (by have := World.block_lt_of_cell? _ _ hx105_0; first | rwa [add_block] at this | exact this) GW104.out)
                  have hn105_1 : ad103.block ≠ gb104 := Nat.ne_of_lt (Nat.lt_of_lt_of_le (by have := World.block_lt_of_cell? _ _ hx105_0; first | rwa [add_block] at this | exact this) GW104.out)
                  replace hx105_0 := (HB.out.cell (World.block_lt_of_cell? w _ hx105_0)).trans hx105_0
                  replace hx105_1 := (HB.out.cell (World.block_lt_of_cell? w _ hx105_1)).trans hx105_1
                  replace hx105_0 := (cell_far (p := ⟨gb104, 0, none⟩) (by first | (rw [add_block]; exact hn105_0) | (show (Addr.add _ _).block ≠ _; rw [add_block]; exact hn105_0) | exact hn105_0) (.int .i64 ((rd_T63 l0_3 x4_2).f0))).trans hx105_0
                  replace hx105_1 := (cell_far (p := ⟨gb104, 0, none⟩) (by first | (rw [add_block]; exact hn105_0) | (show (Addr.add _ _).block ≠ _; rw [add_block]; exact hn105_0) | exact hn105_0) (.int .i64 ((rd_T63 l0_3 x4_2).f0))).trans hx105_1
                  replace hx105_0 := (cell_far (p := ⟨gb104, 1, none⟩) (by first | (rw [add_block]; exact hn105_1) | (show (Addr.add _ _).block ≠ _; rw [add_block]; exact hn105_1) | exact hn105_1) (.int .i64 ((rd_T63 l0_3 x4_2).f1))).trans hx105_0
                  replace hx105_1 := (cell_far (p := ⟨gb104, 1, none⟩) (by first | (rw [add_block]; exact hn105_1) | (show (Addr.add _ _).block ≠ _; rw [add_block]; exact hn105_1) | exact hn105_1) (.int .i64 ((rd_T63 l0_3 x4_2).f1))).trans hx105_1
                  (try have hy105_0 := fun (n_ : Nat) => (show ((((w22.drewN n_).setCell ⟨gb104, 0, none⟩ (.int .i64 ((rd_T63 l0_3 x4_2).f0))).setCell ⟨gb104, 1, none⟩ (.int .i64 ((rd_T63 l0_3 x4_2).f1)))).cell? _ = some _ from hx105_0))
                  (try have hy105_1 := fun (n_ : Nat) => (show ((((w22.drewN n_).setCell ⟨gb104, 0, none⟩ (.int .i64 ((rd_T63 l0_3 x4_2).f0))).setCell ⟨gb104, 1, none⟩ (.int .i64 ((rd_T63 l0_3 x4_2).f1)))).cell? _ = some _ from hx105_1))
                  clear hn105_0
                  clear hn105_1
                  replace p105 := eq_true p105
                  replace q105 := eq_true q105
                  go_wp2
                  repeat (go_quiet (fail); try go_wp2)
                  go_meet
                  case rel => exact ⟨_, (true), (by first | rfl | (simp; done) | (simp [*]; done)), H', ⟨by have := HJ1.out; have := HK2.out; first | omega | exact Nat.le_refl _⟩, ⟨by (with_reducible repeat (first | refine blk_drewN ?_ _ | refine blk_drew ?_ | refine blk_alloc ?_ _)); refine blk_far ?_ NB102_104.out _; (with_reducible repeat (first | refine blk_drewN ?_ _ | refine blk_drew ?_ | refine blk_alloc ?_ _)); refine blk_far ?_ NB102_104.out _; (with_reducible repeat (first | refine blk_drewN ?_ _ | refine blk_drew ?_ | refine blk_alloc ?_ _)); exact BK102.out⟩, ⟨by (with_reducible repeat (first | refine blk_drewN ?_ _ | refine blk_drew ?_ | refine blk_alloc ?_ _)); refine blk_put (cs := #[.int .i64 ((rd_T63 l0_3 x4_2).f0), .int .i64 0]) ?_ 1 _ rfl; (with_reducible repeat (first | refine blk_drewN ?_ _ | refine blk_drew ?_ | refine blk_alloc ?_ _)); refine blk_put (cs := #[.int .i64 0, .int .i64 0]) ?_ 0 _ rfl; (with_reducible repeat (first | refine blk_drewN ?_ _ | refine blk_drew ?_ | refine blk_alloc ?_ _)); exact BK104.out⟩, ⟨by repeat (first | (with_reducible first | exact HB.out | apply below_alloc | apply pw_below_drewN | apply below_drew1 | refine below_set ?_ GE102.out | refine below_set ?_ GE104.out) | exact HB.out)⟩⟩
                 ·rw [if_neg c46] at H
                  have c46b0 : decide (a0_2 < ((rd_T63 l0_3 x4_2).f1)) = false := decide_eq_false c46
                  clear c46
                  have c50b0 := eq_true (of_decide_eq_true (by first | (with_reducible assumption) | assumption) : 0 ≤ a0_0)
                  obtain ⟨ji51, hji51⟩ : ∃ j_ : Int, (shl .i64 1 a0_0) = j_ := ⟨_, rfl⟩
                  replace H : (if ((rd_T63 l0_3 x4_2).f0) < (ji51) then (if a0_1 = 0 then (none) else (lookoutref31_Check.j2 k2 x3_2 x4_2 (decide (((rd_T63 l0_3 x4_2).f1) > (wrap64 (Int.tdiv a0_2 a0_1)))) a0_0 a0_1 a0_2 l0_3 ((rd_T63 l0_3 x4_2).f0) ((rd_T63 l0_3 x4_2).f1))) else (lookoutref31_Check.j2 k2 x3_2 x4_2 false a0_0 a0_1 a0_2 l0_3 ((rd_T63 l0_3 x4_2).f0) ((rd_T63 l0_3 x4_2).f1))) = some r := by first | (rw [hji51] at H; exact H) | (simp only [hji51] at H ⊢; exact H)
                  have hji51_ : (IntKind.i64.wrap (1 * 2 ^ min a0_0.toNat 64)) = ji51 := hji51
                  have hji51z : a0_0 ≤ 64 → (IntKind.i64.wrap (1 * 2 ^ a0_0.toNat)) = ji51 := shl_small hji51
                  have hji51u : (IntKind.i64.wrap (2 ^ min a0_0.toNat 64)) = ji51 := by have h_ := hji51_; rw [Int.one_mul] at h_; exact h_
                  have hji51v : a0_0 ≤ 64 → (IntKind.i64.wrap (2 ^ a0_0.toNat)) = ji51 := fun hle_ => by have h_ := hji51z hle_; rw [Int.one_mul] at h_; exact h_
                  have hji51y : (wrap64 (1 * 2 ^ min a0_0.toNat 64)) = ji51 := (i64_w _).symm.trans hji51_
                  have hji51x : a0_0 ≤ 64 → (wrap64 (1 * 2 ^ a0_0.toNat)) = ji51 := fun h_ => (i64_w _).symm.trans (hji51z h_)
                  by_cases c52 : ((rd_T63 l0_3 x4_2).f0) < (ji51)
                  ·rw [if_pos c52] at H
                   have c52b0 : decide (((rd_T63 l0_3 x4_2).f0) < (ji51)) = true := decide_eq_true c52
                   clear c52
                   by_cases c53 : a0_1 = 0
                   ·rw [if_pos c53] at H
                    exact absurd H (by simp)
                   ·rw [if_neg c53] at H
                    have c53b0 : (a0_1 == 0) = false := beq_eq_false_iff_ne.mpr c53
                    have c53b1 : (a0_1 != 0) = true := bne_iff_ne.mpr c53
                    have H' := Aside0.mk H
                    clear H
                    have hnb54 := NB104_102.out
                    have hnc54 := NB102_104.out
                    have hcz55_0 : w22.cell? ⟨gb104, 0, none⟩ = some (.int .i64 0) := (blk_cell BK104.out 0).trans rfl
                    have hcz55_1 : w22.cell? ⟨gb104, 1, none⟩ = some (.int .i64 0) := (blk_cell BK104.out 1).trans rfl
                    have hfz55_0 := blk_frozen BK104.out 0
                    have hfz55_1 := blk_frozen BK104.out 1
                    have hcz56_0 : w22.cell? ⟨gb102, 0, none⟩ = some (.int .i64 a0_0) := (blk_cell BK102.out 0).trans rfl
                    have hcz56_1 : w22.cell? ⟨gb102, 1, none⟩ = some (.int .i64 a0_1) := (blk_cell BK102.out 1).trans rfl
                    have hcz56_2 : w22.cell? ⟨gb102, 2, none⟩ = some (.int .i64 a0_2) := (blk_cell BK102.out 2).trans rfl
                    have hcz56_3 : w22.cell? ⟨gb102, 3, none⟩ = some (.slice (some ad103) l0_3.length c0_3) := (blk_cell BK102.out 3).trans rfl
                    have hfz56_0 := blk_frozen BK102.out 0
                    have hfz56_1 := blk_frozen BK102.out 1
                    have hfz56_2 := blk_frozen BK102.out 2
                    have hfz56_3 := blk_frozen BK102.out 3
                    have p105 : 0 ≤ ((ji35) : Int) := of_decide_eq_true (by first | (with_reducible assumption) | assumption)
                    have q105 : (ji35) < (l0_3.length : Int) := of_decide_eq_true (by first | (with_reducible assumption) | assumption)
                    obtain ⟨ad105, e105, hx105_0, hx105_1⟩ := at_T63 HR0_3.out (ji35) p105 q105
                    obtain rfl : ad103 = ad105 := (by injection e105)
                    have hn105_0 : ad103.block ≠ gb104 := Nat.ne_of_lt (Nat.lt_of_lt_of_le (by have := World.block_lt_of_cell? _ _ hx105_0; first | rwa [add_block] at this | exact this) GW104.out)
                    have hn105_1 : ad103.block ≠ gb104 := Nat.ne_of_lt (Nat.lt_of_lt_of_le (by have := World.block_lt_of_cell? _ _ hx105_0; first | rwa [add_block] at this | exact this) GW104.out)
                    replace hx105_0 := (HB.out.cell (World.block_lt_of_cell? w _ hx105_0)).trans hx105_0
                    replace hx105_1 := (HB.out.cell (World.block_lt_of_cell? w _ hx105_1)).trans hx105_1
                    replace hx105_0 := (cell_far (p := ⟨gb104, 0, none⟩) (by first | (rw [add_block]; exact hn105_0) | (show (Addr.add _ _).block ≠ _; rw [add_block]; exact hn105_0) | exact hn105_0) (.int .i64 ((rd_T63 l0_3 x4_2).f0))).trans hx105_0
                    replace hx105_1 := (cell_far (p := ⟨gb104, 0, none⟩) (by first | (rw [add_block]; exact hn105_0) | (show (Addr.add _ _).block ≠ _; rw [add_block]; exact hn105_0) | exact hn105_0) (.int .i64 ((rd_T63 l0_3 x4_2).f0))).trans hx105_1
                    replace hx105_0 := (cell_far (p := ⟨gb104, 1, none⟩) (by first | (rw [add_block]; exact hn105_1) | (show (Addr.add _ _).block ≠ _; rw [add_block]; exact hn105_1) | exact hn105_1) (.int .i64 ((rd_T63 l0_3 x4_2).f1))).trans hx105_0
                    replace hx105_1 := (cell_far (p := ⟨gb104, 1, none⟩) (by first | (rw [add_block]; exact hn105_1) | (show (Addr.add _ _).block ≠ _; rw [add_block]; exact hn105_1) | exact hn105_1) (.int .i64 ((rd_T63 l0_3 x4_2).f1))).trans hx105_1
                    (try have hy105_0 := fun (n_ : Nat) => (show ((((w22.drewN n_).setCell ⟨gb104, 0, none⟩ (.int .i64 ((rd_T63 l0_3 x4_2).f0))).setCell ⟨gb104, 1, none⟩ (.int .i64 ((rd_T63 l0_3 x4_2).f1)))).cell? _ = some _ from hx105_0))
                    (try have hy105_1 := fun (n_ : Nat) => (show ((((w22.drewN n_).setCell ⟨gb104, 0, none⟩ (.int .i64 ((rd_T63 l0_3 x4_2).f0))).setCell ⟨gb104, 1, none⟩ (.int .i64 ((rd_T63 l0_3 x4_2).f1)))).cell? _ = some _ from hx105_1))
                    clear hn105_0
                    clear hn105_1
                    replace p105 := eq_true p105
                    replace q105 := eq_true q105
                    go_wp2
                    repeat (go_quiet (fail); try go_wp2)
                    go_meet
                    case rel => exact ⟨_, (decide (((rd_T63 l0_3 x4_2).f1) > (wrap64 (Int.tdiv a0_2 a0_1)))), (by first | rfl | (simp; done) | (simp [*]; done)), H', ⟨by have := HJ1.out; have := HK2.out; first | omega | exact Nat.le_refl _⟩, ⟨by (with_reducible repeat (first | refine blk_drewN ?_ _ | refine blk_drew ?_ | refine blk_alloc ?_ _)); refine blk_far ?_ NB102_104.out _; (with_reducible repeat (first | refine blk_drewN ?_ _ | refine blk_drew ?_ | refine blk_alloc ?_ _)); refine blk_far ?_ NB102_104.out _; (with_reducible repeat (first | refine blk_drewN ?_ _ | refine blk_drew ?_ | refine blk_alloc ?_ _)); exact BK102.out⟩, ⟨by (with_reducible repeat (first | refine blk_drewN ?_ _ | refine blk_drew ?_ | refine blk_alloc ?_ _)); refine blk_put (cs := #[.int .i64 ((rd_T63 l0_3 x4_2).f0), .int .i64 0]) ?_ 1 _ rfl; (with_reducible repeat (first | refine blk_drewN ?_ _ | refine blk_drew ?_ | refine blk_alloc ?_ _)); refine blk_put (cs := #[.int .i64 0, .int .i64 0]) ?_ 0 _ rfl; (with_reducible repeat (first | refine blk_drewN ?_ _ | refine blk_drew ?_ | refine blk_alloc ?_ _)); exact BK104.out⟩, ⟨by repeat (first | (with_reducible first | exact HB.out | apply below_alloc | apply pw_below_drewN | apply below_drew1 | refine below_set ?_ GE102.out | refine below_set ?_ GE104.out) | exact HB.out)⟩⟩
                  ·rw [if_neg c52] at H
                   have c52b0 : decide (((rd_T63 l0_3 x4_2).f0) < (ji51)) = false := decide_eq_false c52
                   clear c52
                   have H' := Aside0.mk H
                   clear H
                   have hnb57 := NB104_102.out
                   have hnc57 := NB102_104.out
                   have hcz58_0 : w22.cell? ⟨gb104, 0, none⟩ = some (.int .i64 0) := (blk_cell BK104.out 0).trans rfl
                   have hcz58_1 : w22.cell? ⟨gb104, 1, none⟩ = some (.int .i64 0) := (blk_cell BK104.out 1).trans rfl
                   have hfz58_0 := blk_frozen BK104.out 0
                   have hfz58_1 := blk_frozen BK104.out 1
                   have hcz59_0 : w22.cell? ⟨gb102, 0, none⟩ = some (.int .i64 a0_0) := (blk_cell BK102.out 0).trans rfl
                   have hcz59_1 : w22.cell? ⟨gb102, 1, none⟩ = some (.int .i64 a0_1) := (blk_cell BK102.out 1).trans rfl
                   have hcz59_2 : w22.cell? ⟨gb102, 2, none⟩ = some (.int .i64 a0_2) := (blk_cell BK102.out 2).trans rfl
                   have hcz59_3 : w22.cell? ⟨gb102, 3, none⟩ = some (.slice (some ad103) l0_3.length c0_3) := (blk_cell BK102.out 3).trans rfl
                   have hfz59_0 := blk_frozen BK102.out 0
                   have hfz59_1 := blk_frozen BK102.out 1
                   have hfz59_2 := blk_frozen BK102.out 2
                   have hfz59_3 := blk_frozen BK102.out 3
                   have p105 : 0 ≤ ((ji35) : Int) := of_decide_eq_true (by first | (with_reducible assumption) | assumption)
                   have q105 : (ji35) < (l0_3.length : Int) := of_decide_eq_true (by first | (with_reducible assumption) | assumption)
                   obtain ⟨ad105, e105, hx105_0, hx105_1⟩ := at_T63 HR0_3.out (ji35) p105 q105
                   obtain rfl : ad103 = ad105 := (by injection e105)
                   have hn105_0 : ad103.block ≠ gb104 := Nat.ne_of_lt (Nat.lt_of_lt_of_le (by have := World.block_lt_of_cell? _ _ hx105_0; first | rwa [add_block] at this | exact this) GW104.out)
                   have hn105_1 : ad103.block ≠ gb104 := Nat.ne_of_lt (Nat.lt_of_lt_of_le (by have := World.block_lt_of_cell? _ _ hx105_0; first | rwa [add_block] at this | exact this) GW104.out)
                   replace hx105_0 := (HB.out.cell (World.block_lt_of_cell? w _ hx105_0)).trans hx105_0
                   replace hx105_1 := (HB.out.cell (World.block_lt_of_cell? w _ hx105_1)).trans hx105_1
                   replace hx105_0 := (cell_far (p := ⟨gb104, 0, none⟩) (by first | (rw [add_block]; exact hn105_0) | (show (Addr.add _ _).block ≠ _; rw [add_block]; exact hn105_0) | exact hn105_0) (.int .i64 ((rd_T63 l0_3 x4_2).f0))).trans hx105_0
                   replace hx105_1 := (cell_far (p := ⟨gb104, 0, none⟩) (by first | (rw [add_block]; exact hn105_0) | (show (Addr.add _ _).block ≠ _; rw [add_block]; exact hn105_0) | exact hn105_0) (.int .i64 ((rd_T63 l0_3 x4_2).f0))).trans hx105_1
                   replace hx105_0 := (cell_far (p := ⟨gb104, 1, none⟩) (by first | (rw [add_block]; exact hn105_1) | (show (Addr.add _ _).block ≠ _; rw [add_block]; exact hn105_1) | exact hn105_1) (.int .i64 ((rd_T63 l0_3 x4_2).f1))).trans hx105_0
                   replace hx105_1 := (cell_far (p := ⟨gb104, 1, none⟩) (by first | (rw [add_block]; exact hn105_1) | (show (Addr.add _ _).block ≠ _; rw [add_block]; exact hn105_1) | exact hn105_1) (.int .i64 ((rd_T63 l0_3 x4_2).f1))).trans hx105_1
                   (try have hy105_0 := fun (n_ : Nat) => (show ((((w22.drewN n_).setCell ⟨gb104, 0, none⟩ (.int .i64 ((rd_T63 l0_3 x4_2).f0))).setCell ⟨gb104, 1, none⟩ (.int .i64 ((rd_T63 l0_3 x4_2).f1)))).cell? _ = some _ from hx105_0))
                   (try have hy105_1 := fun (n_ : Nat) => (show ((((w22.drewN n_).setCell ⟨gb104, 0, none⟩ (.int .i64 ((rd_T63 l0_3 x4_2).f0))).setCell ⟨gb104, 1, none⟩ (.int .i64 ((rd_T63 l0_3 x4_2).f1)))).cell? _ = some _ from hx105_1))
                   clear hn105_0
                   clear hn105_1
                   replace p105 := eq_true p105
                   replace q105 := eq_true q105
                   go_wp2
                   repeat (go_quiet (fail); try go_wp2)
                   go_meet
                   case rel => exact ⟨_, (false), (by first | rfl | (simp; done) | (simp [*]; done)), H', ⟨by have := HJ1.out; have := HK2.out; first | omega | exact Nat.le_refl _⟩, ⟨by (with_reducible repeat (first | refine blk_drewN ?_ _ | refine blk_drew ?_ | refine blk_alloc ?_ _)); refine blk_far ?_ NB102_104.out _; (with_reducible repeat (first | refine blk_drewN ?_ _ | refine blk_drew ?_ | refine blk_alloc ?_ _)); refine blk_far ?_ NB102_104.out _; (with_reducible repeat (first | refine blk_drewN ?_ _ | refine blk_drew ?_ | refine blk_alloc ?_ _)); exact BK102.out⟩, ⟨by (with_reducible repeat (first | refine blk_drewN ?_ _ | refine blk_drew ?_ | refine blk_alloc ?_ _)); refine blk_put (cs := #[.int .i64 ((rd_T63 l0_3 x4_2).f0), .int .i64 0]) ?_ 1 _ rfl; (with_reducible repeat (first | refine blk_drewN ?_ _ | refine blk_drew ?_ | refine blk_alloc ?_ _)); refine blk_put (cs := #[.int .i64 0, .int .i64 0]) ?_ 0 _ rfl; (with_reducible repeat (first | refine blk_drewN ?_ _ | refine blk_drew ?_ | refine blk_alloc ?_ _)); exact BK104.out⟩, ⟨by repeat (first | (with_reducible first | exact HB.out | apply below_alloc | apply pw_below_drewN | apply below_drew1 | refine below_set ?_ GE102.out | refine below_set ?_ GE104.out) | exact HB.out)⟩⟩
              ·rw [if_neg c37] at H
               exact absurd H (by simp)
             ·rw [if_neg c36] at H
              exact absurd H (by simp)
            ·rw [if_neg c34] at H
             have c34b0 : decide (0 < x4_2) = false := decide_eq_false c34
             clear c34
             by_cases c60 : ((rd_T63 l0_3 x4_2).f1) < 1
             ·rw [if_pos c60] at H
              have c60b0 : decide (((rd_T63 l0_3 x4_2).f1) < 1) = true := decide_eq_true c60
              clear c60
              have H' := Aside0.mk H
              clear H
              have hnb61 := NB104_102.out
              have hnc61 := NB102_104.out
              have hcz62_0 : w22.cell? ⟨gb104, 0, none⟩ = some (.int .i64 0) := (blk_cell BK104.out 0).trans rfl
              have hcz62_1 : w22.cell? ⟨gb104, 1, none⟩ = some (.int .i64 0) := (blk_cell BK104.out 1).trans rfl
              have hfz62_0 := blk_frozen BK104.out 0
              have hfz62_1 := blk_frozen BK104.out 1
              have hcz63_0 : w22.cell? ⟨gb102, 0, none⟩ = some (.int .i64 a0_0) := (blk_cell BK102.out 0).trans rfl
              have hcz63_1 : w22.cell? ⟨gb102, 1, none⟩ = some (.int .i64 a0_1) := (blk_cell BK102.out 1).trans rfl
              have hcz63_2 : w22.cell? ⟨gb102, 2, none⟩ = some (.int .i64 a0_2) := (blk_cell BK102.out 2).trans rfl
              have hcz63_3 : w22.cell? ⟨gb102, 3, none⟩ = some (.slice (some ad103) l0_3.length c0_3) := (blk_cell BK102.out 3).trans rfl
              have hfz63_0 := blk_frozen BK102.out 0
              have hfz63_1 := blk_frozen BK102.out 1
              have hfz63_2 := blk_frozen BK102.out 2
              have hfz63_3 := blk_frozen BK102.out 3
              go_wp2
              repeat (go_quiet (fail); try go_wp2)
              go_meet
              case rel => exact ⟨_, (true), (by first | rfl | (simp; done) | (simp [*]; done)), H', ⟨by have := HJ1.out; have := HK2.out; first | omega | exact Nat.le_refl _⟩, ⟨by (with_reducible repeat (first | refine blk_drewN ?_ _ | refine blk_drew ?_ | refine blk_alloc ?_ _)); refine blk_far ?_ NB102_104.out _; (with_reducible repeat (first | refine blk_drewN ?_ _ | refine blk_drew ?_ | refine blk_alloc ?_ _)); refine blk_far ?_ NB102_104.out _; (with_reducible repeat (first | refine blk_drewN ?_ _ | refine blk_drew ?_ | refine blk_alloc ?_ _)); exact BK102.out⟩, ⟨by (with_reducible repeat (first | refine blk_drewN ?_ _ | refine blk_drew ?_ | refine blk_alloc ?_ _)); refine blk_put (cs := #[.int .i64 ((rd_T63 l0_3 x4_2).f0), .int .i64 0]) ?_ 1 _ rfl; (with_reducible repeat (first | refine blk_drewN ?_ _ | refine blk_drew ?_ | refine blk_alloc ?_ _)); refine blk_put (cs := #[.int .i64 0, .int .i64 0]) ?_ 0 _ rfl; (with_reducible repeat (first | refine blk_drewN ?_ _ | refine blk_drew ?_ | refine blk_alloc ?_ _)); exact BK104.out⟩, ⟨by repeat (first | (with_reducible first | exact HB.out | apply below_alloc | apply pw_below_drewN | apply below_drew1 | refine below_set ?_ GE102.out | refine below_set ?_ GE104.out) | exact HB.out)⟩⟩
             ·rw [if_neg c60] at H
              have c60b0 : decide (((rd_T63 l0_3 x4_2).f1) < 1) = false := decide_eq_false c60
              clear c60
              by_cases c64 : ((rd_T63 l0_3 x4_2).f1) > a0_2
              ·rw [if_pos c64] at H
               have c64b0 : decide (a0_2 < ((rd_T63 l0_3 x4_2).f1)) = true := decide_eq_true c64
               clear c64
               have H' := Aside0.mk H
               clear H
               have hnb65 := NB104_102.out
               have hnc65 := NB102_104.out
               have hcz66_0 : w22.cell? ⟨gb104, 0, none⟩ = some (.int .i64 0) := (blk_cell BK104.out 0).trans rfl
               have hcz66_1 : w22.cell? ⟨gb104, 1, none⟩ = some (.int .i64 0) := (blk_cell BK104.out 1).trans rfl
               have hfz66_0 := blk_frozen BK104.out 0
               have hfz66_1 := blk_frozen BK104.out 1
               have hcz67_0 : w22.cell? ⟨gb102, 0, none⟩ = some (.int .i64 a0_0) := (blk_cell BK102.out 0).trans rfl
               have hcz67_1 : w22.cell? ⟨gb102, 1, none⟩ = some (.int .i64 a0_1) := (blk_cell BK102.out 1).trans rfl
               have hcz67_2 : w22.cell? ⟨gb102, 2, none⟩ = some (.int .i64 a0_2) := (blk_cell BK102.out 2).trans rfl
               have hcz67_3 : w22.cell? ⟨gb102, 3, none⟩ = some (.slice (some ad103) l0_3.length c0_3) := (blk_cell BK102.out 3).trans rfl
               have hfz67_0 := blk_frozen BK102.out 0
               have hfz67_1 := blk_frozen BK102.out 1
               have hfz67_2 := blk_frozen BK102.out 2
               have hfz67_3 := blk_frozen BK102.out 3
               go_wp2
               repeat (go_quiet (fail); try go_wp2)
               go_meet
               case rel => exact ⟨_, (true), (by first | rfl | (simp; done) | (simp [*]; done)), H', ⟨by have := HJ1.out; have := HK2.out; first | omega | exact Nat.le_refl _⟩, ⟨by (with_reducible repeat (first | refine blk_drewN ?_ _ | refine blk_drew ?_ | refine blk_alloc ?_ _)); refine blk_far ?_ NB102_104.out _; (with_reducible repeat (first | refine blk_drewN ?_ _ | refine blk_drew ?_ | refine blk_alloc ?_ _)); refine blk_far ?_ NB102_104.out _; (with_reducible repeat (first | refine blk_drewN ?_ _ | refine blk_drew ?_ | refine blk_alloc ?_ _)); exact BK102.out⟩, ⟨by (with_reducible repeat (first | refine blk_drewN ?_ _ | refine blk_drew ?_ | refine blk_alloc ?_ _)); refine blk_put (cs := #[.int .i64 ((rd_T63 l0_3 x4_2).f0), .int .i64 0]) ?_ 1 _ rfl; (with_reducible repeat (first | refine blk_drewN ?_ _ | refine blk_drew ?_ | refine blk_alloc ?_ _)); refine blk_put (cs := #[.int .i64 0, .int .i64 0]) ?_ 0 _ rfl; (with_reducible repeat (first | refine blk_drewN ?_ _ | refine blk_drew ?_ | refine blk_alloc ?_ _)); exact BK104.out⟩, ⟨by repeat (first | (with_reducible first | exact HB.out | apply below_alloc | apply pw_below_drewN | apply below_drew1 | refine below_set ?_ GE102.out | refine below_set ?_ GE104.out) | exact HB.out)⟩⟩
              ·rw [if_neg c64] at H
               have c64b0 : decide (a0_2 < ((rd_T63 l0_3 x4_2).f1)) = false := decide_eq_false c64
               clear c64
               have c68b0 := eq_true (of_decide_eq_true (by first | (with_reducible assumption) | assumption) : 0 ≤ a0_0)
               obtain ⟨ji69, hji69⟩ : ∃ j_ : Int, (shl .i64 1 a0_0) = j_ := ⟨_, rfl⟩
               replace H : (if ((rd_T63 l0_3 x4_2).f0) < (ji69) then (if a0_1 = 0 then (none) else (lookoutref31_Check.j2 k2 x3_2 x4_2 (decide (((rd_T63 l0_3 x4_2).f1) > (wrap64 (Int.tdiv a0_2 a0_1)))) a0_0 a0_1 a0_2 l0_3 ((rd_T63 l0_3 x4_2).f0) ((rd_T63 l0_3 x4_2).f1))) else (lookoutref31_Check.j2 k2 x3_2 x4_2 false a0_0 a0_1 a0_2 l0_3 ((rd_T63 l0_3 x4_2).f0) ((rd_T63 l0_3 x4_2).f1))) = some r := by first | (rw [hji69] at H; exact H) | (simp only [hji69] at H ⊢; exact H)
               have hji69_ : (IntKind.i64.wrap (1 * 2 ^ min a0_0.toNat 64)) = ji69 := hji69
               have hji69z : a0_0 ≤ 64 → (IntKind.i64.wrap (1 * 2 ^ a0_0.toNat)) = ji69 := shl_small hji69
               have hji69u : (IntKind.i64.wrap (2 ^ min a0_0.toNat 64)) = ji69 := by have h_ := hji69_; rw [Int.one_mul] at h_; exact h_
               have hji69v : a0_0 ≤ 64 → (IntKind.i64.wrap (2 ^ a0_0.toNat)) = ji69 := fun hle_ => by have h_ := hji69z hle_; rw [Int.one_mul] at h_; exact h_
               have hji69y : (wrap64 (1 * 2 ^ min a0_0.toNat 64)) = ji69 := (i64_w _).symm.trans hji69_
               have hji69x : a0_0 ≤ 64 → (wrap64 (1 * 2 ^ a0_0.toNat)) = ji69 := fun h_ => (i64_w _).symm.trans (hji69z h_)
               by_cases c70 : ((rd_T63 l0_3 x4_2).f0) < (ji69)
               ·rw [if_pos c70] at H
                have c70b0 : decide (((rd_T63 l0_3 x4_2).f0) < (ji69)) = true := decide_eq_true c70
                clear c70
                by_cases c71 : a0_1 = 0
                ·rw [if_pos c71] at H
                 exact absurd H (by simp)
                ·rw [if_neg c71] at H
                 have c71b0 : (a0_1 == 0) = false := beq_eq_false_iff_ne.mpr c71
                 have c71b1 : (a0_1 != 0) = true := bne_iff_ne.mpr c71
                 have H' := Aside0.mk H
                 clear H
                 have hnb72 := NB104_102.out
                 have hnc72 := NB102_104.out
                 have hcz73_0 : w22.cell? ⟨gb104, 0, none⟩ = some (.int .i64 0) := (blk_cell BK104.out 0).trans rfl
                 have hcz73_1 : w22.cell? ⟨gb104, 1, none⟩ = some (.int .i64 0) := (blk_cell BK104.out 1).trans rfl
                 have hfz73_0 := blk_frozen BK104.out 0
                 have hfz73_1 := blk_frozen BK104.out 1
                 have hcz74_0 : w22.cell? ⟨gb102, 0, none⟩ = some (.int .i64 a0_0) := (blk_cell BK102.out 0).trans rfl
                 have hcz74_1 : w22.cell? ⟨gb102, 1, none⟩ = some (.int .i64 a0_1) := (blk_cell BK102.out 1).trans rfl
                 have hcz74_2 : w22.cell? ⟨gb102, 2, none⟩ = some (.int .i64 a0_2) := (blk_cell BK102.out 2).trans rfl
                 have hcz74_3 : w22.cell? ⟨gb102, 3, none⟩ = some (.slice (some ad103) l0_3.length c0_3) := (blk_cell BK102.out 3).trans rfl
                 have hfz74_0 := blk_frozen BK102.out 0
                 have hfz74_1 := blk_frozen BK102.out 1
                 have hfz74_2 := blk_frozen BK102.out 2
                 have hfz74_3 := blk_frozen BK102.out 3
                 go_wp2
                 repeat (go_quiet (fail); try go_wp2)
                 go_meet
                 case rel => exact ⟨_, (decide (((rd_T63 l0_3 x4_2).f1) > (wrap64 (Int.tdiv a0_2 a0_1)))), (by first | rfl | (simp; done) | (simp [*]; done)), H', ⟨by have := HJ1.out; have := HK2.out; first | omega | exact Nat.le_refl _⟩, ⟨by (with_reducible repeat (first | refine blk_drewN ?_ _ | refine blk_drew ?_ | refine blk_alloc ?_ _)); refine blk_far ?_ NB102_104.out _; (with_reducible repeat (first | refine blk_drewN ?_ _ | refine blk_drew ?_ | refine blk_alloc ?_ _)); refine blk_far ?_ NB102_104.out _; (with_reducible repeat (first | refine blk_drewN ?_ _ | refine blk_drew ?_ | refine blk_alloc ?_ _)); exact BK102.out⟩, ⟨by (with_reducible repeat (first | refine blk_drewN ?_ _ | refine blk_drew ?_ | refine blk_alloc ?_ _)); refine blk_put (cs := #[.int .i64 ((rd_T63 l0_3 x4_2).f0), .int .i64 0]) ?_ 1 _ rfl; (with_reducible repeat (first | refine blk_drewN ?_ _ | refine blk_drew ?_ | refine blk_alloc ?_ _)); refine blk_put (cs := #[.int .i64 0, .int .i64 0]) ?_ 0 _ rfl; (with_reducible repeat (first | refine blk_drewN ?_ _ | refine blk_drew ?_ | refine blk_alloc ?_ _)); exact BK104.out⟩, ⟨by repeat (first | (with_reducible first | exact HB.out | apply below_alloc | apply pw_below_drewN | apply below_drew1 | refine below_set ?_ GE102.out | refine below_set ?_ GE104.out) | exact HB.out)⟩⟩
               ·rw [if_neg c70] at H
                have c70b0 : decide (((rd_T63 l0_3 x4_2).f0) < (ji69)) = false := decide_eq_false c70
                clear c70
                have H' := Aside0.mk H
                clear H
                have hnb75 := NB104_102.out
                have hnc75 := NB102_104.out
                have hcz76_0 : w22.cell? ⟨gb104, 0, none⟩ = some (.int .i64 0) := (blk_cell BK104.out 0).trans rfl
                have hcz76_1 : w22.cell? ⟨gb104, 1, none⟩ = some (.int .i64 0) := (blk_cell BK104.out 1).trans rfl
                have hfz76_0 := blk_frozen BK104.out 0
                have hfz76_1 := blk_frozen BK104.out 1
                have hcz77_0 : w22.cell? ⟨gb102, 0, none⟩ = some (.int .i64 a0_0) := (blk_cell BK102.out 0).trans rfl
                have hcz77_1 : w22.cell? ⟨gb102, 1, none⟩ = some (.int .i64 a0_1) := (blk_cell BK102.out 1).trans rfl
                have hcz77_2 : w22.cell? ⟨gb102, 2, none⟩ = some (.int .i64 a0_2) := (blk_cell BK102.out 2).trans rfl
                have hcz77_3 : w22.cell? ⟨gb102, 3, none⟩ = some (.slice (some ad103) l0_3.length c0_3) := (blk_cell BK102.out 3).trans rfl
                have hfz77_0 := blk_frozen BK102.out 0
                have hfz77_1 := blk_frozen BK102.out 1
                have hfz77_2 := blk_frozen BK102.out 2
                have hfz77_3 := blk_frozen BK102.out 3
                go_wp2
                repeat (go_quiet (fail); try go_wp2)
                go_meet
                case rel => exact ⟨_, (false), (by first | rfl | (simp; done) | (simp [*]; done)), H', ⟨by have := HJ1.out; have := HK2.out; first | omega | exact Nat.le_refl _⟩, ⟨by (with_reducible repeat (first | refine blk_drewN ?_ _ | refine blk_drew ?_ | refine blk_alloc ?_ _)); refine blk_far ?_ NB102_104.out _; (with_reducible repeat (first | refine blk_drewN ?_ _ | refine blk_drew ?_ | refine blk_alloc ?_ _)); refine blk_far ?_ NB102_104.out _; (with_reducible repeat (first | refine blk_drewN ?_ _ | refine blk_drew ?_ | refine blk_alloc ?_ _)); exact BK102.out⟩, ⟨by (with_reducible repeat (first | refine blk_drewN ?_ _ | refine blk_drew ?_ | refine blk_alloc ?_ _)); refine blk_put (cs := #[.int .i64 ((rd_T63 l0_3 x4_2).f0), .int .i64 0]) ?_ 1 _ rfl; (with_reducible repeat (first | refine blk_drewN ?_ _ | refine blk_drew ?_ | refine blk_alloc ?_ _)); refine blk_put (cs := #[.int .i64 0, .int .i64 0]) ?_ 0 _ rfl; (with_reducible repeat (first | refine blk_drewN ?_ _ | refine blk_drew ?_ | refine blk_alloc ?_ _)); exact BK104.out⟩, ⟨by repeat (first | (with_reducible first | exact HB.out | apply below_alloc | apply pw_below_drewN | apply below_drew1 | refine below_set ?_ GE102.out | refine below_set ?_ GE104.out) | exact HB.out)⟩⟩
          ·rw [if_neg c28] at H
           exact absurd H (by simp)
        case rest =>
         clear HC20
         try clear c1
         try clear p1
         try clear q1
         try clear hx1
         try clear c2
         try clear p2
         try clear c3
         try clear c4
         try clear c4b0
         try clear c5
         try clear c6
         try clear c6b0
         try clear p6
         try clear c7
         try clear c8
         try clear c8b0
         try clear c9
         try clear c10
         try clear c10b0
         try clear p10
         try clear q10
         try clear hx10
         try clear c12
         try clear c12b0
         try clear c14
         try clear c14b0
         try clear c17
         try clear c18
         try clear c18b0
         try clear c19
         try clear c19b0
         try clear c23
         try clear c25
         try clear c25b0
         try clear c26
         try clear c28
         try clear c28b0
         try clear c28b1
         try clear c30
         try clear c30b0
         try clear c31
         try clear c34
         try clear c34b0
         try clear c36
         try clear c36b0
         try clear c37
         try clear c37b0
         try clear c38
         try clear c38b0
         try clear c39
         try clear c42
         try clear c42b0
         try clear c43
         try clear c46
         try clear c46b0
         try clear c47
         try clear c50
         try clear c50b0
         try clear c52
         try clear c52b0
         try clear c53
         try clear c53b0
         try clear c53b1
         try clear c54
         try clear c57
         try clear c60
         try clear c60b0
         try clear c61
         try clear c64
         try clear c64b0
         try clear p64
         try clear c65
         try clear c68
         try clear c68b0
         try clear c70
         try clear c70b0
         try clear c71
         try clear c71b0
         try clear c71b1
         try clear c72
         try clear c75
         try clear hcz11_0
         try clear hcz11_1
         try clear hcz11_2
         try clear hcz11_3
         try clear hcz13_0
         try clear hcz13_1
         try clear hcz13_2
         try clear hcz13_3
         try clear hcz15_0
         try clear hcz15_1
         try clear hcz15_2
         try clear hcz15_3
         try clear hcz16_0
         try clear hcz16_1
         try clear hcz16_2
         try clear hcz16_3
         try clear hcz21_0
         try clear hcz21_1
         try clear hcz21_2
         try clear hcz21_3
         try clear hcz24_0
         try clear hcz24_1
         try clear hcz27_0
         try clear hcz27_1
         try clear hcz32_0
         try clear hcz32_1
         try clear hcz33_0
         try clear hcz33_1
         try clear hcz33_2
         try clear hcz33_3
         try clear hcz40_0
         try clear hcz40_1
         try clear hcz41_0
         try clear hcz41_1
         try clear hcz41_2
         try clear hcz41_3
         try clear hcz44_0
         try clear hcz44_1
         try clear hcz45_0
         try clear hcz45_1
         try clear hcz45_2
         try clear hcz45_3
         try clear hcz48_0
         try clear hcz48_1
         try clear hcz49_0
         try clear hcz49_1
         try clear hcz49_2
         try clear hcz49_3
         try clear hcz55_0
         try clear hcz55_1
         try clear hcz56_0
         try clear hcz56_1
         try clear hcz56_2
         try clear hcz56_3
         try clear hcz58_0
         try clear hcz58_1
         try clear hcz59_0
         try clear hcz59_1
         try clear hcz59_2
         try clear hcz59_3
         try clear hcz5_0
         try clear hcz5_1
         try clear hcz5_2
         try clear hcz5_3
         try clear hcz62_0
         try clear hcz62_1
         try clear hcz63_0
         try clear hcz63_1
         try clear hcz63_2
         try clear hcz63_3
         try clear hcz66_0
         try clear hcz66_1
         try clear hcz67_0
         try clear hcz67_1
         try clear hcz67_2
         try clear hcz67_3
         try clear hcz73_0
         try clear hcz73_1
         try clear hcz74_0
         try clear hcz74_1
         try clear hcz74_2
         try clear hcz74_3
         try clear hcz76_0
         try clear hcz76_1
         try clear hcz77_0
         try clear hcz77_1
         try clear hcz77_2
         try clear hcz77_3
         try clear hcz7_0
         try clear hcz7_1
         try clear hcz7_2
         try clear hcz7_3
         try clear hcz9_0
         try clear hcz9_1
         try clear hcz9_2
         try clear hcz9_3
         try clear hfz11_0
         try clear hfz11_1
         try clear hfz11_2
         try clear hfz11_3
         try clear hfz13_0
         try clear hfz13_1
         try clear hfz13_2
         try clear hfz13_3
         try clear hfz15_0
         try clear hfz15_1
         try clear hfz15_2
         try clear hfz15_3
         try clear hfz16_0
         try clear hfz16_1
         try clear hfz16_2
         try clear hfz16_3
         try clear hfz21_0
         try clear hfz21_1
         try clear hfz21_2
         try clear hfz21_3
         try clear hfz24_0
         try clear hfz24_1
         try clear hfz27_0
         try clear hfz27_1
         try clear hfz32_0
         try clear hfz32_1
         try clear hfz33_0
         try clear hfz33_1
         try clear hfz33_2
         try clear hfz33_3
         try clear hfz40_0
         try clear hfz40_1
         try clear hfz41_0
         try clear hfz41_1
         try clear hfz41_2
         try clear hfz41_3
         try clear hfz44_0
         try clear hfz44_1
         try clear hfz45_0
         try clear hfz45_1
         try clear hfz45_2
         try clear hfz45_3
         try clear hfz48_0
         try clear hfz48_1
         try clear hfz49_0
         try clear hfz49_1
         try clear hfz49_2
         try clear hfz49_3
         try clear hfz55_0
         try clear hfz55_1
         try clear hfz56_0
         try clear hfz56_1
         try clear hfz56_2
         try clear hfz56_3
         try clear hfz58_0
         try clear hfz58_1
         try clear hfz59_0
         try clear hfz59_1
         try clear hfz59_2
         try clear hfz59_3
         try clear hfz5_0
         try clear hfz5_1
         try clear hfz5_2
         try clear hfz5_3
         try clear hfz62_0
         try clear hfz62_1
         try clear hfz63_0
         try clear hfz63_1
         try clear hfz63_2
         try clear hfz63_3
         try clear hfz66_0
         try clear hfz66_1
         try clear hfz67_0
         try clear hfz67_1
         try clear hfz67_2
         try clear hfz67_3
         try clear hfz73_0
         try clear hfz73_1
         try clear hfz74_0
         try clear hfz74_1
         try clear hfz74_2
         try clear hfz74_3
         try clear hfz76_0
         try clear hfz76_1
         try clear hfz77_0
         try clear hfz77_1
         try clear hfz77_2
         try clear hfz77_3
         try clear hfz7_0
         try clear hfz7_1
         try clear hfz7_2
         try clear hfz7_3
         try clear hfz9_0
         try clear hfz9_1
         try clear hfz9_2
         try clear hfz9_3
         try clear hx103_0
         try clear hx103_1
         try clear hx105_0
         try clear hx105_1
         try clear p103
         try clear p105
         try clear p2
         try clear q103
         try clear q105
         obtain ⟨kq, x108_19, rfl, HA, HJ19, BK102, BK104, HB⟩ := hcut
         cases kq with
         | zero => exact absurd HA.out (by simp [lookoutref31_Check.j2])
         | succ kj19 =>
          have H := HA.out
          clear HA
          simp only [lookoutref31_Check.j2] at H
          by_cases c78 : x108_19 = true
          ·subst c78
           have H1 : (some 1) = some r := by rw [if_pos rfl] at H; exact H
           clear H
           have H := H1
           clear H1
           obtain rfl := Option.some.inj H
           go_wp2
           repeat (go_quiet (fail); try go_wp2)
           go_ret
           exact ⟨by first | rfl | (simp [errW_none, errW_some] <;> rfl) | (simp [*, errW_none, errW_some] <;> rfl), by repeat (first | (with_reducible first | exact HB.out | apply below_alloc | apply pw_below_drewN | apply below_drew1 | refine below_set ?_ GE102.out | refine below_set ?_ GE104.out) | exact HB.out)⟩
          ·replace c78 := Bool.eq_false_iff.mpr c78
           subst c78
           have H1 : (lookoutref31_Check.l0 kj19 (wrap64 (x3_2 + ((rd_T63 l0_3 x4_2).f1))) (wrap64 (x4_2 + 1)) a0_0 a0_1 a0_2 l0_3) = some r := by rw [if_neg (show ¬ (false = true) by decide)] at H; exact H
           clear H
           have H := H1
           clear H1
           have H' := Aside0.mk H
           clear H
           have hnb79 := NB104_102.out
           have hnc79 := NB102_104.out
           have hcz80_0 : wc.cell? ⟨gb104, 0, none⟩ = some (.int .i64 ((rd_T63 l0_3 x4_2).f0)) := (blk_cell BK104.out 0).trans rfl
           have hcz80_1 : wc.cell? ⟨gb104, 1, none⟩ = some (.int .i64 ((rd_T63 l0_3 x4_2).f1)) := (blk_cell BK104.out 1).trans rfl
           have hfz80_0 := blk_frozen BK104.out 0
           have hfz80_1 := blk_frozen BK104.out 1
           go_wp2
           repeat (go_quiet (fail); try go_wp2)
           go_roundg kj19
           case measure => have := HJ1.out; have := HK2.out; have := HJ19.out; omega
           case rel => exact ⟨(wrap64 (x3_2 + ((rd_T63 l0_3 x4_2).f1))), (wrap64 (x4_2 + 1)), (by first | rfl | (simp; done) | (simp [*]; done)), (by first | rfl | (simp; done) | (simp [*]; done)), H', ⟨by have := HJ1.out; have := HK2.out; have := HJ19.out; omega⟩, ⟨by (with_reducible repeat (first | refine blk_drewN ?_ _ | refine blk_drew ?_ | refine blk_alloc ?_ _)); exact BK102.out⟩, ⟨by repeat (first | (with_reducible first | exact HB.out | apply below_alloc | apply pw_below_drewN | apply below_drew1 | refine below_set ?_ GE102.out | refine below_set ?_ GE104.out) | exact HB.out)⟩⟩
       ·rw [if_neg c19] at H
        exact absurd H (by simp)
      ·rw [if_neg c18] at H
       have c18b0 : decide (x4_2 < (l0_3.length : Int)) = false := decide_eq_false c18
       clear c18
       by_cases c81 : x3_2 = a0_2
       ·rw [if_pos c81] at H
        have c81b0 : (x3_2 == a0_2) = true := beq_iff_eq.mpr c81
        have c81b1 : (x3_2 != a0_2) = false := bne_eq_false_iff_eq.mpr c81
        clear c81
        obtain rfl := Option.some.inj H
        have hcz82_0 : wr.cell? ⟨gb102, 0, none⟩ = some (.int .i64 a0_0) := (blk_cell BK102.out 0).trans rfl
        have hcz82_1 : wr.cell? ⟨gb102, 1, none⟩ = some (.int .i64 a0_1) := (blk_cell BK102.out 1).trans rfl
        have hcz82_2 : wr.cell? ⟨gb102, 2, none⟩ = some (.int .i64 a0_2) := (blk_cell BK102.out 2).trans rfl
        have hcz82_3 : wr.cell? ⟨gb102, 3, none⟩ = some (.slice A0_3 l0_3.length c0_3) := (blk_cell BK102.out 3).trans rfl
        have hfz82_0 := blk_frozen BK102.out 0
        have hfz82_1 := blk_frozen BK102.out 1
        have hfz82_2 := blk_frozen BK102.out 2
        have hfz82_3 := blk_frozen BK102.out 3
        go_wp2
        repeat (go_quiet (fail); try go_wp2)
        go_ret
        exact ⟨by first | rfl | (simp [errW_none, errW_some] <;> rfl) | (simp [*, errW_none, errW_some] <;> rfl), by repeat (first | (with_reducible first | exact HB.out | apply below_alloc | apply pw_below_drewN | apply below_drew1 | refine below_set ?_ GE102.out) | exact HB.out)⟩
       ·rw [if_neg c81] at H
        have c81b0 : (x3_2 == a0_2) = false := beq_eq_false_iff_ne.mpr c81
        have c81b1 : (x3_2 != a0_2) = true := bne_iff_ne.mpr c81
        obtain rfl := Option.some.inj H
        have hcz83_0 : wr.cell? ⟨gb102, 0, none⟩ = some (.int .i64 a0_0) := (blk_cell BK102.out 0).trans rfl
        have hcz83_1 : wr.cell? ⟨gb102, 1, none⟩ = some (.int .i64 a0_1) := (blk_cell BK102.out 1).trans rfl
        have hcz83_2 : wr.cell? ⟨gb102, 2, none⟩ = some (.int .i64 a0_2) := (blk_cell BK102.out 2).trans rfl
        have hcz83_3 : wr.cell? ⟨gb102, 3, none⟩ = some (.slice A0_3 l0_3.length c0_3) := (blk_cell BK102.out 3).trans rfl
        have hfz83_0 := blk_frozen BK102.out 0
        have hfz83_1 := blk_frozen BK102.out 1
        have hfz83_2 := blk_frozen BK102.out 2
        have hfz83_3 := blk_frozen BK102.out 3
        go_wp2
        repeat (go_quiet (fail); try go_wp2)
        go_ret
        exact ⟨by first | rfl | (simp [errW_none, errW_some] <;> rfl) | (simp [*, errW_none, errW_some] <;> rfl), by repeat (first | (with_reducible first | exact HB.out | apply below_alloc | apply pw_below_drewN | apply below_drew1 | refine below_set ?_ GE102.out) | exact HB.out)⟩

end Go.Proofs.Ytcgimjoebkeifaa.PQ
