/- Parts of one proof, one behind the other (put together by wip/merge2.py out of: PQxf30, Hcomp, PQxf75, PQxf76, PQxf47, QuanA, QuanP, QuanB). No conditions beyond each theorem's own. -/
import Derived.Test.YtcgimjoebkeifaaPQx0
import Derived.Deep.RegionHeld3
import Derived.Test.YtcgimjoebkeifaaQE4
import Derived.Test.YtcgimjoebkeifaaQE5
/- Written by a program of this session (wip/patch_print.py): Go functions as Lean functions, each with a proof that the call does what its function says. No conditions beyond each theorem's own. -/
namespace Go.Proofs.Ytcgimjoebkeifaa.PQ
open Go.RowKit Go.Proofs.YtcgimjoebkeifaaW.PrintWords Go.Proofs.YtcgimjoebkeifaaW.PrintLast Go.Proofs.YtcgimjoebkeifaaW.PrintMore
attribute [local go_sem] max2_int min2_int max_two min_two max_three min_three max_four min_four   -- for this text's walks alone
set_option linter.unusedVariables false
set_option linter.unusedSimpArgs false

/-! ### lookoutlaw31_of: function 30 -/
def lookoutlaw31_of.l0 : Nat → Int → List Int → Int → Int → Int → Int → Int → List (S63) → Option (Int × Int × Int × (List (S63)) × Bool)
 | 0, _, _, _, _, _, _, _, _ => none
 | k + 1, x9, x18, x19, x20, x150000, x150001, x150002, x150003 => if x20 < x19 then (if 0 ≤ x20 then (if x20 < (x18.length : Int) then (if x9 = 0 then ((qdigest_Add.f k x150000 x150001 x150002 x150003 (rd x18 x20) 1).bind fun bt151 => (lookoutlaw31_of.l0 k bt151.2.2.2.2 x18 x19 (wrap64 (x20 + 1)) bt151.1 bt151.2.1 bt151.2.2.1 bt151.2.2.2.1)) else (lookoutlaw31_of.l0 k x9 x18 x19 (wrap64 (x20 + 1)) x150000 x150001 x150002 x150003)) else (none)) else (none)) else (some (x150000, x150001, x150002, x150003, (x9 == 0)))
def lookoutlaw31_of.f (k : Nat) (a0 : Int) (a1 : Int) (l2 : List Int) : Option (Int × Int × Int × (List (S63)) × Bool) := (qdigest_New.f k a0 a1).bind fun bt142 => (lookoutlaw31_of.l0 k bt142.2.2.2.2 l2 (l2.length : Int) 0 bt142.1 bt142.2.1 bt142.2.2.1 bt142.2.2.2.1)
theorem lookoutlaw31_of.mono_l : ∀ k, (∀ y0 y1 y2 y3 y4 y5 y6 y7, LeO (lookoutlaw31_of.l0 k y0 y1 y2 y3 y4 y5 y6 y7) (lookoutlaw31_of.l0 (k + 1) y0 y1 y2 y3 y4 y5 y6 y7))
 | 0 => fun _ _ _ _ _ _ _ _ r h => by simp [lookoutlaw31_of.l0] at h
 | k + 1 => by
  have ih0 := lookoutlaw31_of.mono_l k
  ·intro y0 y1 y2 y3 y4 y5 y6 y7
   unfold lookoutlaw31_of.l0
   repeat' first
   | (with_reducible exact ih0 _ _ _ _ _ _ _ _)
   | (with_reducible exact qdigest_Add.mono _ _ _ _ _ _ _)
   | (with_reducible exact qdigest_New.mono _ _ _)
   | (with_reducible exact LeO.refl _)
   | (with_reducible exact LeO.none _)
   | (with_reducible refine LeO.ite ?_ ?_)
   | (with_reducible refine LeO.bind ?_ (fun _ => ?_))
   | exact ih0 _ _ _ _ _ _ _ _
   | exact qdigest_Add.mono _ _ _ _ _ _ _
   | exact qdigest_New.mono _ _ _
   | exact LeO.none _
   | refine LeO.ite ?_ ?_
   | refine LeO.bind ?_ (fun _ => ?_)
theorem lookoutlaw31_of.mono : ∀ a0 a1 a2 k, LeO (lookoutlaw31_of.f k a0 a1 a2) (lookoutlaw31_of.f (k + 1) a0 a1 a2) := by
 intro a0 a1 a2 k
 have ih0 := lookoutlaw31_of.mono_l k
 unfold lookoutlaw31_of.f
 repeat' first
   | (with_reducible exact ih0 _ _ _ _ _ _ _ _)
   | (with_reducible exact qdigest_Add.mono _ _ _ _ _ _ _)
   | (with_reducible exact qdigest_New.mono _ _ _)
   | (with_reducible exact LeO.refl _)
   | (with_reducible exact LeO.none _)
   | (with_reducible refine LeO.ite ?_ ?_)
   | (with_reducible refine LeO.bind ?_ (fun _ => ?_))
   | exact ih0 _ _ _ _ _ _ _ _
   | exact qdigest_Add.mono _ _ _ _ _ _ _
   | exact qdigest_New.mono _ _ _
   | exact LeO.none _
   | refine LeO.ite ?_ ?_
   | refine LeO.bind ?_ (fun _ => ?_)
set_option maxHeartbeats 8000000 in
set_option maxRecDepth 100000 in
theorem lookoutlaw31_of.calls (k : Nat) (a0 : Int) (a1 : Int) (A2 : Option Addr) (c2 : Nat) (l2 : List Int) (r1 : Int) (r2 : Int) (r3 : Int) (r4 : List (S63)) (r5 : Bool) (w : World) (hr2 : Kd.C (Kd.int .i64) w A2 l2.length l2) (hc2 : l2.length ≤ c2) (h : lookoutlaw31_of.f k a0 a1 l2 = some (r1, r2, r3, r4, r5)) :
  Calls Try.prog 30 #[.int .i64 a0, .int .i64 a1, .slice A2 l2.length c2] w fun e w' => ∃ v3_ : Value, e = .returned (.tuple #[.agg #[.int .i64 r1, .int .i64 r2, .int .i64 r3, v3_], .bool r5]) ∧ Kd.R k63 63 w' w.heap.size (fun _ => True) v3_ r4 ∧ Below w.heap.size w w' := by
 have hu24 := Try.underlying24
 have HR2 := Aside0.mk hr2
 have HC2 := Aside0.mk hc2
 clear hr2 hc2
 have HB := Aside0.mk (Below.refl w.heap.size w)
 have H : ((qdigest_New.f k a0 a1).bind fun bt142 => (lookoutlaw31_of.l0 k bt142.2.2.2.2 l2 (l2.length : Int) 0 bt142.1 bt142.2.1 bt142.2.2.1 bt142.2.2.2.1)) = some (r1, r2, r3, r4, r5) := h
 clear h
 replace H := Option.bind_eq_some_iff.mp H
 obtain ⟨⟨t142, t143, t144, t145, t148⟩, A40, H⟩ := H
 replace H : (lookoutlaw31_of.l0 k t148 l2 (l2.length : Int) 0 t142 t143 t144 t145) = some (r1, r2, r3, r4, r5) := H
 have A4 := Aside0.mk A40
 clear A40
 have H' := Aside0.mk H
 clear H
 go_enter Try.func30, Try.ntmps30
 go_wp2_with (first | ((with_reducible refine gate_dst (N := 6) rfl ?_); refine box_event ?hg (N := 6) ?hd (cs := #[.int .i64 0, .int .i64 0, .int .i64 0, .slice none 0 0]) (t := 24) ?hr ?_; (case hd => rfl); (case hg => rfl); (case hr => first | (go_simp; done) | (go_simp; rfl)); intro gb141 hg w5 hbox hb; have n0_ := Aside0.mk (below_step (by repeat (first | (with_reducible first | exact HB.out | apply below_alloc | apply pw_below_drewN | apply below_drew1) | exact HB.out)) hb); have n1_ := Aside0.mk (hbox); have n2_ := Aside0.mk ((by rw [hg]; exact (below_size (by repeat (first | (with_reducible first | exact HB.out | apply below_alloc | apply pw_below_drewN | apply below_drew1) | exact HB.out))) : w.heap.size ≤ gb141)); have n3_ := Aside0.mk ((by rw [hg]; exact (below_size (by repeat (first | (with_reducible first | exact HB.out | apply below_alloc | apply pw_below_drewN | apply below_drew1) | exact HB.out))) : w.heap.size ≤ gb141)); clear HB; have HB := n0_; have BK141 := n1_; have GW141 := n2_; have GE141 := n3_; clear n0_ n1_ n2_ n3_; clear hb hbox hg) | ((with_reducible refine gate_callee (f := 18) rfl ?_); refine goesL_ (some 15) rfl rfl Try.func18 (by kernel_rfl) rfl #[.int .i64 a0, .int .i64 a1] rfl (by (try simp only [List.map_toArray, List.map_cons, List.map_nil]); first | done | rfl | (simp only [List.length_drop, List.length_take]; rfl)) ?_; (with_reducible refine (qdigest_New.calls k a0 a1 t142 t143 t144 t145 t148 _ A4.out).mono ?_); rintro e w6 ⟨v146, rfl, ho0, hb⟩; refine ⟨_, rfl, ?_⟩; have n0_ := Aside0.mk (Kd.R_lower ho0 (below_size (by repeat (first | (with_reducible first | exact HB.out | apply below_alloc | apply pw_below_drewN | apply below_drew1 | refine below_set ?_ GE141.out) | exact HB.out)))); have n1_ := Aside0.mk (blk_below (g := gb141) (o := .cells #[.int .i64 0, .int .i64 0, .int .i64 0, .slice none 0 0] 24 (0, 0)) (by (with_reducible repeat (first | refine blk_drewN ?_ _ | refine blk_drew ?_ | refine blk_alloc ?_ _)); exact BK141.out) hb); have n2_ := Aside0.mk (below_step (by repeat (first | (with_reducible first | exact HB.out | apply below_alloc | apply pw_below_drewN | apply below_drew1 | refine below_set ?_ GE141.out) | exact HB.out)) hb); clear BK141; clear HB; have HO147 := n0_; have BK141 := n1_; have HB := n2_; clear n0_ n1_ n2_; (try clear hb); (try clear hb2); (try clear hk); (try clear hi); (try clear ho0)) | ((with_reducible refine gate_dst (N := 8) rfl ?_); refine box_event ?hg (N := 8) ?hd (cs := #[.int .i64 0, .int .i64 0, .int .i64 0, .slice none 0 0]) (t := 24) ?hr ?_; (case hd => rfl); (case hg => rfl); (case hr => first | (go_simp; done) | (go_simp; rfl)); intro gb149 hg w7 hbox hb; have n0_ := Aside0.mk (Kd.R_below (by (with_reducible repeat (first | apply Kd.R_alloc | apply Kd.R_drewN | apply Kd.R_drew)); exact HO147.out) hb); have n1_ := Aside0.mk (blk_below (g := gb141) (o := .cells #[.int .i64 0, .int .i64 0, .int .i64 0, .slice none 0 0] 24 (0, 0)) (by (with_reducible repeat (first | refine blk_drewN ?_ _ | refine blk_drew ?_ | refine blk_alloc ?_ _)); exact BK141.out) hb); have n2_ := Aside0.mk (below_step (by repeat (first | (with_reducible first | exact HB.out | apply below_alloc | apply pw_below_drewN | apply below_drew1 | refine below_set ?_ GE141.out) | exact HB.out)) hb); have n3_ := Aside0.mk (hbox); have n4_ := Aside0.mk ((by rw [hg]; exact (below_size (by repeat (first | (with_reducible first | exact HB.out | apply below_alloc | apply pw_below_drewN | apply below_drew1 | refine below_set ?_ GE141.out) | exact HB.out))) : w.heap.size ≤ gb149)); have n5_ := Aside0.mk ((by rw [hg]; exact (below_size (by repeat (first | (with_reducible first | exact HB.out | apply below_alloc | apply pw_below_drewN | apply below_drew1 | refine below_set ?_ GE141.out) | exact HB.out))) : w.heap.size ≤ gb149)); have n6_ := Aside0.mk ((by rw [hg]; exact Nat.ne_of_lt (blk_lt (g := gb141) (o := .cells #[.int .i64 0, .int .i64 0, .int .i64 0, .slice none 0 0] 24 (0, 0)) (by (with_reducible repeat (first | refine blk_drewN ?_ _ | refine blk_drew ?_ | refine blk_alloc ?_ _)); exact BK141.out)) : gb141 ≠ gb149)); have n7_ := Aside0.mk ((by rw [hg]; exact Nat.ne_of_gt (blk_lt (g := gb141) (o := .cells #[.int .i64 0, .int .i64 0, .int .i64 0, .slice none 0 0] 24 (0, 0)) (by (with_reducible repeat (first | refine blk_drewN ?_ _ | refine blk_drew ?_ | refine blk_alloc ?_ _)); exact BK141.out)) : gb149 ≠ gb141)); clear HO147; clear BK141; clear HB; have HO147 := n0_; have BK141 := n1_; have HB := n2_; have BK149 := n3_; have GW149 := n4_; have GE149 := n5_; have NB141_149 := n6_; have NB149_141 := n7_; clear n0_ n1_ n2_ n3_ n4_ n5_ n6_ n7_; clear hb hbox hg; have hnb8 := NB149_141.out; have hnc8 := NB141_149.out; have hcz9_0 : w7.cell? ⟨gb149, 0, none⟩ = some (.int .i64 0) := (blk_cell BK149.out 0).trans rfl; have hcz9_1 : w7.cell? ⟨gb149, 1, none⟩ = some (.int .i64 0) := (blk_cell BK149.out 1).trans rfl; have hcz9_2 : w7.cell? ⟨gb149, 2, none⟩ = some (.int .i64 0) := (blk_cell BK149.out 2).trans rfl; have hcz9_3 : w7.cell? ⟨gb149, 3, none⟩ = some (.slice none 0 0) := (blk_cell BK149.out 3).trans rfl; have hfz9_0 := blk_frozen BK149.out 0; have hfz9_1 := blk_frozen BK149.out 1; have hfz9_2 := blk_frozen BK149.out 2; have hfz9_3 := blk_frozen BK149.out 3; obtain ⟨Ao10, co10, eo10⟩ := Kd.R_slice HO147.out; subst eo10))
 go_loopg [9, 20] k (fun kq v9 v20 w' => ∃ (x9_1 : Int) (x20_1 : Int) (x150000_1 : Int) (x150001_1 : Int) (x150002_1 : Int) (x150003_1 : List (S63)) (u150003 : Value), v9 = .int .i64 x9_1 ∧ v20 = .int .i64 x20_1 ∧ Aside0 (lookoutlaw31_of.l0 kq x9_1 l2 (l2.length : Int) x20_1 x150000_1 x150001_1 x150002_1 x150003_1 = some (r1, r2, r3, r4, r5)) ∧ Aside0 (kq ≤ k) ∧ Aside0 (Kd.R k63 63 w' w.heap.size (fun _ => True) u150003 x150003_1) ∧ Aside0 (w'.heap[gb141]? = some (.cells #[.int .i64 0, .int .i64 0, .int .i64 0, (.slice none 0 0)] 24 (0, 0))) ∧ Aside0 (w'.heap[gb149]? = some (.cells #[.int .i64 x150000_1, .int .i64 x150001_1, .int .i64 x150002_1, u150003] 24 (0, 0))) ∧ Aside0 (Below w.heap.size w w'))
 case atStart => exact ⟨(t148), (0), (t142), (t143), (t144), (t145), (.slice Ao10 t145.length co10), (by first | rfl | (simp; done) | (simp [*]; done)), (by first | rfl | (simp; done) | (simp [*]; done)), H', ⟨Nat.le_refl _⟩, ⟨by (with_reducible repeat (first | apply Kd.R_alloc | apply Kd.R_drewN | apply Kd.R_drew)); exact Kd.R_mono (Kd.R_far (p := ⟨gb149, 3, none⟩) (Kd.R_far (p := ⟨gb149, 2, none⟩) (Kd.R_far (p := ⟨gb149, 1, none⟩) (Kd.R_far (p := ⟨gb149, 0, none⟩) (Kd.R_types HO147.out BK149.out (by decide)) (fun _ hk => hk.2) (.int .i64 t142)) (fun _ hk => hk.2) (.int .i64 t143)) (fun _ hk => hk.2) (.int .i64 t144)) (fun _ hk => hk.2) (.slice Ao10 t145.length co10)) (fun _ hk => trivial)⟩, ⟨by (with_reducible repeat (first | refine blk_drewN ?_ _ | refine blk_drew ?_ | refine blk_alloc ?_ _)); refine blk_far ?_ NB141_149.out _; (with_reducible repeat (first | refine blk_drewN ?_ _ | refine blk_drew ?_ | refine blk_alloc ?_ _)); refine blk_far ?_ NB141_149.out _; (with_reducible repeat (first | refine blk_drewN ?_ _ | refine blk_drew ?_ | refine blk_alloc ?_ _)); refine blk_far ?_ NB141_149.out _; (with_reducible repeat (first | refine blk_drewN ?_ _ | refine blk_drew ?_ | refine blk_alloc ?_ _)); refine blk_far ?_ NB141_149.out _; (with_reducible repeat (first | refine blk_drewN ?_ _ | refine blk_drew ?_ | refine blk_alloc ?_ _)); exact BK141.out⟩, ⟨by (with_reducible repeat (first | refine blk_drewN ?_ _ | refine blk_drew ?_ | refine blk_alloc ?_ _)); refine blk_put (cs := #[.int .i64 t142, .int .i64 t143, .int .i64 t144, .slice none 0 0]) ?_ 3 _ rfl; (with_reducible repeat (first | refine blk_drewN ?_ _ | refine blk_drew ?_ | refine blk_alloc ?_ _)); refine blk_put (cs := #[.int .i64 t142, .int .i64 t143, .int .i64 0, .slice none 0 0]) ?_ 2 _ rfl; (with_reducible repeat (first | refine blk_drewN ?_ _ | refine blk_drew ?_ | refine blk_alloc ?_ _)); refine blk_put (cs := #[.int .i64 t142, .int .i64 0, .int .i64 0, .slice none 0 0]) ?_ 1 _ rfl; (with_reducible repeat (first | refine blk_drewN ?_ _ | refine blk_drew ?_ | refine blk_alloc ?_ _)); refine blk_put (cs := #[.int .i64 0, .int .i64 0, .int .i64 0, .slice none 0 0]) ?_ 0 _ rfl; (with_reducible repeat (first | refine blk_drewN ?_ _ | refine blk_drew ?_ | refine blk_alloc ?_ _)); exact BK149.out⟩, ⟨by repeat (first | (with_reducible first | exact HB.out | apply below_alloc | apply pw_below_drewN | apply below_drew1 | refine below_set ?_ GE141.out | refine below_set ?_ GE149.out) | exact HB.out)⟩⟩
 case round =>
  clear H'
  try clear c1
  try clear c2
  try clear p2
  try clear c3
  try clear c8
  try clear hcz9_0
  try clear hcz9_1
  try clear hcz9_2
  try clear hcz9_3
  try clear hfz9_0
  try clear hfz9_1
  try clear hfz9_2
  try clear hfz9_3
  obtain ⟨x9_1, x20_1, x150000_1, x150001_1, x150002_1, x150003_1, u150003, rfl, rfl, HA, HK1, HO_150003, BK141, BK149, HB⟩ := hrel
  cases gk with
  | zero => exact absurd HA.out (by simp [lookoutlaw31_of.l0])
  | succ k1 =>
   have H := HA.out
   clear HA
   simp only [lookoutlaw31_of.l0] at H
   by_cases c11 : x20_1 < (l2.length : Int)
   ·rw [if_pos c11] at H
    have c11b0 : decide (x20_1 < (l2.length : Int)) = true := decide_eq_true c11
    clear c11
    by_cases c12 : 0 ≤ x20_1
    ·rw [if_pos c12] at H
     have c12b0 : decide (0 ≤ x20_1) = true := decide_eq_true c12
     clear c12
     by_cases c13 : x20_1 < (l2.length : Int)
     ·rw [if_pos c13] at H
      have c13b0 : decide (x20_1 < (l2.length : Int)) = true := decide_eq_true c13
      clear c13
      by_cases c14 : x9_1 = 0
      ·rw [if_pos c14] at H
       have c14b0 : (x9_1 == 0) = true := beq_iff_eq.mpr c14
       have c14b1 : (x9_1 != 0) = false := bne_eq_false_iff_eq.mpr c14
       clear c14
       replace H := Option.bind_eq_some_iff.mp H
       obtain ⟨⟨t151, t152, t153, t154, t157⟩, A150, H⟩ := H
       replace H : (lookoutlaw31_of.l0 k1 t157 l2 (l2.length : Int) (wrap64 (x20_1 + 1)) t151 t152 t153 t154) = some (r1, r2, r3, r4, r5) := H
       have A15 := Aside0.mk A150
       clear A150
       have H' := Aside0.mk H
       clear H
       have p150 : 0 ≤ (x20_1 : Int) := of_decide_eq_true (by first | (with_reducible assumption) | assumption)
       have q150 : x20_1 < (l2.length : Int) := of_decide_eq_true (by first | (with_reducible assumption) | assumption)
       obtain ⟨ad150, e150, hx150_0⟩ := Kd.at_int HR2.out x20_1 p150 q150
       cases e150
       replace hx150_0 := (HB.out.cell (World.block_lt_of_cell? w _ hx150_0)).trans hx150_0
       replace p150 := eq_true p150
       replace q150 := eq_true q150
       have hnb16 := NB149_141.out
       have hnc16 := NB141_149.out
       have hcz17_0 : wr.cell? ⟨gb149, 0, none⟩ = some (.int .i64 x150000_1) := (blk_cell BK149.out 0).trans rfl
       have hcz17_1 : wr.cell? ⟨gb149, 1, none⟩ = some (.int .i64 x150001_1) := (blk_cell BK149.out 1).trans rfl
       have hcz17_2 : wr.cell? ⟨gb149, 2, none⟩ = some (.int .i64 x150002_1) := (blk_cell BK149.out 2).trans rfl
       have hcz17_3 : wr.cell? ⟨gb149, 3, none⟩ = some (u150003) := (blk_cell BK149.out 3).trans rfl
       have hfz17_0 := blk_frozen BK149.out 0
       have hfz17_1 := blk_frozen BK149.out 1
       have hfz17_2 := blk_frozen BK149.out 2
       have hfz17_3 := blk_frozen BK149.out 3
       obtain ⟨Ao18, co18, eo18⟩ := Kd.R_slice HO_150003.out
       subst eo18
       go_wp2_with (first | ((with_reducible refine gate_callee (f := 39) rfl ?_); refine goesL_ (some 29) rfl rfl Try.func39 (by kernel_rfl) rfl #[.agg #[.int .i64 x150000_1, .int .i64 x150001_1, .int .i64 x150002_1, .slice Ao18 x150003_1.length co18], .int .i64 (rd l2 x20_1), .int .i64 1] rfl (by (try simp only [List.map_toArray, List.map_cons, List.map_nil]); first | done | rfl | (simp only [List.length_drop, List.length_take]; rfl)) ?_; (with_reducible refine (qdigest_Add.calls k1 x150000_1 x150001_1 x150002_1 _ _ x150003_1 (rd l2 x20_1) 1 t151 t152 t153 t154 t157 _ ?side1 ?side2 A15.out).mono ?_); (case side1 => repeat (first | exact (Kd.R_reads' HO_150003.out).2.2 | (with_reducible refine Kd.C_alloc ?_ _) | (with_reducible refine Kd.C_drewN ?_ _) | (with_reducible refine Kd.C_drew ?_))); (case side2 => exact (Kd.R_reads' HO_150003.out).2.1); rintro e w19 ⟨v155, rfl, ho0, hb⟩; refine ⟨_, rfl, ?_⟩; have n0_ := Aside0.mk (Kd.R_elder' (by (with_reducible repeat (first | apply Kd.R_alloc | apply Kd.R_drewN | apply Kd.R_drew)); exact HO_150003.out) (Kd.R_base ho0) hb); have n1_ := Aside0.mk (Kd.R_lower (Kd.R_new' ho0 (Kd.R_lt (by (with_reducible repeat (first | apply Kd.R_alloc | apply Kd.R_drewN | apply Kd.R_drew)); exact HO_150003.out))) (below_size (by repeat (first | (with_reducible first | exact HB.out | apply below_alloc | apply pw_below_drewN | apply below_drew1 | refine below_set ?_ GE141.out | refine below_set ?_ GE149.out) | exact HB.out)))); have n2_ := Aside0.mk (blk_below (g := gb141) (o := .cells #[.int .i64 0, .int .i64 0, .int .i64 0, .slice none 0 0] 24 (0, 0)) (by (with_reducible repeat (first | refine blk_drewN ?_ _ | refine blk_drew ?_ | refine blk_alloc ?_ _)); exact BK141.out) hb); have n3_ := Aside0.mk (blk_below (g := gb149) (o := .cells #[.int .i64 x150000_1, .int .i64 x150001_1, .int .i64 x150002_1, .slice Ao18 x150003_1.length co18] 24 (0, 0)) (by (with_reducible repeat (first | refine blk_drewN ?_ _ | refine blk_drew ?_ | refine blk_alloc ?_ _)); exact BK149.out) hb); have n4_ := Aside0.mk (below_step (by repeat (first | (with_reducible first | exact HB.out | apply below_alloc | apply pw_below_drewN | apply below_drew1 | refine below_set ?_ GE141.out | refine below_set ?_ GE149.out) | exact HB.out)) hb); clear HO_150003; clear BK141; clear BK149; clear HB; have HO_150003 := n0_; have HO156 := n1_; have BK141 := n2_; have BK149 := n3_; have HB := n4_; clear n0_ n1_ n2_ n3_ n4_; (try clear hb); (try clear hb2); (try clear hk); (try clear hi); (try clear ho0); have hcz20_0 : w19.cell? ⟨gb149, 0, none⟩ = some (.int .i64 x150000_1) := (blk_cell BK149.out 0).trans rfl; have hcz20_1 : w19.cell? ⟨gb149, 1, none⟩ = some (.int .i64 x150001_1) := (blk_cell BK149.out 1).trans rfl; have hcz20_2 : w19.cell? ⟨gb149, 2, none⟩ = some (.int .i64 x150002_1) := (blk_cell BK149.out 2).trans rfl; have hcz20_3 : w19.cell? ⟨gb149, 3, none⟩ = some (.slice Ao18 x150003_1.length co18) := (blk_cell BK149.out 3).trans rfl; have hfz20_0 := blk_frozen BK149.out 0; have hfz20_1 := blk_frozen BK149.out 1; have hfz20_2 := blk_frozen BK149.out 2; have hfz20_3 := blk_frozen BK149.out 3; obtain ⟨Ao21, co21, eo21⟩ := Kd.R_slice HO156.out; subst eo21))
       go_roundg k1
       case measure => have := HK1.out; omega
       case rel => exact ⟨(t157), (wrap64 (x20_1 + 1)), (t151), (t152), (t153), (t154), (.slice Ao21 t154.length co21), (by first | rfl | (simp; done) | (simp [*]; done)), (by first | rfl | (simp; done) | (simp [*]; done)), H', ⟨by have := HK1.out; omega⟩, ⟨by (with_reducible repeat (first | apply Kd.R_alloc | apply Kd.R_drewN | apply Kd.R_drew)); exact Kd.R_mono (Kd.R_far (p := ⟨gb149, 3, none⟩) (Kd.R_far (p := ⟨gb149, 2, none⟩) (Kd.R_far (p := ⟨gb149, 1, none⟩) (Kd.R_far (p := ⟨gb149, 0, none⟩) (Kd.R_types HO156.out BK149.out (by decide)) (fun _ hk => hk.2) (.int .i64 t151)) (fun _ hk => hk.2) (.int .i64 t152)) (fun _ hk => hk.2) (.int .i64 t153)) (fun _ hk => hk.2) (.slice Ao21 t154.length co21)) (fun _ hk => trivial)⟩, ⟨by (with_reducible repeat (first | refine blk_drewN ?_ _ | refine blk_drew ?_ | refine blk_alloc ?_ _)); refine blk_far ?_ NB141_149.out _; (with_reducible repeat (first | refine blk_drewN ?_ _ | refine blk_drew ?_ | refine blk_alloc ?_ _)); refine blk_far ?_ NB141_149.out _; (with_reducible repeat (first | refine blk_drewN ?_ _ | refine blk_drew ?_ | refine blk_alloc ?_ _)); refine blk_far ?_ NB141_149.out _; (with_reducible repeat (first | refine blk_drewN ?_ _ | refine blk_drew ?_ | refine blk_alloc ?_ _)); refine blk_far ?_ NB141_149.out _; (with_reducible repeat (first | refine blk_drewN ?_ _ | refine blk_drew ?_ | refine blk_alloc ?_ _)); exact BK141.out⟩, ⟨by (with_reducible repeat (first | refine blk_drewN ?_ _ | refine blk_drew ?_ | refine blk_alloc ?_ _)); refine blk_put (cs := #[.int .i64 t151, .int .i64 t152, .int .i64 t153, .slice Ao18 x150003_1.length co18]) ?_ 3 _ rfl; (with_reducible repeat (first | refine blk_drewN ?_ _ | refine blk_drew ?_ | refine blk_alloc ?_ _)); refine blk_put (cs := #[.int .i64 t151, .int .i64 t152, .int .i64 x150002_1, .slice Ao18 x150003_1.length co18]) ?_ 2 _ rfl; (with_reducible repeat (first | refine blk_drewN ?_ _ | refine blk_drew ?_ | refine blk_alloc ?_ _)); refine blk_put (cs := #[.int .i64 t151, .int .i64 x150001_1, .int .i64 x150002_1, .slice Ao18 x150003_1.length co18]) ?_ 1 _ rfl; (with_reducible repeat (first | refine blk_drewN ?_ _ | refine blk_drew ?_ | refine blk_alloc ?_ _)); refine blk_put (cs := #[.int .i64 x150000_1, .int .i64 x150001_1, .int .i64 x150002_1, .slice Ao18 x150003_1.length co18]) ?_ 0 _ rfl; (with_reducible repeat (first | refine blk_drewN ?_ _ | refine blk_drew ?_ | refine blk_alloc ?_ _)); exact BK149.out⟩, ⟨by repeat (first | (with_reducible first | exact HB.out | apply below_alloc | apply pw_below_drewN | apply below_drew1 | refine below_set ?_ GE141.out | refine below_set ?_ GE149.out) | exact HB.out)⟩⟩
      ·rw [if_neg c14] at H
       have c14b0 : (x9_1 == 0) = false := beq_eq_false_iff_ne.mpr c14
       have c14b1 : (x9_1 != 0) = true := bne_iff_ne.mpr c14
       have H' := Aside0.mk H
       clear H
       have p150 : 0 ≤ (x20_1 : Int) := of_decide_eq_true (by first | (with_reducible assumption) | assumption)
       have q150 : x20_1 < (l2.length : Int) := of_decide_eq_true (by first | (with_reducible assumption) | assumption)
       obtain ⟨ad150, e150, hx150_0⟩ := Kd.at_int HR2.out x20_1 p150 q150
       cases e150
       replace hx150_0 := (HB.out.cell (World.block_lt_of_cell? w _ hx150_0)).trans hx150_0
       replace p150 := eq_true p150
       replace q150 := eq_true q150
       go_wp2
       go_roundg k1
       case measure => have := HK1.out; omega
       case rel => exact ⟨(x9_1), (wrap64 (x20_1 + 1)), (x150000_1), (x150001_1), (x150002_1), (x150003_1), (u150003), (by first | rfl | (simp; done) | (simp [*]; done)), (by first | rfl | (simp; done) | (simp [*]; done)), H', ⟨by have := HK1.out; omega⟩, ⟨by (with_reducible repeat (first | apply Kd.R_alloc | apply Kd.R_drewN | apply Kd.R_drew)); exact HO_150003.out⟩, ⟨by (with_reducible repeat (first | refine blk_drewN ?_ _ | refine blk_drew ?_ | refine blk_alloc ?_ _)); exact BK141.out⟩, ⟨by (with_reducible repeat (first | refine blk_drewN ?_ _ | refine blk_drew ?_ | refine blk_alloc ?_ _)); exact BK149.out⟩, ⟨by repeat (first | (with_reducible first | exact HB.out | apply below_alloc | apply pw_below_drewN | apply below_drew1 | refine below_set ?_ GE141.out | refine below_set ?_ GE149.out) | exact HB.out)⟩⟩
     ·rw [if_neg c13] at H
      exact absurd H (by simp)
    ·rw [if_neg c12] at H
     exact absurd H (by simp)
   ·rw [if_neg c11] at H
    have c11b0 : decide (x20_1 < (l2.length : Int)) = false := decide_eq_false c11
    clear c11
    simp only [Option.some.injEq, Prod.mk.injEq] at H
    obtain ⟨rfl, rfl, rfl, rfl, rfl⟩ := H
    have hnb22 := NB149_141.out
    have hnc22 := NB141_149.out
    have hcz23_0 : wr.cell? ⟨gb149, 0, none⟩ = some (.int .i64 x150000_1) := (blk_cell BK149.out 0).trans rfl
    have hcz23_1 : wr.cell? ⟨gb149, 1, none⟩ = some (.int .i64 x150001_1) := (blk_cell BK149.out 1).trans rfl
    have hcz23_2 : wr.cell? ⟨gb149, 2, none⟩ = some (.int .i64 x150002_1) := (blk_cell BK149.out 2).trans rfl
    have hcz23_3 : wr.cell? ⟨gb149, 3, none⟩ = some (u150003) := (blk_cell BK149.out 3).trans rfl
    have hfz23_0 := blk_frozen BK149.out 0
    have hfz23_1 := blk_frozen BK149.out 1
    have hfz23_2 := blk_frozen BK149.out 2
    have hfz23_3 := blk_frozen BK149.out 3
    have hcz24_0 : wr.cell? ⟨gb141, 0, none⟩ = some (.int .i64 0) := (blk_cell BK141.out 0).trans rfl
    have hcz24_1 : wr.cell? ⟨gb141, 1, none⟩ = some (.int .i64 0) := (blk_cell BK141.out 1).trans rfl
    have hcz24_2 : wr.cell? ⟨gb141, 2, none⟩ = some (.int .i64 0) := (blk_cell BK141.out 2).trans rfl
    have hcz24_3 : wr.cell? ⟨gb141, 3, none⟩ = some (.slice none 0 0) := (blk_cell BK141.out 3).trans rfl
    have hfz24_0 := blk_frozen BK141.out 0
    have hfz24_1 := blk_frozen BK141.out 1
    have hfz24_2 := blk_frozen BK141.out 2
    have hfz24_3 := blk_frozen BK141.out 3
    obtain ⟨Ao25, co25, eo25⟩ := Kd.R_slice HO_150003.out
    subst eo25
    go_wp2
    refine bodyPost_ret (results_ct rfl _ _ gb141 24 #[.int .i64 x150000_1, .int .i64 x150001_1, .int .i64 x150002_1, .slice Ao25 x150003_1.length co25] (0, 0) _ rfl (by (with_reducible repeat (first | refine blk_drewN ?_ _ | refine blk_drew ?_ | refine blk_alloc ?_ _)); refine blk_put (cs := #[.int .i64 x150000_1, .int .i64 x150001_1, .int .i64 x150002_1, .slice none 0 0]) ?_ 3 _ rfl; (with_reducible repeat (first | refine blk_drewN ?_ _ | refine blk_drew ?_ | refine blk_alloc ?_ _)); refine blk_put (cs := #[.int .i64 x150000_1, .int .i64 x150001_1, .int .i64 0, .slice none 0 0]) ?_ 2 _ rfl; (with_reducible repeat (first | refine blk_drewN ?_ _ | refine blk_drew ?_ | refine blk_alloc ?_ _)); refine blk_put (cs := #[.int .i64 x150000_1, .int .i64 0, .int .i64 0, .slice none 0 0]) ?_ 1 _ rfl; (with_reducible repeat (first | refine blk_drewN ?_ _ | refine blk_drew ?_ | refine blk_alloc ?_ _)); refine blk_put (cs := #[.int .i64 0, .int .i64 0, .int .i64 0, .slice none 0 0]) ?_ 0 _ rfl; (with_reducible repeat (first | refine blk_drewN ?_ _ | refine blk_drew ?_ | refine blk_alloc ?_ _)); exact BK141.out) Try.underlying24 rfl (by kernel_rfl)) rfl ?_
    exact ⟨_, by first | rfl | (simp [errW_none, errW_some] <;> rfl) | (simp [*, errW_none, errW_some] <;> rfl), by (with_reducible repeat (first | apply Kd.R_alloc | apply Kd.R_drewN | apply Kd.R_drew)); exact Kd.R_mono (Kd.R_far (p := ⟨gb141, 3, none⟩) (Kd.R_far (p := ⟨gb141, 2, none⟩) (Kd.R_far (p := ⟨gb141, 1, none⟩) (Kd.R_far (p := ⟨gb141, 0, none⟩) (Kd.R_types HO_150003.out BK141.out (by decide)) (fun _ hk => hk.2) (.int .i64 x150000_1)) (fun _ hk => hk.2) (.int .i64 x150001_1)) (fun _ hk => hk.2) (.int .i64 x150002_1)) (fun _ hk => hk.2) (.slice Ao25 x150003_1.length co25)) (fun _ hk => trivial), by repeat (first | (with_reducible first | exact HB.out | apply below_alloc | apply pw_below_drewN | apply below_drew1 | refine below_set ?_ GE141.out | refine below_set ?_ GE149.out) | exact HB.out)⟩

end Go.Proofs.Ytcgimjoebkeifaa.PQ

/- qdigest.Compress as a Lean function, with a proof that the call answers so. Conditions: the nodes lie in memory as given. -/
namespace Go.Proofs.Ytcgimjoebkeifaa.PQ
open Go.RowKit Go.Proofs.YtcgimjoebkeifaaW.PrintWords Go.Proofs.QComp Go.Proofs.Ytcgimjoebkeifaa.QComp Go.Proofs.YtcgimjoebkeifaaW.PrintLast Go.Proofs.YtcgimjoebkeifaaW.PrintMore
def qdigest_Compress.f (k : Nat) (a0_0 : Int) (a0_1 : Int) (a0_2 : Int) (l0_3 : List (S63)) : Option (Int × Int × Int × (List (S63)) × Int) :=
  (qdigest_Check.f k a0_0 a0_1 a0_2 l0_3).bind fun t => if t = 0 then ((comp k a0_0 a0_1 a0_2 (l0_3.map pair)).bind fun cs => some (a0_0, a0_1, a0_2, cs.map unpair, 0)) else some (0, 0, 0, [], 1)
theorem qdigest_Compress.mono : ∀ a0 a1 a2 a3 k, LeO (qdigest_Compress.f k a0 a1 a2 a3) (qdigest_Compress.f (k + 1) a0 a1 a2 a3) := by
  intro a0 a1 a2 a3 k
  unfold qdigest_Compress.f
  refine LeO.bind (qdigest_Check.mono _ _ _ _ _) (fun t => ?_)
  refine LeO.ite ?_ (LeO.refl _)
  exact LeO.bind (fun r h => comp_mono _ _ _ _ _ _ h) (fun _ => LeO.refl _)
theorem qdigest_Compress.calls (k : Nat) (a0_0 : Int) (a0_1 : Int) (a0_2 : Int) (A0_3 : Option Addr) (c0_3 : Nat) (l0_3 : List (S63)) (r1 : Int) (r2 : Int) (r3 : Int) (r4 : List (S63)) (r5 : Int) (w : World) (hr0_3 : Kd.C k63 w A0_3 l0_3.length l0_3) (hc0_3 : l0_3.length ≤ c0_3) (h : qdigest_Compress.f k a0_0 a0_1 a0_2 l0_3 = some (r1, r2, r3, r4, r5)) :
    Calls Try.prog 11 #[.agg #[.int .i64 a0_0, .int .i64 a0_1, .int .i64 a0_2, .slice A0_3 l0_3.length c0_3]] w fun e w' => ∃ v3_ : Value, e = .returned (.tuple #[.agg #[.int .i64 r1, .int .i64 r2, .int .i64 r3, v3_], .int .i64 r5]) ∧ Kd.R k63 63 w' w.heap.size (fun _ => True) v3_ r4 ∧ Below w.heap.size w w' := by
  unfold qdigest_Compress.f at h
  obtain ⟨t, ht, h⟩ := Option.bind_eq_some_iff.1 h
  by_cases h0 : t = 0
  · rw [if_pos h0] at h
    subst h0
    obtain ⟨cs, hcs, h⟩ := Option.bind_eq_some_iff.1 h
    simp only [Option.some.injEq, Prod.mk.injEq] at h
    obtain ⟨rfl, rfl, rfl, rfl, rfl⟩ := h
    exact comp_yes k a0_0 a0_1 a0_2 A0_3 c0_3 l0_3 cs w hr0_3 hc0_3 ht hcs
  · rw [if_neg h0] at h
    simp only [Option.some.injEq, Prod.mk.injEq] at h
    obtain ⟨rfl, rfl, rfl, rfl, rfl⟩ := h
    exact comp_no k a0_0 a0_1 a0_2 A0_3 c0_3 l0_3 t w hr0_3 hc0_3 ht h0
end Go.Proofs.Ytcgimjoebkeifaa.PQ

/- Written by a program of this session (wip/patch_print.py): Go functions as Lean functions, each with a proof that the call does what its function says. No conditions beyond each theorem's own. -/
namespace Go.Proofs.Ytcgimjoebkeifaa.PQ
open Go.RowKit Go.Proofs.YtcgimjoebkeifaaW.PrintWords Go.Proofs.YtcgimjoebkeifaaW.PrintLast Go.Proofs.YtcgimjoebkeifaaW.PrintMore
attribute [local go_sem] max2_int min2_int max_two min_two max_three min_three max_four min_four   -- for this text's walks alone
set_option linter.unusedVariables false
set_option linter.unusedSimpArgs false

/-! ### ratio_divisor: function 75 -/
def ratio_divisor.l0 : Nat → Int → Int → Option (Int)
 | 0, _, _ => none
 | k + 1, x0, x1 => if x1 = 0 then (some x0) else (ratio_divisor.l0 k x1 (Int.tmod x0 x1))
def ratio_divisor.f (k : Nat) (a0 : Int) (a1 : Int) : Option (Int) := ratio_divisor.l0 k a0 a1
theorem ratio_divisor.mono_l : ∀ k, (∀ y0 y1, LeO (ratio_divisor.l0 k y0 y1) (ratio_divisor.l0 (k + 1) y0 y1))
 | 0 => fun _ _ r h => by simp [ratio_divisor.l0] at h
 | k + 1 => by
  have ih0 := ratio_divisor.mono_l k
  ·intro y0 y1
   unfold ratio_divisor.l0
   repeat' first
   | (with_reducible exact ih0 _ _)
   | (with_reducible exact LeO.refl _)
   | (with_reducible exact LeO.none _)
   | (with_reducible refine LeO.ite ?_ ?_)
   | (with_reducible refine LeO.bind ?_ (fun _ => ?_))
   | exact ih0 _ _
   | exact LeO.none _
   | refine LeO.ite ?_ ?_
   | refine LeO.bind ?_ (fun _ => ?_)
theorem ratio_divisor.mono : ∀ a0 a1 k, LeO (ratio_divisor.f k a0 a1) (ratio_divisor.f (k + 1) a0 a1) := by
 intro a0 a1 k
 have ih0 := ratio_divisor.mono_l k
 unfold ratio_divisor.f
 repeat' first
   | (with_reducible exact ih0 _ _)
   | (with_reducible exact LeO.refl _)
   | (with_reducible exact LeO.none _)
   | (with_reducible refine LeO.ite ?_ ?_)
   | (with_reducible refine LeO.bind ?_ (fun _ => ?_))
   | exact ih0 _ _
   | exact LeO.none _
   | refine LeO.ite ?_ ?_
   | refine LeO.bind ?_ (fun _ => ?_)
set_option maxHeartbeats 8000000 in
set_option maxRecDepth 100000 in
theorem ratio_divisor.calls (k : Nat) (a0 : Int) (a1 : Int) (r : Int) (w : World) (h : ratio_divisor.f k a0 a1 = some r) :
  Calls Try.prog 75 #[.int .u64 a0, .int .u64 a1] w fun e w' => e = .returned (.int .u64 r) ∧ Drawn0 w w' := by
 have H : (ratio_divisor.l0 k a0 a1) = some r := h
 clear h
 have H' := Aside0.mk H
 clear H
 go_enter Try.func75, Try.ntmps75
 go_wp2
 repeat (go_quiet (fail); try go_wp2)
 go_loopg [0, 1] k (fun kq v0 v1 w' => ∃ (x0_1 : Int) (x1_1 : Int), v0 = .int .u64 x0_1 ∧ v1 = .int .u64 x1_1 ∧ Aside0 (ratio_divisor.l0 kq x0_1 x1_1 = some r) ∧ Aside0 (kq ≤ k) ∧ Drawn0 w w')
 case atStart => exact ⟨(a0), (a1), (by first | rfl | (simp; done) | (simp [*]; done)), (by first | rfl | (simp; done) | (simp [*]; done)), H', ⟨Nat.le_refl _⟩, by repeat (first | exact Drawn0.refl _ | apply Drawn0.step)⟩
 case round =>
  clear H'
  try clear p2
  obtain ⟨x0_1, x1_1, rfl, rfl, HA, HK1, ⟨m1, rfl⟩⟩ := hrel
  cases gk with
  | zero => exact absurd HA.out (by simp [ratio_divisor.l0])
  | succ k1 =>
   have H := HA.out
   clear HA
   simp only [ratio_divisor.l0] at H
   by_cases c3 : x1_1 = 0
   ·rw [if_pos c3] at H
    have c3b0 : (x1_1 == 0) = true := beq_iff_eq.mpr c3
    have c3b1 : (x1_1 != 0) = false := bne_eq_false_iff_eq.mpr c3
    clear c3
    obtain rfl := Option.some.inj H
    go_wp2
    repeat (go_quiet (fail); try go_wp2)
    go_ret
    exact ⟨by first | rfl | (simp; done) | (simp [*]; done), by repeat (first | exact Drawn0.refl _ | apply Drawn0.step)⟩
   ·rw [if_neg c3] at H
    have c3b0 : (x1_1 == 0) = false := beq_eq_false_iff_ne.mpr c3
    have c3b1 : (x1_1 != 0) = true := bne_iff_ne.mpr c3
    have H' := Aside0.mk H
    clear H
    go_wp2
    repeat (go_quiet (fail); try go_wp2)
    go_roundg k1
    case measure => have := HK1.out; omega
    case rel => exact ⟨(x1_1), (Int.tmod x0_1 x1_1), (by first | rfl | (simp; done) | (simp [*]; done)), (by first | rfl | (simp; done) | (simp [*]; done)), H', ⟨by have := HK1.out; omega⟩, by repeat (first | exact Drawn0.refl _ | apply Drawn0.step)⟩

end Go.Proofs.Ytcgimjoebkeifaa.PQ

/- Written by a program of this session (wip/patch_print.py): Go functions as Lean functions, each with a proof that the call does what its function says. No conditions beyond each theorem's own. -/
namespace Go.Proofs.Ytcgimjoebkeifaa.PQ
open Go.RowKit Go.Proofs.YtcgimjoebkeifaaW.PrintWords Go.Proofs.YtcgimjoebkeifaaW.PrintLast Go.Proofs.YtcgimjoebkeifaaW.PrintMore
attribute [local go_sem] max2_int min2_int max_two min_two max_three min_three max_four min_four   -- for this text's walks alone
set_option linter.unusedVariables false
set_option linter.unusedSimpArgs false

/-! ### ratio_magnitude: function 76 -/
def ratio_magnitude.f (a0 : Int) : Option (Int) := if a0 < 0 then (some (IntKind.u64.wrap (-(IntKind.u64.wrap (a0))))) else (some (IntKind.u64.wrap (a0)))
set_option maxHeartbeats 8000000 in
set_option maxRecDepth 100000 in
theorem ratio_magnitude.calls (a0 : Int) (r : Int) (w : World) (h : ratio_magnitude.f a0 = some r) :
  Calls Try.prog 76 #[.int .i64 a0] w fun e w' => e = .returned (.int .u64 r) ∧ Drawn0 w w' := by
 have H : (if a0 < 0 then (some (IntKind.u64.wrap (-(IntKind.u64.wrap (a0))))) else (some (IntKind.u64.wrap (a0)))) = some r := h
 clear h
 by_cases c2 : a0 < 0
 ·rw [if_pos c2] at H
  have c2b0 : decide (a0 < 0) = true := decide_eq_true c2
  clear c2
  obtain rfl := Option.some.inj H
  go_enter Try.func76, Try.ntmps76
  go_wp2
  go_ret
  exact ⟨by first | rfl | (simp; done) | (simp [*]; done), by repeat (first | exact Drawn0.refl _ | apply Drawn0.step)⟩
 ·rw [if_neg c2] at H
  have c2b0 : decide (a0 < 0) = false := decide_eq_false c2
  clear c2
  obtain rfl := Option.some.inj H
  go_enter Try.func76, Try.ntmps76
  go_wp2
  go_ret
  exact ⟨by first | rfl | (simp; done) | (simp [*]; done), by repeat (first | exact Drawn0.refl _ | apply Drawn0.step)⟩

end Go.Proofs.Ytcgimjoebkeifaa.PQ

/- Written by a program of this session (wip/patch_print.py): Go functions as Lean functions, each with a proof that the call does what its function says. No conditions beyond each theorem's own. -/
namespace Go.Proofs.Ytcgimjoebkeifaa.PQ
open Go.RowKit Go.Proofs.YtcgimjoebkeifaaW.PrintWords Go.Proofs.YtcgimjoebkeifaaW.PrintLast Go.Proofs.YtcgimjoebkeifaaW.PrintMore
attribute [local go_sem] max2_int min2_int max_two min_two max_three min_three max_four min_four   -- for this text's walks alone
set_option linter.unusedVariables false
set_option linter.unusedSimpArgs false

/-! ### ratio_Check: function 47 -/
mutual
def ratio_Check.j0 : Nat → Bool → Int → Int → Option (Int)
 | 0, _, _, _ => none
 | k + 1, x3, x119000, x119001 => if x3 = true then (some 1) else (if x119000 < (-1152921504606846976) then (ratio_Check.j1 k true x119000 x119001) else (ratio_Check.j1 k (decide (x119000 > 1152921504606846976)) x119000 x119001))
def ratio_Check.j1 : Nat → Bool → Int → Int → Option (Int)
 | 0, _, _, _ => none
 | k + 1, x12, x119000, x119001 => if x12 = true then (some 1) else ((ratio_magnitude.f x119000).bind fun t119 => ((ratio_divisor.f k t119 (IntKind.u64.wrap (x119001))).bind fun t120 => (if t120 = 1 then (some 0) else (some 1))))
end
def ratio_Check.f (k : Nat) (a0_0 : Int) (a0_1 : Int) : Option (Int) := if a0_1 < 1 then (ratio_Check.j0 k true a0_0 a0_1) else (ratio_Check.j0 k (decide (a0_1 > 1152921504606846976)) a0_0 a0_1)
theorem ratio_Check.mono_l : ∀ k, (∀ y0 y1 y2, LeO (ratio_Check.j0 k y0 y1 y2) (ratio_Check.j0 (k + 1) y0 y1 y2)) ∧ (∀ y0 y1 y2, LeO (ratio_Check.j1 k y0 y1 y2) (ratio_Check.j1 (k + 1) y0 y1 y2))
 | 0 => ⟨fun _ _ _ r h => by simp [ratio_Check.j0] at h, fun _ _ _ r h => by simp [ratio_Check.j1] at h⟩
 | k + 1 => by
  obtain ⟨ih0, ih1⟩ := ratio_Check.mono_l k
  refine ⟨?_, ?_⟩
  ·intro y0 y1 y2
   unfold ratio_Check.j0
   repeat' first
   | (with_reducible exact ih0 _ _ _)
   | (with_reducible exact ih1 _ _ _)
   | (with_reducible exact ratio_divisor.mono _ _ _)
   | (with_reducible exact LeO.refl _)
   | (with_reducible exact LeO.none _)
   | (with_reducible refine LeO.ite ?_ ?_)
   | (with_reducible refine LeO.bind ?_ (fun _ => ?_))
   | exact ih0 _ _ _
   | exact ih1 _ _ _
   | exact ratio_divisor.mono _ _ _
   | exact LeO.none _
   | refine LeO.ite ?_ ?_
   | refine LeO.bind ?_ (fun _ => ?_)
  ·intro y0 y1 y2
   unfold ratio_Check.j1
   repeat' first
   | (with_reducible exact ih0 _ _ _)
   | (with_reducible exact ih1 _ _ _)
   | (with_reducible exact ratio_divisor.mono _ _ _)
   | (with_reducible exact LeO.refl _)
   | (with_reducible exact LeO.none _)
   | (with_reducible refine LeO.ite ?_ ?_)
   | (with_reducible refine LeO.bind ?_ (fun _ => ?_))
   | exact ih0 _ _ _
   | exact ih1 _ _ _
   | exact ratio_divisor.mono _ _ _
   | exact LeO.none _
   | refine LeO.ite ?_ ?_
   | refine LeO.bind ?_ (fun _ => ?_)
theorem ratio_Check.mono : ∀ a0 a1 k, LeO (ratio_Check.f k a0 a1) (ratio_Check.f (k + 1) a0 a1) := by
 intro a0 a1 k
 obtain ⟨ih0, ih1⟩ := ratio_Check.mono_l k
 unfold ratio_Check.f
 repeat' first
   | (with_reducible exact ih0 _ _ _)
   | (with_reducible exact ih1 _ _ _)
   | (with_reducible exact ratio_divisor.mono _ _ _)
   | (with_reducible exact LeO.refl _)
   | (with_reducible exact LeO.none _)
   | (with_reducible refine LeO.ite ?_ ?_)
   | (with_reducible refine LeO.bind ?_ (fun _ => ?_))
   | exact ih0 _ _ _
   | exact ih1 _ _ _
   | exact ratio_divisor.mono _ _ _
   | exact LeO.none _
   | refine LeO.ite ?_ ?_
   | refine LeO.bind ?_ (fun _ => ?_)
set_option maxHeartbeats 8000000 in
set_option maxRecDepth 100000 in
theorem ratio_Check.calls (k : Nat) (a0_0 : Int) (a0_1 : Int) (r : Int) (w : World) (h : ratio_Check.f k a0_0 a0_1 = some r) :
  Calls Try.prog 47 #[.agg #[.int .i64 a0_0, .int .i64 a0_1]] w fun e w' => e = .returned (.int .i64 r) ∧ Below w.heap.size w w' := by
 have hu54 := Try.underlying54
 have HB := Aside0.mk (Below.refl w.heap.size w)
 have H : (if a0_1 < 1 then (ratio_Check.j0 k true a0_0 a0_1) else (ratio_Check.j0 k (decide (a0_1 > 1152921504606846976)) a0_0 a0_1)) = some r := h
 clear h
 have HC2 := Aside0.mk H
 clear H
 go_enter Try.func47, Try.ntmps47
 go_upto_region 1 with (first | ((with_reducible refine gate_dst (N := 1) rfl ?_); refine box_event ?hg (N := 1) ?hd (cs := #[.int .i64 a0_0, .int .i64 a0_1]) (t := 54) ?hr ?_; (case hd => rfl); (case hg => rfl); (case hr => first | (go_simp; done) | (go_simp; rfl)); intro gb118 hg w3 hbox hb; have n0_ := Aside0.mk (below_step (by repeat (first | (with_reducible first | exact HB.out | apply below_alloc | apply pw_below_drewN | apply below_drew1) | exact HB.out)) hb); have n1_ := Aside0.mk (hbox); have n2_ := Aside0.mk ((by rw [hg]; exact (below_size (by repeat (first | (with_reducible first | exact HB.out | apply below_alloc | apply pw_below_drewN | apply below_drew1) | exact HB.out))) : w.heap.size ≤ gb118)); have n3_ := Aside0.mk ((by rw [hg]; exact (below_size (by repeat (first | (with_reducible first | exact HB.out | apply below_alloc | apply pw_below_drewN | apply below_drew1) | exact HB.out))) : w.heap.size ≤ gb118)); clear HB; have HB := n0_; have BK118 := n1_; have GW118 := n2_; have GE118 := n3_; clear n0_ n1_ n2_ n3_; clear hb hbox hg))
 repeat (go_quiet (first | ((with_reducible refine gate_dst (N := 1) rfl ?_); refine box_event ?hg (N := 1) ?hd (cs := #[.int .i64 a0_0, .int .i64 a0_1]) (t := 54) ?hr ?_; (case hd => rfl); (case hg => rfl); (case hr => first | (go_simp; done) | (go_simp; rfl)); intro gb118 hg w3 hbox hb; have n0_ := Aside0.mk (below_step (by repeat (first | (with_reducible first | exact HB.out | apply below_alloc | apply pw_below_drewN | apply below_drew1) | exact HB.out)) hb); have n1_ := Aside0.mk (hbox); have n2_ := Aside0.mk ((by rw [hg]; exact (below_size (by repeat (first | (with_reducible first | exact HB.out | apply below_alloc | apply pw_below_drewN | apply below_drew1) | exact HB.out))) : w.heap.size ≤ gb118)); have n3_ := Aside0.mk ((by rw [hg]; exact (below_size (by repeat (first | (with_reducible first | exact HB.out | apply below_alloc | apply pw_below_drewN | apply below_drew1) | exact HB.out))) : w.heap.size ≤ gb118)); clear HB; have HB := n0_; have BK118 := n1_; have GW118 := n2_; have GE118 := n3_; clear n0_ n1_ n2_ n3_; clear hb hbox hg)); go_upto_region 1 with (first | ((with_reducible refine gate_dst (N := 1) rfl ?_); refine box_event ?hg (N := 1) ?hd (cs := #[.int .i64 a0_0, .int .i64 a0_1]) (t := 54) ?hr ?_; (case hd => rfl); (case hg => rfl); (case hr => first | (go_simp; done) | (go_simp; rfl)); intro gb118 hg w3 hbox hb; have n0_ := Aside0.mk (below_step (by repeat (first | (with_reducible first | exact HB.out | apply below_alloc | apply pw_below_drewN | apply below_drew1) | exact HB.out)) hb); have n1_ := Aside0.mk (hbox); have n2_ := Aside0.mk ((by rw [hg]; exact (below_size (by repeat (first | (with_reducible first | exact HB.out | apply below_alloc | apply pw_below_drewN | apply below_drew1) | exact HB.out))) : w.heap.size ≤ gb118)); have n3_ := Aside0.mk ((by rw [hg]; exact (below_size (by repeat (first | (with_reducible first | exact HB.out | apply below_alloc | apply pw_below_drewN | apply below_drew1) | exact HB.out))) : w.heap.size ≤ gb118)); clear HB; have HB := n0_; have BK118 := n1_; have GW118 := n2_; have GE118 := n3_; clear n0_ n1_ n2_ n3_; clear hb hbox hg)))
 (try simp only [Act.put, List.setIfInBounds_toArray, List.set_cons_zero, List.set_cons_succ])
 go_cut [3] (fun v3 wc => ∃ (kq : Nat) (x3_1 : Bool), v3 = .bool x3_1 ∧ Aside0 (ratio_Check.j0 kq x3_1 a0_0 a0_1 = some r) ∧ Aside0 (kq ≤ k) ∧ Aside0 (wc.heap[gb118]? = some (.cells #[.int .i64 a0_0, .int .i64 a0_1] 54 (0, 0))) ∧ Aside0 (Below w.heap.size w wc))
 case first =>
  have H := HC2.out
  clear HC2
  by_cases c4 : a0_1 < 1
  ·rw [if_pos c4] at H
   have c4b0 : decide (a0_1 < 1) = true := decide_eq_true c4
   clear c4
   (first | rw [c4b0] | (simp only [i64_w, i32_w]; rw [c4b0]) | skip)
   have H' := Aside0.mk H
   clear H
   have hcz5_0 : w3.cell? ⟨gb118, 0, none⟩ = some (.int .i64 a0_0) := (blk_cell BK118.out 0).trans rfl
   have hcz5_1 : w3.cell? ⟨gb118, 1, none⟩ = some (.int .i64 a0_1) := (blk_cell BK118.out 1).trans rfl
   have hfz5_0 := blk_frozen BK118.out 0
   have hfz5_1 := blk_frozen BK118.out 1
   go_wp2
   repeat (go_quiet (fail); try go_wp2)
   go_meet
   case rel => exact ⟨_, (true), (by first | rfl | (simp; done) | (simp [*]; done)), H', ⟨by first | omega | exact Nat.le_refl _⟩, ⟨by (with_reducible repeat (first | refine blk_drewN ?_ _ | refine blk_drew ?_ | refine blk_alloc ?_ _)); exact BK118.out⟩, ⟨by repeat (first | (with_reducible first | exact HB.out | apply below_alloc | apply pw_below_drewN | apply below_drew1 | refine below_set ?_ GE118.out) | exact HB.out)⟩⟩
  ·rw [if_neg c4] at H
   have c4b0 : decide (a0_1 < 1) = false := decide_eq_false c4
   clear c4
   (first | rw [c4b0] | (simp only [i64_w, i32_w]; rw [c4b0]) | skip)
   have H' := Aside0.mk H
   clear H
   have hcz6_0 : w3.cell? ⟨gb118, 0, none⟩ = some (.int .i64 a0_0) := (blk_cell BK118.out 0).trans rfl
   have hcz6_1 : w3.cell? ⟨gb118, 1, none⟩ = some (.int .i64 a0_1) := (blk_cell BK118.out 1).trans rfl
   have hfz6_0 := blk_frozen BK118.out 0
   have hfz6_1 := blk_frozen BK118.out 1
   go_wp2
   repeat (go_quiet (fail); try go_wp2)
   go_meet
   case rel => exact ⟨_, (decide (a0_1 > 1152921504606846976)), (by first | rfl | (simp; done) | (simp [*]; done)), H', ⟨by first | omega | exact Nat.le_refl _⟩, ⟨by (with_reducible repeat (first | refine blk_drewN ?_ _ | refine blk_drew ?_ | refine blk_alloc ?_ _)); exact BK118.out⟩, ⟨by repeat (first | (with_reducible first | exact HB.out | apply below_alloc | apply pw_below_drewN | apply below_drew1 | refine below_set ?_ GE118.out) | exact HB.out)⟩⟩
 case rest =>
  clear HC2
  try clear p2
  try clear c4
  try clear c4b0
  try clear hcz5_0
  try clear hcz5_1
  try clear hcz6_0
  try clear hcz6_1
  try clear hfz5_0
  try clear hfz5_1
  try clear hfz6_0
  try clear hfz6_1
  obtain ⟨kq, x3_1, rfl, HA, HJ1, BK118, HB⟩ := hcut
  cases kq with
  | zero => exact absurd HA.out (by simp [ratio_Check.j0])
  | succ kj1 =>
   have H := HA.out
   clear HA
   simp only [ratio_Check.j0] at H
   by_cases c7 : x3_1 = true
   ·subst c7
    have H1 : (some 1) = some r := by rw [if_pos rfl] at H; exact H
    clear H
    have H := H1
    clear H1
    obtain rfl := Option.some.inj H
    go_wp2
    repeat (go_quiet (fail); try go_wp2)
    go_ret
    exact ⟨by first | rfl | (simp [errW_none, errW_some] <;> rfl) | (simp [*, errW_none, errW_some] <;> rfl), by repeat (first | (with_reducible first | exact HB.out | apply below_alloc | apply pw_below_drewN | apply below_drew1 | refine below_set ?_ GE118.out) | exact HB.out)⟩
   ·replace c7 := Bool.eq_false_iff.mpr c7
    subst c7
    have H1 : (if a0_0 < (-1152921504606846976) then (ratio_Check.j1 kj1 true a0_0 a0_1) else (ratio_Check.j1 kj1 (decide (a0_0 > 1152921504606846976)) a0_0 a0_1)) = some r := by rw [if_neg (show ¬ (false = true) by decide)] at H; exact H
    clear H
    have H := H1
    clear H1
    have HC8 := Aside0.mk H
    clear H
    go_upto_region 3 with (fail)
    repeat (go_quiet (fail); go_upto_region 3 with (fail))
    go_cut [12] (fun v12 wc => ∃ (kq : Nat) (x12_7 : Bool), v12 = .bool x12_7 ∧ Aside0 (ratio_Check.j1 kq x12_7 a0_0 a0_1 = some r) ∧ Aside0 (kq ≤ kj1) ∧ Aside0 (wc.heap[gb118]? = some (.cells #[.int .i64 a0_0, .int .i64 a0_1] 54 (0, 0))) ∧ Aside0 (Below w.heap.size w wc))
    case first =>
     have H := HC8.out
     clear HC8
     by_cases c9 : a0_0 < (-1152921504606846976)
     ·rw [if_pos c9] at H
      have c9b0 : decide (a0_0 < (-1152921504606846976)) = true := decide_eq_true c9
      clear c9
      (first | rw [c9b0] | (simp only [i64_w, i32_w]; rw [c9b0]) | skip)
      have H' := Aside0.mk H
      clear H
      have hcz10_0 : wc.cell? ⟨gb118, 0, none⟩ = some (.int .i64 a0_0) := (blk_cell BK118.out 0).trans rfl
      have hcz10_1 : wc.cell? ⟨gb118, 1, none⟩ = some (.int .i64 a0_1) := (blk_cell BK118.out 1).trans rfl
      have hfz10_0 := blk_frozen BK118.out 0
      have hfz10_1 := blk_frozen BK118.out 1
      go_wp2
      repeat (go_quiet (fail); try go_wp2)
      go_meet
      case rel => exact ⟨_, (true), (by first | rfl | (simp; done) | (simp [*]; done)), H', ⟨by have := HJ1.out; first | omega | exact Nat.le_refl _⟩, ⟨by (with_reducible repeat (first | refine blk_drewN ?_ _ | refine blk_drew ?_ | refine blk_alloc ?_ _)); exact BK118.out⟩, ⟨by repeat (first | (with_reducible first | exact HB.out | apply below_alloc | apply pw_below_drewN | apply below_drew1 | refine below_set ?_ GE118.out) | exact HB.out)⟩⟩
     ·rw [if_neg c9] at H
      have c9b0 : decide (a0_0 < (-1152921504606846976)) = false := decide_eq_false c9
      clear c9
      (first | rw [c9b0] | (simp only [i64_w, i32_w]; rw [c9b0]) | skip)
      have H' := Aside0.mk H
      clear H
      have hcz11_0 : wc.cell? ⟨gb118, 0, none⟩ = some (.int .i64 a0_0) := (blk_cell BK118.out 0).trans rfl
      have hcz11_1 : wc.cell? ⟨gb118, 1, none⟩ = some (.int .i64 a0_1) := (blk_cell BK118.out 1).trans rfl
      have hfz11_0 := blk_frozen BK118.out 0
      have hfz11_1 := blk_frozen BK118.out 1
      go_wp2
      repeat (go_quiet (fail); try go_wp2)
      go_meet
      case rel => exact ⟨_, (decide (a0_0 > 1152921504606846976)), (by first | rfl | (simp; done) | (simp [*]; done)), H', ⟨by have := HJ1.out; first | omega | exact Nat.le_refl _⟩, ⟨by (with_reducible repeat (first | refine blk_drewN ?_ _ | refine blk_drew ?_ | refine blk_alloc ?_ _)); exact BK118.out⟩, ⟨by repeat (first | (with_reducible first | exact HB.out | apply below_alloc | apply pw_below_drewN | apply below_drew1 | refine below_set ?_ GE118.out) | exact HB.out)⟩⟩
    case rest =>
     clear HC8
     try clear p2
     try clear c4
     try clear c4b0
     try clear c7
     try clear c9
     try clear c9b0
     try clear hcz10_0
     try clear hcz10_1
     try clear hcz11_0
     try clear hcz11_1
     try clear hcz5_0
     try clear hcz5_1
     try clear hcz6_0
     try clear hcz6_1
     try clear hfz10_0
     try clear hfz10_1
     try clear hfz11_0
     try clear hfz11_1
     try clear hfz5_0
     try clear hfz5_1
     try clear hfz6_0
     try clear hfz6_1
     try clear p2
     obtain ⟨kq, x12_7, rfl, HA, HJ7, BK118, HB⟩ := hcut
     cases kq with
     | zero => exact absurd HA.out (by simp [ratio_Check.j1])
     | succ kj7 =>
      have H := HA.out
      clear HA
      simp only [ratio_Check.j1] at H
      by_cases c12 : x12_7 = true
      ·subst c12
       have H1 : (some 1) = some r := by rw [if_pos rfl] at H; exact H
       clear H
       have H := H1
       clear H1
       obtain rfl := Option.some.inj H
       go_wp2
       repeat (go_quiet (fail); try go_wp2)
       go_ret
       exact ⟨by first | rfl | (simp [errW_none, errW_some] <;> rfl) | (simp [*, errW_none, errW_some] <;> rfl), by repeat (first | (with_reducible first | exact HB.out | apply below_alloc | apply pw_below_drewN | apply below_drew1 | refine below_set ?_ GE118.out) | exact HB.out)⟩
      ·replace c12 := Bool.eq_false_iff.mpr c12
       subst c12
       have H1 : ((ratio_magnitude.f a0_0).bind fun t119 => ((ratio_divisor.f kj7 t119 (IntKind.u64.wrap (a0_1))).bind fun t120 => (if t120 = 1 then (some 0) else (some 1)))) = some r := by rw [if_neg (show ¬ (false = true) by decide)] at H; exact H
       clear H
       have H := H1
       clear H1
       replace H := Option.bind_eq_some_iff.mp H
       obtain ⟨t119, A130, H⟩ := H
       replace H : ((ratio_divisor.f kj7 t119 (IntKind.u64.wrap (a0_1))).bind fun t120 => (if t120 = 1 then (some 0) else (some 1))) = some r := H
       have A13 := Aside0.mk A130
       clear A130
       replace H := Option.bind_eq_some_iff.mp H
       obtain ⟨t120, A140, H⟩ := H
       replace H : (if t120 = 1 then (some 0) else (some 1)) = some r := H
       have A14 := Aside0.mk A140
       clear A140
       by_cases c15 : t120 = 1
       ·rw [if_pos c15] at H
        have c15b0 : (t120 == 1) = true := beq_iff_eq.mpr c15
        have c15b1 : (t120 != 1) = false := bne_eq_false_iff_eq.mpr c15
        clear c15
        obtain rfl := Option.some.inj H
        have hcz16_0 : wc.cell? ⟨gb118, 0, none⟩ = some (.int .i64 a0_0) := (blk_cell BK118.out 0).trans rfl
        have hcz16_1 : wc.cell? ⟨gb118, 1, none⟩ = some (.int .i64 a0_1) := (blk_cell BK118.out 1).trans rfl
        have hfz16_0 := blk_frozen BK118.out 0
        have hfz16_1 := blk_frozen BK118.out 1
        go_wp2_with (first | (go_at_call 76; (with_reducible refine (ratio_magnitude.calls a0_0 t119 _ A13.out).mono ?_); rintro e w' ⟨rfl, ⟨nd, rfl⟩⟩; (try first | exact ⟨rfl, _, World.drewN_drewN _ _ _⟩ | exact ⟨rfl, _, Eq.trans (World.drewN_drewN _ _ _) (congrArg (World.drewN _) (Nat.add_assoc _ _ _))⟩)) | (go_at_call 75; (with_reducible refine (ratio_divisor.calls kj7 t119 (IntKind.u64.wrap (a0_1)) t120 _ A14.out).mono ?_); rintro e w' ⟨rfl, ⟨nd, rfl⟩⟩; (try first | exact ⟨rfl, _, World.drewN_drewN _ _ _⟩ | exact ⟨rfl, _, Eq.trans (World.drewN_drewN _ _ _) (congrArg (World.drewN _) (Nat.add_assoc _ _ _))⟩)))
        repeat (go_quiet (first | (go_at_call 76; (with_reducible refine (ratio_magnitude.calls a0_0 t119 _ A13.out).mono ?_); rintro e w' ⟨rfl, ⟨nd, rfl⟩⟩; (try first | exact ⟨rfl, _, World.drewN_drewN _ _ _⟩ | exact ⟨rfl, _, Eq.trans (World.drewN_drewN _ _ _) (congrArg (World.drewN _) (Nat.add_assoc _ _ _))⟩)) | (go_at_call 75; (with_reducible refine (ratio_divisor.calls kj7 t119 (IntKind.u64.wrap (a0_1)) t120 _ A14.out).mono ?_); rintro e w' ⟨rfl, ⟨nd, rfl⟩⟩; (try first | exact ⟨rfl, _, World.drewN_drewN _ _ _⟩ | exact ⟨rfl, _, Eq.trans (World.drewN_drewN _ _ _) (congrArg (World.drewN _) (Nat.add_assoc _ _ _))⟩))); try go_wp2_with (first | (go_at_call 76; (with_reducible refine (ratio_magnitude.calls a0_0 t119 _ A13.out).mono ?_); rintro e w' ⟨rfl, ⟨nd, rfl⟩⟩; (try first | exact ⟨rfl, _, World.drewN_drewN _ _ _⟩ | exact ⟨rfl, _, Eq.trans (World.drewN_drewN _ _ _) (congrArg (World.drewN _) (Nat.add_assoc _ _ _))⟩)) | (go_at_call 75; (with_reducible refine (ratio_divisor.calls kj7 t119 (IntKind.u64.wrap (a0_1)) t120 _ A14.out).mono ?_); rintro e w' ⟨rfl, ⟨nd, rfl⟩⟩; (try first | exact ⟨rfl, _, World.drewN_drewN _ _ _⟩ | exact ⟨rfl, _, Eq.trans (World.drewN_drewN _ _ _) (congrArg (World.drewN _) (Nat.add_assoc _ _ _))⟩))))
        go_ret
        exact ⟨by first | rfl | (simp [errW_none, errW_some] <;> rfl) | (simp [*, errW_none, errW_some] <;> rfl), by repeat (first | (with_reducible first | exact HB.out | apply below_alloc | apply pw_below_drewN | apply below_drew1 | refine below_set ?_ GE118.out) | exact HB.out)⟩
       ·rw [if_neg c15] at H
        have c15b0 : (t120 == 1) = false := beq_eq_false_iff_ne.mpr c15
        have c15b1 : (t120 != 1) = true := bne_iff_ne.mpr c15
        obtain rfl := Option.some.inj H
        have hcz17_0 : wc.cell? ⟨gb118, 0, none⟩ = some (.int .i64 a0_0) := (blk_cell BK118.out 0).trans rfl
        have hcz17_1 : wc.cell? ⟨gb118, 1, none⟩ = some (.int .i64 a0_1) := (blk_cell BK118.out 1).trans rfl
        have hfz17_0 := blk_frozen BK118.out 0
        have hfz17_1 := blk_frozen BK118.out 1
        go_wp2_with (first | (go_at_call 76; (with_reducible refine (ratio_magnitude.calls a0_0 t119 _ A13.out).mono ?_); rintro e w' ⟨rfl, ⟨nd, rfl⟩⟩; (try first | exact ⟨rfl, _, World.drewN_drewN _ _ _⟩ | exact ⟨rfl, _, Eq.trans (World.drewN_drewN _ _ _) (congrArg (World.drewN _) (Nat.add_assoc _ _ _))⟩)) | (go_at_call 75; (with_reducible refine (ratio_divisor.calls kj7 t119 (IntKind.u64.wrap (a0_1)) t120 _ A14.out).mono ?_); rintro e w' ⟨rfl, ⟨nd, rfl⟩⟩; (try first | exact ⟨rfl, _, World.drewN_drewN _ _ _⟩ | exact ⟨rfl, _, Eq.trans (World.drewN_drewN _ _ _) (congrArg (World.drewN _) (Nat.add_assoc _ _ _))⟩)))
        repeat (go_quiet (first | (go_at_call 76; (with_reducible refine (ratio_magnitude.calls a0_0 t119 _ A13.out).mono ?_); rintro e w' ⟨rfl, ⟨nd, rfl⟩⟩; (try first | exact ⟨rfl, _, World.drewN_drewN _ _ _⟩ | exact ⟨rfl, _, Eq.trans (World.drewN_drewN _ _ _) (congrArg (World.drewN _) (Nat.add_assoc _ _ _))⟩)) | (go_at_call 75; (with_reducible refine (ratio_divisor.calls kj7 t119 (IntKind.u64.wrap (a0_1)) t120 _ A14.out).mono ?_); rintro e w' ⟨rfl, ⟨nd, rfl⟩⟩; (try first | exact ⟨rfl, _, World.drewN_drewN _ _ _⟩ | exact ⟨rfl, _, Eq.trans (World.drewN_drewN _ _ _) (congrArg (World.drewN _) (Nat.add_assoc _ _ _))⟩))); try go_wp2_with (first | (go_at_call 76; (with_reducible refine (ratio_magnitude.calls a0_0 t119 _ A13.out).mono ?_); rintro e w' ⟨rfl, ⟨nd, rfl⟩⟩; (try first | exact ⟨rfl, _, World.drewN_drewN _ _ _⟩ | exact ⟨rfl, _, Eq.trans (World.drewN_drewN _ _ _) (congrArg (World.drewN _) (Nat.add_assoc _ _ _))⟩)) | (go_at_call 75; (with_reducible refine (ratio_divisor.calls kj7 t119 (IntKind.u64.wrap (a0_1)) t120 _ A14.out).mono ?_); rintro e w' ⟨rfl, ⟨nd, rfl⟩⟩; (try first | exact ⟨rfl, _, World.drewN_drewN _ _ _⟩ | exact ⟨rfl, _, Eq.trans (World.drewN_drewN _ _ _) (congrArg (World.drewN _) (Nat.add_assoc _ _ _))⟩))))
        go_ret
        exact ⟨by first | rfl | (simp [errW_none, errW_some] <;> rfl) | (simp [*, errW_none, errW_some] <;> rfl), by repeat (first | (with_reducible first | exact HB.out | apply below_alloc | apply pw_below_drewN | apply below_drew1 | refine below_set ?_ GE118.out) | exact HB.out)⟩

end Go.Proofs.Ytcgimjoebkeifaa.PQ

/- qdigest.Quantile: the two ends of a node's range, and the comparison that reach makes of one. -/
namespace Go.Proofs.Ytcgimjoebkeifaa.Quan
set_option linter.unusedSimpArgs false
set_option linter.unusedVariables false
open Go.RowKit Go.Proofs.YtcgimjoebkeifaaW.PrintWords Go.Proofs.Ytcgimjoebkeifaa.PQ Go.Proofs.Ytcgimjoebkeifaa.QComp Go.Proofs.Ytcgimjoebkeifaa.QHeap Go.Proofs.Ytcgimjoebkeifaa.QAdd Go.Sort
set_option maxHeartbeats 4000000
/-- What a call leaves that draws and lays blocks at most. -/
def Grew (w w' : World) : Prop := ∃ q os, w' = grow (w.drewN q) os
theorem Grew.refl (w : World) : Grew w w := ⟨0, #[], by simp; rfl⟩
theorem drewN_grow (w : World) (os : Array Obj) (q : Nat) : (grow w os).drewN q = grow (w.drewN q) os := rfl
theorem drewN_drewN (w : World) (a b : Nat) : (w.drewN a).drewN b = w.drewN (a + b) := by simp [World.drewN, Nat.add_assoc]
theorem Grew.trans {a b c : World} (h : Grew a b) (k : Grew b c) : Grew a c := by
  obtain ⟨q, os, rfl⟩ := h
  obtain ⟨q', os', rfl⟩ := k
  exact ⟨q + q', os ++ os', by rw [drewN_grow, grow_grow, drewN_drewN]⟩
theorem Grew.alloc (w : World) (o : Obj) : Grew w (w.alloc o) := ⟨0, #[o], by rw [alloc_eq_grow]; rfl⟩
theorem Grew.drew (w : World) : Grew w w.drew := ⟨1, #[], by simp; rfl⟩
theorem Grew.of_drawn {w w' : World} (h : Drawn0 w w') : Grew w w' := by obtain ⟨n, rfl⟩ := h.out; exact ⟨n, #[], by simp⟩
theorem Grew.size {w w' : World} (h : Grew w w') : w.heap.size ≤ w'.heap.size := by obtain ⟨q, os, rfl⟩ := h; simp [grow]
theorem Grew.block {w w' : World} (h : Grew w w') {k : Nat} (hk : k < w.heap.size) : w'.heap[k]? = w.heap[k]? := by
  obtain ⟨q, os, rfl⟩ := h
  simp only [grow]
  rw [Array.getElem?_append_left (by simpa using hk)]
  rfl
theorem Grew.below {w w' : World} (h : Grew w w') : Below w.heap.size w w' := by
  obtain ⟨q, os, rfl⟩ := h
  exact Ord.below_grow (pw_below_drewN (Below.refl _ _) q) (by simp) os
theorem cell_lt {W : World} {a : Addr} {v : Value} (h : W.cell? a = some v) : a.block < W.heap.size := by
  rcases Nat.lt_or_ge a.block W.heap.size with h' | h'
  · exact h'
  · simp [World.cell?, Array.getElem?_eq_none h'] at h
theorem keepc {V w2 : World} (hg : Grew V w2) {a : Addr} {v : Value} (h : V.cell? a = some v) : w2.cell? a = some v := (hg.below.cell (p := a) (cell_lt h)).trans h
set_option maxRecDepth 100000 in
theorem end49 (B : Nat) (bits x y : Int) (W : World) (x0 : W.cell? ⟨B, 0, none⟩ = some (.int .i64 bits)) (hk : SpanOk bits x) :
    Calls Try.prog 49 #[.agg #[.int .i64 x, .int .i64 y], .pointer (some ⟨B, 0, none⟩)] W fun e w' => e = .returned (.int .i64 (spanLo bits x)) ∧ Grew W w' := by
  have hs := fun W => qdigest_span.calls bits x (spanLo bits x) (spanHi bits x) W (by unfold qdigest_span.f; rw [if_pos hk])
  have hlt : B < W.heap.size := cell_lt x0
  clear hk
  generalize spanLo bits x = lo at *
  generalize spanHi bits x = hi at *
  go_enter Try.func49, Try.ntmps49
  go_wp2_with (go_at_call 38; refine (hs _).mono ?_; rintro e w' ⟨rfl, hd⟩)
  go_ret
  exact ⟨rfl, (Grew.alloc W _).trans (Grew.of_drawn hd)⟩
set_option maxRecDepth 100000 in
theorem end50 (B : Nat) (bits x y : Int) (W : World) (x0 : W.cell? ⟨B, 0, none⟩ = some (.int .i64 bits)) (hk : SpanOk bits x) :
    Calls Try.prog 50 #[.agg #[.int .i64 x, .int .i64 y], .pointer (some ⟨B, 0, none⟩)] W fun e w' => e = .returned (.int .i64 (spanHi bits x)) ∧ Grew W w' := by
  have hs := fun W => qdigest_span.calls bits x (spanLo bits x) (spanHi bits x) W (by unfold qdigest_span.f; rw [if_pos hk])
  have hlt : B < W.heap.size := cell_lt x0
  clear hk
  generalize spanLo bits x = lo at *
  generalize spanHi bits x = hi at *
  go_enter Try.func50, Try.ntmps50
  go_wp2_with (go_at_call 38; refine (hs _).mono ?_; rintro e w' ⟨rfl, hd⟩)
  go_ret
  exact ⟨rfl, (Grew.alloc W _).trans (Grew.of_drawn hd)⟩
set_option maxRecDepth 100000 in
theorem cmp49 (B C : Nat) (bits x x' y y' : Int) (W : World) (hb : W.cell? ⟨B, 0, none⟩ = some (.int .i64 bits))
    (hc : W.cell? ⟨C, 0, none⟩ = some (.func (.func 49) #[] #[.pointer (some ⟨B, 0, none⟩)])) (hk : SpanOk bits x) (hk' : SpanOk bits y) :
    Calls Try.prog 79 #[.agg #[.int .i64 x, .int .i64 x'], .agg #[.int .i64 y, .int .i64 y'], .pointer (some ⟨C, 0, none⟩)] W fun e w' => e = .returned (.int .i64 (IntKind.i64.wrap (spanLo bits x - spanLo bits y))) ∧ Grew W w' := by
  have hxy := fun u u' Z hb hk => end49 B bits u u' Z hb hk
  have hltB : B < W.heap.size := cell_lt hb
  have hltC : C < W.heap.size := cell_lt hc
  generalize spanLo bits = sl at *
  go_enter Try.func79, Try.ntmps79
  go_wp2_with fail
  have hG0 : Grew W ((W.alloc (.cells #[.int .i64 x, .int .i64 x'] 63)).alloc (.cells #[.int .i64 y, .int .i64 y'] 63)) := (Grew.alloc _ _).trans (Grew.alloc _ _)
  obtain ⟨ha, hb2⟩ := two_new W (.cells #[.int .i64 x, .int .i64 x'] 63) (.cells #[.int .i64 y, .int .i64 y'] 63)
  have qB := (hG0.below.cell (p := ⟨B, 0, none⟩) hltB).trans hb
  have qC := (hG0.below.cell (p := ⟨C, 0, none⟩) hltC).trans hc
  have qa0 := (blk_cell ha 0).trans (show _ = some (Value.int .i64 x) from rfl)
  have qa1 := (blk_cell ha 1).trans (show _ = some (Value.int .i64 x') from rfl)
  have qb0 := (blk_cell hb2 0).trans (show _ = some (Value.int .i64 y) from rfl)
  have qb1 := (blk_cell hb2 1).trans (show _ = some (Value.int .i64 y') from rfl)
  generalize (W.alloc (.cells #[.int .i64 x, .int .i64 x'] 63)).alloc (.cells #[.int .i64 y, .int .i64 y'] 63) = V at *
  have hGd := hG0.trans (Grew.drew V)
  clear ha hb2 hb hc hG0
  go_region_held3 (fun Z => Z.cell? ⟨B, 0, none⟩ = some (.int .i64 bits) ∧ Z.cell? ⟨C, 0, none⟩ = some (.func (.func 49) #[] #[.pointer (some ⟨B, 0, none⟩)]) ∧ Z.cell? ⟨W.heap.size, 0, none⟩ = some (.int .i64 x) ∧ Z.cell? ⟨W.heap.size, 1, none⟩ = some (.int .i64 x') ∧ Z.cell? ⟨W.heap.size + 1, 0, none⟩ = some (.int .i64 y) ∧ Z.cell? ⟨W.heap.size + 1, 1, none⟩ = some (.int .i64 y')) (go_keep) (first | (go_at_call 49; refine (hxy _ _ _ (by first | exact pB | exact qB) (by assumption)).mono ?_; rintro e w2 ⟨rfl, hg⟩; have hG := Grew.trans (by first | exact hG | exact hGd) hg; have pB := keepc hg (a := ⟨B, 0, none⟩) (by first | exact pB | exact qB); have pC := keepc hg (a := ⟨C, 0, none⟩) (by first | exact pC | exact qC); have pa0 := keepc hg (a := ⟨W.heap.size, 0, none⟩) (by first | exact pa0 | exact qa0); have pa1 := keepc hg (a := ⟨W.heap.size, 1, none⟩) (by first | exact pa1 | exact qa1); have pb0 := keepc hg (a := ⟨W.heap.size + 1, 0, none⟩) (by first | exact pb0 | exact qb0); have pb1 := keepc hg (a := ⟨W.heap.size + 1, 1, none⟩) (by first | exact pb1 | exact qb1)))
  go_wp2_with fail
  go_ret
  exact ⟨rfl, hG⟩
set_option maxRecDepth 100000 in
theorem cmp50 (B C : Nat) (bits x x' y y' : Int) (W : World) (hb : W.cell? ⟨B, 0, none⟩ = some (.int .i64 bits))
    (hc : W.cell? ⟨C, 0, none⟩ = some (.func (.func 50) #[] #[.pointer (some ⟨B, 0, none⟩)])) (hk : SpanOk bits x) (hk' : SpanOk bits y) :
    Calls Try.prog 79 #[.agg #[.int .i64 x, .int .i64 x'], .agg #[.int .i64 y, .int .i64 y'], .pointer (some ⟨C, 0, none⟩)] W fun e w' => e = .returned (.int .i64 (IntKind.i64.wrap (spanHi bits x - spanHi bits y))) ∧ Grew W w' := by
  have hxy := fun u u' Z hb hk => end50 B bits u u' Z hb hk
  have hltB : B < W.heap.size := cell_lt hb
  have hltC : C < W.heap.size := cell_lt hc
  generalize spanHi bits = sl at *
  go_enter Try.func79, Try.ntmps79
  go_wp2_with fail
  have hG0 : Grew W ((W.alloc (.cells #[.int .i64 x, .int .i64 x'] 63)).alloc (.cells #[.int .i64 y, .int .i64 y'] 63)) := (Grew.alloc _ _).trans (Grew.alloc _ _)
  obtain ⟨ha, hb2⟩ := two_new W (.cells #[.int .i64 x, .int .i64 x'] 63) (.cells #[.int .i64 y, .int .i64 y'] 63)
  have qB := (hG0.below.cell (p := ⟨B, 0, none⟩) hltB).trans hb
  have qC := (hG0.below.cell (p := ⟨C, 0, none⟩) hltC).trans hc
  have qa0 := (blk_cell ha 0).trans (show _ = some (Value.int .i64 x) from rfl)
  have qa1 := (blk_cell ha 1).trans (show _ = some (Value.int .i64 x') from rfl)
  have qb0 := (blk_cell hb2 0).trans (show _ = some (Value.int .i64 y) from rfl)
  have qb1 := (blk_cell hb2 1).trans (show _ = some (Value.int .i64 y') from rfl)
  generalize (W.alloc (.cells #[.int .i64 x, .int .i64 x'] 63)).alloc (.cells #[.int .i64 y, .int .i64 y'] 63) = V at *
  have hGd := hG0.trans (Grew.drew V)
  clear ha hb2 hb hc hG0
  go_region_held3 (fun Z => Z.cell? ⟨B, 0, none⟩ = some (.int .i64 bits) ∧ Z.cell? ⟨C, 0, none⟩ = some (.func (.func 50) #[] #[.pointer (some ⟨B, 0, none⟩)]) ∧ Z.cell? ⟨W.heap.size, 0, none⟩ = some (.int .i64 x) ∧ Z.cell? ⟨W.heap.size, 1, none⟩ = some (.int .i64 x') ∧ Z.cell? ⟨W.heap.size + 1, 0, none⟩ = some (.int .i64 y) ∧ Z.cell? ⟨W.heap.size + 1, 1, none⟩ = some (.int .i64 y')) (go_keep) (first | (go_at_call 50; refine (hxy _ _ _ (by first | exact pB | exact qB) (by assumption)).mono ?_; rintro e w2 ⟨rfl, hg⟩; have hG := Grew.trans (by first | exact hG | exact hGd) hg; have pB := keepc hg (a := ⟨B, 0, none⟩) (by first | exact pB | exact qB); have pC := keepc hg (a := ⟨C, 0, none⟩) (by first | exact pC | exact qC); have pa0 := keepc hg (a := ⟨W.heap.size, 0, none⟩) (by first | exact pa0 | exact qa0); have pa1 := keepc hg (a := ⟨W.heap.size, 1, none⟩) (by first | exact pa1 | exact qa1); have pb0 := keepc hg (a := ⟨W.heap.size + 1, 0, none⟩) (by first | exact pb0 | exact qb0); have pb1 := keepc hg (a := ⟨W.heap.size + 1, 1, none⟩) (by first | exact pb1 | exact qb1)))
  go_wp2_with fail
  go_ret
  exact ⟨rfl, hG⟩
end Go.Proofs.Ytcgimjoebkeifaa.Quan

/- qdigest.reach, as a plain function: the walk through the nodes in the order of their ends does not depend on how nodes with one end are ordered. -/
namespace Go.Proofs.Ytcgimjoebkeifaa.Quan
set_option linter.unusedSimpArgs false
set_option linter.unusedVariables false
open Go.Proofs.Ytcgimjoebkeifaa.PQ
/-- The walk of reach. -/
def walkR (ed : Int → Int) (rank : Int) : List S63 → Int → Int → Int
  | [], _, last => last
  | x :: xs, sum, _ => if rank ≤ sum + x.f1 then ed x.f0 else walkR ed rank xs (sum + x.f1) (ed x.f0)
def byEnd (ed : Int → Int) (xs : List S63) : List S63 := xs.mergeSort (fun a b => decide (ed a.f0 ≤ ed b.f0))
def reachF (ed : Int → Int) (xs : List S63) (rank : Int) : Int := walkR ed rank (byEnd ed xs) 0 0
def upTo (ed : Int → Int) (e : Int) : List S63 → Int
  | [] => 0
  | x :: xs => (if ed x.f0 ≤ e then x.f1 else 0) + upTo ed e xs
def tot : List S63 → Int
  | [] => 0
  | x :: xs => x.f1 + tot xs
theorem upTo_perm (ed : Int → Int) (e : Int) {xs ys : List S63} (h : xs.Perm ys) : upTo ed e xs = upTo ed e ys := by
  induction h with
  | nil => rfl
  | cons x _ ih => simp only [upTo, ih]
  | swap x y l => simp only [upTo]; omega
  | trans _ _ h1 h2 => exact h1.trans h2
theorem tot_perm {xs ys : List S63} (h : xs.Perm ys) : tot xs = tot ys := by
  induction h with
  | nil => rfl
  | cons x _ ih => simp only [tot, ih]
  | swap x y l => simp only [tot]; omega
  | trans _ _ h1 h2 => exact h1.trans h2
theorem upTo_nonneg (ed : Int → Int) (e : Int) : ∀ (xs : List S63), (∀ x ∈ xs, 0 ≤ x.f1) → 0 ≤ upTo ed e xs
  | [], _ => Int.le_refl _
  | x :: xs, h => by
    have h1 := upTo_nonneg ed e xs (fun y hy => h y (List.mem_cons_of_mem _ hy))
    have h2 := h x (List.mem_cons_self ..)
    simp only [upTo]
    split <;> omega
theorem upTo_zero (ed : Int → Int) (e : Int) : ∀ (xs : List S63), (∀ x ∈ xs, e < ed x.f0) → upTo ed e xs = 0
  | [], _ => rfl
  | x :: xs, h => by
    have h1 := upTo_zero ed e xs (fun y hy => h y (List.mem_cons_of_mem _ hy))
    have h2 := h x (List.mem_cons_self ..)
    simp only [upTo, h1]
    rw [if_neg (by omega)]
    rfl
theorem walkR_is (ed : Int → Int) (rank : Int) : ∀ (ys : List S63) (sum last : Int), ys.Pairwise (fun a b => ed a.f0 ≤ ed b.f0) → (∀ x ∈ ys, 0 ≤ x.f1) → sum < rank → rank ≤ sum + tot ys →
    rank ≤ sum + upTo ed (walkR ed rank ys sum last) ys ∧ ∀ e, e < walkR ed rank ys sum last → sum + upTo ed e ys < rank
  | [], sum, last, _, _, h1, h2 => by simp only [tot] at h2; omega
  | x :: xs, sum, last, hs, hp, h1, h2 => by
    obtain ⟨hx, hs'⟩ := List.pairwise_cons.1 hs
    have hp' : ∀ y ∈ xs, 0 ≤ y.f1 := fun y hy => hp y (List.mem_cons_of_mem _ hy)
    have hpx := hp x (List.mem_cons_self ..)
    simp only [walkR]
    by_cases hb : rank ≤ sum + x.f1
    · rw [if_pos hb]
      refine ⟨?_, fun e he => ?_⟩
      · have := upTo_nonneg ed (ed x.f0) xs hp'
        simp only [upTo, Int.le_refl, if_true]
        omega
      · have := upTo_zero ed e xs (fun y hy => by have := hx y hy; omega)
        simp only [upTo, this]
        rw [if_neg (by omega)]
        omega
    · rw [if_neg hb]
      simp only [tot] at h2
      obtain ⟨i1, i2⟩ := walkR_is ed rank xs (sum + x.f1) (ed x.f0) hs' hp' (by omega) (by omega)
      generalize walkR ed rank xs (sum + x.f1) (ed x.f0) = r at *
      have hle : ed x.f0 ≤ r := by
        rcases (show r < ed x.f0 ∨ ed x.f0 ≤ r by omega) with h | h
        · have := upTo_zero ed r xs (fun y hy => by have := hx y hy; omega)
          omega
        · exact h
      refine ⟨?_, fun e he => ?_⟩
      · simp only [upTo]
        rw [if_pos hle]
        omega
      · have := i2 e he
        simp only [upTo]
        split <;> omega
theorem byEnd_perm (ed : Int → Int) (xs : List S63) : (byEnd ed xs).Perm xs := List.mergeSort_perm _ _
theorem byEnd_sorted (ed : Int → Int) (xs : List S63) : (byEnd ed xs).Pairwise (fun a b => ed a.f0 ≤ ed b.f0) := by
  unfold byEnd
  refine (List.pairwise_mergeSort ?_ ?_ _).imp (fun h => by simpa using h)
  · intro a b c h1 h2; simp at *; omega
  · intro a b; simp; omega
/-- However ties were ordered. -/
theorem walkR_reachF (ed : Int → Int) (rank : Int) {ys xs : List S63} (hp : ys.Perm xs) (hs : ys.Pairwise (fun a b => ed a.f0 ≤ ed b.f0)) (h0 : ∀ x ∈ xs, 0 ≤ x.f1) (hr : 0 < rank) (ht : rank ≤ tot xs) : walkR ed rank ys 0 0 = reachF ed xs rank := by
  have a := walkR_is ed rank ys 0 0 hs (fun x hx => h0 x (hp.mem_iff.1 hx)) hr (by rw [tot_perm hp]; omega)
  have b := walkR_is ed rank (byEnd ed xs) 0 0 (byEnd_sorted ed xs) (fun x hx => h0 x ((byEnd_perm ed xs).mem_iff.1 hx)) hr (by rw [tot_perm (byEnd_perm ed xs)]; omega)
  rw [show reachF ed xs rank = walkR ed rank (byEnd ed xs) 0 0 from rfl]
  generalize walkR ed rank ys 0 0 = r1 at *
  generalize walkR ed rank (byEnd ed xs) 0 0 = r2 at *
  have e1 := fun e => upTo_perm ed e hp
  have e2 := fun e => upTo_perm ed e (byEnd_perm ed xs)
  simp only [e1] at a
  simp only [e2] at b
  rcases Int.lt_trichotomy r1 r2 with h | h | h
  · have := b.2 r1 h; omega
  · exact h
  · have := a.2 r2 h; omega
end Go.Proofs.Ytcgimjoebkeifaa.Quan

/- qdigest.reach: the walk. -/
namespace Go.Proofs.Ytcgimjoebkeifaa.Quan
set_option linter.unusedSimpArgs false
set_option linter.unusedVariables false
open Go.RowKit Go.Proofs.YtcgimjoebkeifaaW.PrintWords Go.Proofs.Ytcgimjoebkeifaa.PQ Go.Proofs.Ytcgimjoebkeifaa.QComp Go.Proofs.Ytcgimjoebkeifaa.QHeap Go.Proofs.Ytcgimjoebkeifaa.QAdd Go.Sort
set_option maxHeartbeats 4000000
/-- A node that Quantile's walk is shown for. -/
def NodeOk (bits : Int) (x : S63) : Prop := SpanOk bits x.f0 ∧ 0 ≤ x.f1 ∧ x.f1 ≤ 1099511627776
instance (bits : Int) (x : S63) : Decidable (NodeOk bits x) := by unfold NodeOk; exact inferInstance
def N (bits : Int) : Type := { x : S63 // NodeOk bits x }
def encN (bits : Int) (x : N bits) : List Value := [.int .i64 x.1.f0, .int .i64 x.1.f1]
def cfN (bits : Int) (ed : Int → Int) (x y : N bits) : Int := ed x.1.f0 - ed y.1.f0
theorem ltN (bits : Int) (ed : Int → Int) (x y : N bits) : ltOf (cfN bits ed) x y = decide (ed x.1.f0 < ed y.1.f0) := by
  unfold ltOf cfN
  by_cases h : ed x.1.f0 < ed y.1.f0
  · rw [decide_eq_true h, decide_eq_true (by omega)]
  · rw [decide_eq_false h, decide_eq_false (by omega)]
theorem swoN (bits : Int) (ed : Int → Int) : SWO (ltOf (cfN bits ed)) where
  irrefl x := by rw [ltN]; simp
  trans x y z h1 h2 := by rw [ltN] at *; simp at *; omega
  ntrans x y z h1 h2 := by rw [ltN] at *; simp at *; omega
def toN (bits : Int) (xs : List S63) (h : ∀ x ∈ xs, NodeOk bits x) : List (N bits) := xs.attachWith (NodeOk bits) h
theorem toN_val (bits : Int) (xs : List S63) (h : ∀ x ∈ xs, NodeOk bits x) : (toN bits xs h).map (fun x => x.1) = xs := by
  unfold toN
  exact List.attachWith_map_subtype_val _
theorem toN_len (bits : Int) (xs : List S63) (h : ∀ x ∈ xs, NodeOk bits x) : (toN bits xs h).length = xs.length := by
  have := congrArg List.length (toN_val bits xs h)
  rwa [List.length_map] at this
theorem flat_N (bits : Int) (l : List (N bits)) : l.flatMap (encN bits) = (l.map (fun x => x.1)).flatMap enc63 := by
  rw [List.flatMap_map]
  rfl
theorem span_bound {bits id : Int} (h : SpanOk bits id) : (-2199023255552 ≤ spanLo bits id ∧ spanLo bits id ≤ 1152921504606846976) ∧ (-2199023255553 ≤ spanHi bits id ∧ spanHi bits id ≤ 1152921504606846976) := by
  obtain ⟨⟨h1, h2⟩, ⟨h3, h4⟩, h5, h6⟩ := h
  have hp := pow_le_41 bits.toNat (by omega)
  have hP := Int.pow_pos (n := (2 : Int)) (m := (bits + 1 - (Lib.bitLen id.toNat : Int)).toNat) (by decide)
  have hx0 : 0 ≤ id * 2 ^ (bits + 1 - (Lib.bitLen id.toNat : Int)).toNat := Int.mul_nonneg h3 (Int.le_of_lt hP)
  have hxy : (id + 1) * 2 ^ (bits + 1 - (Lib.bitLen id.toNat : Int)).toNat = id * 2 ^ (bits + 1 - (Lib.bitLen id.toNat : Int)).toNat + 2 ^ (bits + 1 - (Lib.bitLen id.toNat : Int)).toNat := by rw [Int.add_mul, Int.one_mul]
  unfold spanLo spanHi
  rw [hxy] at h6 ⊢
  generalize id * 2 ^ (bits + 1 - (Lib.bitLen id.toNat : Int)).toNat = a at *
  generalize (2 : Int) ^ (bits + 1 - (Lib.bitLen id.toNat : Int)).toNat = b at *
  generalize (2 : Int) ^ bits.toNat = c at *
  omega
theorem own_grew {w w2 : World} {base : Nat} {e : TypeId} {k : Nat} {v : Value} {n : Nat} {xs : List Value} (h : w.ownsRow base e k v n xs) (hg : Grew w w2) : w2.ownsRow base e k v n xs := by
  obtain ⟨q, os, rfl⟩ := hg
  exact Ord.own_grow (w := w.drewN q) h os
set_option maxRecDepth 100000 in
theorem reach49 (W : World) (B : Nat) (bits : Int) (A : Option Addr) (c : Nat) (xs : List S63) (rank : Int) (hb : W.cell? ⟨B, 0, none⟩ = some (.int .i64 bits)) (hr : Kd.C k63 W A xs.length xs) (hc : xs.length ≤ c)
    (hok : ∀ x ∈ xs, NodeOk bits x) (hlen : xs.length ≤ 1000000) (hr0 : 0 < rank) (hr1 : rank ≤ tot xs) :
    Calls Try.prog 51 #[.slice A xs.length c, .int .i64 rank, .func (.func 49) #[] #[.pointer (some ⟨B, 0, none⟩)]] W fun e w' => e = .returned (.int .i64 (reachF (spanLo bits) xs rank)) ∧ Below W.heap.size W w' := by
  have hpos : 0 < xs.length := by
    cases xs with
    | nil => simp [tot] at hr1; omega
    | cons x xs => simp
  obtain ⟨ad, rfl, hx0, hx1⟩ := at_T63 hr 0 (Int.le_refl _) (by omega)
  obtain ⟨ab, ao, rfl⟩ : ∃ ab ao, ad = ⟨ab, ao, none⟩ := by
    obtain ⟨ab, ao, sp⟩ := ad
    cases sp with
    | none => exact ⟨ab, ao, rfl⟩
    | some s =>
      exfalso
      simp only [Addr.add, World.cell?] at hx0
      split at hx0 <;> simp at hx0
  have hcells : ∀ j u, (xs.flatMap enc63)[j]? = some u → W.cell? ⟨ab, ao + j, none⟩ = some u := fun j u hj => by
    have hsr := src_of hr c
    have hj2 : j < xs.length * 2 := by rw [← flat_len]; exact (List.getElem?_eq_some_iff.1 hj).1
    obtain ⟨ad', e', hcc⟩ := hr.2.2 hpos
    obtain rfl := Option.some.inj e'
    have hi : j / 2 < xs.length := by omega
    obtain ⟨cs, _, hk, hcell⟩ := hcc (j / 2) _ (List.getElem?_eq_getElem hi)
    obtain rfl := k63_open hk
    have e := hcell (j % 2) u (by
      rw [Ord.flatMap_get enc63 2 (fun _ => rfl) (by decide) xs j hj2] at hj
      rw [← hj]
      have hm : j % 2 < 2 := Nat.mod_lt _ (by decide)
      simp [enc63, hi, hm])
    have e2 : W.cell? ((⟨ab, ao, none⟩ : Addr).add (j / 2 * 2 + j % 2)) = some u := e
    rwa [show j / 2 * 2 + j % 2 = j from by omega, Addr.add_lit] at e2
  have hltB : B < W.heap.size := cell_lt hb
  obtain ⟨W1, hW1⟩ : ∃ W1, W1 = W.alloc (.cells #[.func (.func 49) #[] #[.pointer (some ⟨B, 0, none⟩)]] 87) := ⟨_, rfl⟩
  have hg1 : Grew W W1 := by rw [hW1]; exact Grew.alloc _ _
  have hs1 : W1.heap.size = W.heap.size + 1 := by rw [hW1]; simp
  have hbox : W1.cell? ⟨W.heap.size, 0, none⟩ = some (.func (.func 49) #[] #[.pointer (some ⟨B, 0, none⟩)]) := by
    rw [hW1]; exact (blk_cell (blk_new W _) 0).trans rfl
  have hb1 := keepc hg1 hb
  have eg : ∀ args w, (callFunc 79 args).run Try.prog w = .ok (.enter 79 args) w := enters_of Try.func79 (by kernel_rfl) rfl
  haveI : Inhabited (N bits) := ⟨⟨xs[0]'hpos, hok _ (List.getElem_mem hpos)⟩⟩
  have hord := Ord.ordered_calls (encN bits) (fun _ => rfl) (fun x v hv => by simp [encN] at hv; rcases hv with rfl | rfl <;> rfl) (cfN bits (spanLo bits)) (swoN bits (spanLo bits)) 79 #[.pointer (some ⟨W.heap.size, 0, none⟩)] eg ab ao xs.length c (toN bits xs hok) (toN_len bits xs hok) hlen W1
    (by rw [flat_N, toN_val]; exact fun j u hj => keepc hg1 (hcells j u hj))
    (fun V hV x y => by
      have hvb := (hV.cell (p := ⟨B, 0, none⟩) (by simp; omega)).trans hb1
      have hvc := (hV.cell (p := ⟨W.heap.size, 0, none⟩) (by simp; omega)).trans hbox
      refine (cmp49 B W.heap.size bits x.1.f0 x.1.f1 y.1.f0 y.1.f1 V hvb hvc x.2.1 y.2.1).mono ?_
      rintro e w' ⟨rfl, hg⟩
      refine ⟨?_, hg⟩
      have b1 := span_bound x.2.1
      have b2 := span_bound y.2.1
      unfold cfN
      rw [IntKind.wrap_i64]
      congr 2
      omega)
  have hord2 : Calls Try.prog 36 #[.slice (some ⟨ab, ao, none⟩) xs.length c, .func (.func 79) #[] #[.pointer (some ⟨W.heap.size, 0, none⟩)]] W1 fun e w' => ∃ (g cap : Nat) (ys : List S63), e = .returned (.slice (some ⟨g, 0, none⟩) xs.length cap) ∧ ys.Perm xs ∧ ys.Pairwise (fun a b => spanLo bits a.f0 ≤ spanLo bits b.f0) ∧ w'.ownsRow W1.heap.size 63 2 (.slice (some ⟨g, 0, none⟩) xs.length cap) xs.length (ys.flatMap enc63) ∧ Below W1.heap.size W1 w' := by
    refine hord.mono ?_
    rintro e w' ⟨v', ys, rfl, hp, hs, hown, hB⟩
    have hyl : ys.length = xs.length := by rw [hp.length_eq, toN_len]
    obtain ⟨g, cap, rfl⟩ : ∃ g cap, v' = .slice (some ⟨g, 0, none⟩) xs.length cap := by
      rcases hown.2 with ⟨_, h0⟩ | ⟨g, cap, cur, h1, _⟩
      · omega
      · exact ⟨g, cap, h1⟩
    refine ⟨g, cap, ys.map (fun x => x.1), rfl, ?_, ?_, by rw [← flat_N]; exact hown, hB⟩
    · have := hp.map (fun x => x.1)
      rwa [toN_val] at this
    · rw [List.pairwise_map, List.pairwise_iff_getElem]
      intro i j hi hj hij
      have h1 := hs i j (Nat.zero_le _) hij (by rw [← hyl]; exact hj)
      rw [ltN] at h1
      have e1 : ys.toArray[i]! = ys[i] := by simp [getElem!_pos, hi]
      have e2 : ys.toArray[j]! = ys[j] := by simp [getElem!_pos, hj]
      rw [e1, e2] at h1
      simpa using h1
  clear hord
  have HR := Lib.hid (fun (ys : List S63) (hp : ys.Perm xs) (hs : ys.Pairwise (fun a b => spanLo bits a.f0 ≤ spanLo bits b.f0)) => walkR_reachF (spanLo bits) rank hp hs (fun x hx => (hok x hx).2.1) hr0 hr1)
  have HOK := Lib.hid hok
  have hend := fun (V : World) (x y : Int) (hV : V.cell? ⟨B, 0, none⟩ = some (.int .i64 bits)) (hk : SpanOk bits x) => end49 B bits x y V hV hk
  generalize reachF (spanLo bits) xs rank = R at HR ⊢
  generalize hsl : spanLo bits = sl at *
  generalize hn : xs.length = n at *
  have HN := Lib.hid hn
  have BIG : rank ≤ 1152921504606846976000000 := by
    have : ∀ (l : List S63), (∀ x ∈ l, x.f1 ≤ 1099511627776) → tot l ≤ l.length * 1099511627776 := by
      intro l
      induction l with
      | nil => intro _; simp [tot]
      | cons x l ih =>
        intro h
        have h1 := ih (fun y hy => h y (List.mem_cons_of_mem _ hy))
        have h2 := h x (List.mem_cons_self ..)
        simp only [tot, List.length_cons]
        omega
    have h3 := this xs (fun x hx => (hok x hx).2.2)
    omega
  clear hcells hr hok hx0 hx1 hr1 hn hsl BIG
  go_enter Try.func51, Try.ntmps51
  go_wp2_with fail
  rw [← hW1]
  refine hord2.mono ?_
  rintro e w2 ⟨g, cap, ys, rfl, hp, hs, hown, hB⟩
  have q0 := (hB.cell (p := ⟨W.heap.size, 0, none⟩) (by simp; omega)).trans hbox
  have qb := (hB.cell (p := ⟨B, 0, none⟩) (by simp; omega)).trans hb1
  have HB := Lib.hid ((hg1.below).trans (hB.mono (by omega)))
  have HYS := Lib.hid (HR.out ys hp hs)
  have HYL := Lib.hid (hp.length_eq.trans HN.out)
  have HYO := Lib.hid (fun x hx => HOK.out x (hp.mem_iff.1 hx))
  have HCL := Lib.hid (fun j hj => hown.cellAt (j := j) hj)
  have HG := Lib.hid ((hown.lt g rfl).2)
  clear hord2 hB hs hp hown hbox hb hb1 HR HOK
  have hg2 : g < w2.heap.size := HG.out
  go_wp2_with fail
  go_loopg [7, 8, 17] n (fun gk s7 s8 s17 wr => ∃ (j : Nat) (sum last : Int), s7 = .int .i64 sum ∧ s8 = .int .i64 last ∧ s17 = .int .i64 j ∧ Below w2.heap.size w2 wr ∧ (0 ≤ sum ∧ sum ≤ j * 1099511627776) ∧ walkR sl rank (ys.drop j) sum last = R ∧ j ≤ n ∧ gk = n - j)
  case atStart => exact ⟨0, 0, 0, rfl, rfl, rfl, Below.refl _ _, ⟨Int.le_refl _, by omega⟩, by simpa using HYS.out, Nat.zero_le _, rfl⟩
  case round =>
    obtain ⟨j, sum, last, rfl, rfl, rfl, hB, ⟨hs0, hs1'⟩, hw, hj, hgk⟩ := hrel
    have HW := Lib.hid hw
    have HGK := Lib.hid hgk
    have HBR := Lib.hid hB
    have p0 := (hB.cell (p := ⟨W.heap.size, 0, none⟩) (cell_lt q0)).trans q0
    have pb := (hB.cell (p := ⟨B, 0, none⟩) (cell_lt qb)).trans qb
    have hsz := hB.size
    clear hw hgk hB
    by_cases hlt : j < n
    · have hlti : (j : Int) < n := by omega
      have hjy : j < ys.length := by rw [HYL.out]; exact hlt
      have hdrop := List.drop_eq_getElem_cons hjy
      have hmem := List.getElem_mem hjy
      have hok := HYO.out _ hmem
      have hc0 := (HBR.out.cell (p := ⟨g, j * 2, none⟩) (by simpa using hg2)).trans (HCL.out (j * 2) (by omega))
      have hc1 := (HBR.out.cell (p := ⟨g, j * 2 + 1, none⟩) (by simpa using hg2)).trans (HCL.out (j * 2 + 1) (by omega))
      have e0 : (ys.flatMap enc63)[j * 2]? = some (.int .i64 ys[j].f0) := by
        have := Ord.flatMap_get enc63 2 (fun _ => rfl) (by decide) ys (j * 2) (by omega)
        rw [this]; simp [enc63, hjy]
      have e1 : (ys.flatMap enc63)[j * 2 + 1]? = some (.int .i64 ys[j].f1) := by
        have := Ord.flatMap_get enc63 2 (fun _ => rfl) (by decide) ys (j * 2 + 1) (by omega)
        rw [this, show (j * 2 + 1) / 2 = j from by omega, show (j * 2 + 1) % 2 = 1 from by omega]; simp [enc63, hjy]
      rw [e0] at hc0
      rw [e1] at hc1
      have hw2 := HW.out
      rw [hdrop] at hw2
      simp only [walkR] at hw2
      obtain ⟨hsp, hf0, hf1⟩ := hok
      have hend2 := fun V hV => hend V ys[j].f0 ys[j].f1 hV hsp
      have hgne : g < wr.heap.size := by omega
      have hzB : B < wr.heap.size := cell_lt pb
      have hzC : W.heap.size < wr.heap.size := cell_lt p0
      clear hmem hdrop e0 e1 hsp hend
      generalize ys[j].f0 = x at *
      generalize ys[j].f1 = y at *
      generalize sl x = sx at *
      by_cases hbr : rank ≤ sum + y
      · rw [if_pos hbr] at hw2
        have HW2 := Lib.hid hw2
        clear hw2
        go_wp2_with fail
        refine (hend2 _ (keepc (Grew.alloc _ _) pb)).mono ?_
        rintro e w4 ⟨rfl, hg4⟩
        go_wp2_with fail
        go_ret
        refine ⟨by rw [HW2.out]; rfl, ?_⟩
        have hb4 := (HBR.out.alloc hsz (.cells #[.int .i64 x, .int .i64 y] 63)).trans (hg4.below.mono (by simp; omega))
        exact HB.out.trans (hb4.mono HB.out.size)
      · rw [if_neg hbr] at hw2
        have HW2 := Lib.hid hw2
        clear hw2
        go_wp2_with fail
        refine (hend2 _ (keepc (Grew.alloc _ _) pb)).mono ?_
        rintro e w4 ⟨rfl, hg4⟩
        go_wp2_with fail
        go_roundg (n - (j + 1))
        case rel => exact ⟨j + 1, sum + y, sx, rfl, rfl, by go_num, (HBR.out.alloc hsz (.cells #[.int .i64 x, .int .i64 y] 63)).trans (hg4.below.mono (by simp; omega)), ⟨by omega, by omega⟩, HW2.out, by omega, rfl⟩
        case measure => rw [HGK.out]; omega
    · have hjn : j = n := by omega
      have hw2 := HW.out
      rw [List.drop_eq_nil_of_le (by rw [HYL.out]; omega)] at hw2
      simp only [walkR] at hw2
      have HW2 := Lib.hid hw2
      have HJ := Lib.hid hjn
      clear hw2 hjn
      go_wp2_with fail
      go_ret
      exact ⟨by rw [HW2.out]; rfl, HB.out.trans (HBR.out.mono HB.out.size)⟩
set_option maxRecDepth 100000 in
theorem reach50 (W : World) (B : Nat) (bits : Int) (A : Option Addr) (c : Nat) (xs : List S63) (rank : Int) (hb : W.cell? ⟨B, 0, none⟩ = some (.int .i64 bits)) (hr : Kd.C k63 W A xs.length xs) (hc : xs.length ≤ c)
    (hok : ∀ x ∈ xs, NodeOk bits x) (hlen : xs.length ≤ 1000000) (hr0 : 0 < rank) (hr1 : rank ≤ tot xs) :
    Calls Try.prog 51 #[.slice A xs.length c, .int .i64 rank, .func (.func 50) #[] #[.pointer (some ⟨B, 0, none⟩)]] W fun e w' => e = .returned (.int .i64 (reachF (spanHi bits) xs rank)) ∧ Below W.heap.size W w' := by
  have hpos : 0 < xs.length := by
    cases xs with
    | nil => simp [tot] at hr1; omega
    | cons x xs => simp
  obtain ⟨ad, rfl, hx0, hx1⟩ := at_T63 hr 0 (Int.le_refl _) (by omega)
  obtain ⟨ab, ao, rfl⟩ : ∃ ab ao, ad = ⟨ab, ao, none⟩ := by
    obtain ⟨ab, ao, sp⟩ := ad
    cases sp with
    | none => exact ⟨ab, ao, rfl⟩
    | some s =>
      exfalso
      simp only [Addr.add, World.cell?] at hx0
      split at hx0 <;> simp at hx0
  have hcells : ∀ j u, (xs.flatMap enc63)[j]? = some u → W.cell? ⟨ab, ao + j, none⟩ = some u := fun j u hj => by
    have hsr := src_of hr c
    have hj2 : j < xs.length * 2 := by rw [← flat_len]; exact (List.getElem?_eq_some_iff.1 hj).1
    obtain ⟨ad', e', hcc⟩ := hr.2.2 hpos
    obtain rfl := Option.some.inj e'
    have hi : j / 2 < xs.length := by omega
    obtain ⟨cs, _, hk, hcell⟩ := hcc (j / 2) _ (List.getElem?_eq_getElem hi)
    obtain rfl := k63_open hk
    have e := hcell (j % 2) u (by
      rw [Ord.flatMap_get enc63 2 (fun _ => rfl) (by decide) xs j hj2] at hj
      rw [← hj]
      have hm : j % 2 < 2 := Nat.mod_lt _ (by decide)
      simp [enc63, hi, hm])
    have e2 : W.cell? ((⟨ab, ao, none⟩ : Addr).add (j / 2 * 2 + j % 2)) = some u := e
    rwa [show j / 2 * 2 + j % 2 = j from by omega, Addr.add_lit] at e2
  have hltB : B < W.heap.size := cell_lt hb
  obtain ⟨W1, hW1⟩ : ∃ W1, W1 = W.alloc (.cells #[.func (.func 50) #[] #[.pointer (some ⟨B, 0, none⟩)]] 87) := ⟨_, rfl⟩
  have hg1 : Grew W W1 := by rw [hW1]; exact Grew.alloc _ _
  have hs1 : W1.heap.size = W.heap.size + 1 := by rw [hW1]; simp
  have hbox : W1.cell? ⟨W.heap.size, 0, none⟩ = some (.func (.func 50) #[] #[.pointer (some ⟨B, 0, none⟩)]) := by
    rw [hW1]; exact (blk_cell (blk_new W _) 0).trans rfl
  have hb1 := keepc hg1 hb
  have eg : ∀ args w, (callFunc 79 args).run Try.prog w = .ok (.enter 79 args) w := enters_of Try.func79 (by kernel_rfl) rfl
  haveI : Inhabited (N bits) := ⟨⟨xs[0]'hpos, hok _ (List.getElem_mem hpos)⟩⟩
  have hord := Ord.ordered_calls (encN bits) (fun _ => rfl) (fun x v hv => by simp [encN] at hv; rcases hv with rfl | rfl <;> rfl) (cfN bits (spanHi bits)) (swoN bits (spanHi bits)) 79 #[.pointer (some ⟨W.heap.size, 0, none⟩)] eg ab ao xs.length c (toN bits xs hok) (toN_len bits xs hok) hlen W1
    (by rw [flat_N, toN_val]; exact fun j u hj => keepc hg1 (hcells j u hj))
    (fun V hV x y => by
      have hvb := (hV.cell (p := ⟨B, 0, none⟩) (by simp; omega)).trans hb1
      have hvc := (hV.cell (p := ⟨W.heap.size, 0, none⟩) (by simp; omega)).trans hbox
      refine (cmp50 B W.heap.size bits x.1.f0 x.1.f1 y.1.f0 y.1.f1 V hvb hvc x.2.1 y.2.1).mono ?_
      rintro e w' ⟨rfl, hg⟩
      refine ⟨?_, hg⟩
      have b1 := span_bound x.2.1
      have b2 := span_bound y.2.1
      unfold cfN
      rw [IntKind.wrap_i64]
      congr 2
      omega)
  have hord2 : Calls Try.prog 36 #[.slice (some ⟨ab, ao, none⟩) xs.length c, .func (.func 79) #[] #[.pointer (some ⟨W.heap.size, 0, none⟩)]] W1 fun e w' => ∃ (g cap : Nat) (ys : List S63), e = .returned (.slice (some ⟨g, 0, none⟩) xs.length cap) ∧ ys.Perm xs ∧ ys.Pairwise (fun a b => spanHi bits a.f0 ≤ spanHi bits b.f0) ∧ w'.ownsRow W1.heap.size 63 2 (.slice (some ⟨g, 0, none⟩) xs.length cap) xs.length (ys.flatMap enc63) ∧ Below W1.heap.size W1 w' := by
    refine hord.mono ?_
    rintro e w' ⟨v', ys, rfl, hp, hs, hown, hB⟩
    have hyl : ys.length = xs.length := by rw [hp.length_eq, toN_len]
    obtain ⟨g, cap, rfl⟩ : ∃ g cap, v' = .slice (some ⟨g, 0, none⟩) xs.length cap := by
      rcases hown.2 with ⟨_, h0⟩ | ⟨g, cap, cur, h1, _⟩
      · omega
      · exact ⟨g, cap, h1⟩
    refine ⟨g, cap, ys.map (fun x => x.1), rfl, ?_, ?_, by rw [← flat_N]; exact hown, hB⟩
    · have := hp.map (fun x => x.1)
      rwa [toN_val] at this
    · rw [List.pairwise_map, List.pairwise_iff_getElem]
      intro i j hi hj hij
      have h1 := hs i j (Nat.zero_le _) hij (by rw [← hyl]; exact hj)
      rw [ltN] at h1
      have e1 : ys.toArray[i]! = ys[i] := by simp [getElem!_pos, hi]
      have e2 : ys.toArray[j]! = ys[j] := by simp [getElem!_pos, hj]
      rw [e1, e2] at h1
      simpa using h1
  clear hord
  have HR := Lib.hid (fun (ys : List S63) (hp : ys.Perm xs) (hs : ys.Pairwise (fun a b => spanHi bits a.f0 ≤ spanHi bits b.f0)) => walkR_reachF (spanHi bits) rank hp hs (fun x hx => (hok x hx).2.1) hr0 hr1)
  have HOK := Lib.hid hok
  have hend := fun (V : World) (x y : Int) (hV : V.cell? ⟨B, 0, none⟩ = some (.int .i64 bits)) (hk : SpanOk bits x) => end50 B bits x y V hV hk
  generalize reachF (spanHi bits) xs rank = R at HR ⊢
  generalize hsl : spanHi bits = sl at *
  generalize hn : xs.length = n at *
  have HN := Lib.hid hn
  have BIG : rank ≤ 1152921504606846976000000 := by
    have : ∀ (l : List S63), (∀ x ∈ l, x.f1 ≤ 1099511627776) → tot l ≤ l.length * 1099511627776 := by
      intro l
      induction l with
      | nil => intro _; simp [tot]
      | cons x l ih =>
        intro h
        have h1 := ih (fun y hy => h y (List.mem_cons_of_mem _ hy))
        have h2 := h x (List.mem_cons_self ..)
        simp only [tot, List.length_cons]
        omega
    have h3 := this xs (fun x hx => (hok x hx).2.2)
    omega
  clear hcells hr hok hx0 hx1 hr1 hn hsl BIG
  go_enter Try.func51, Try.ntmps51
  go_wp2_with fail
  rw [← hW1]
  refine hord2.mono ?_
  rintro e w2 ⟨g, cap, ys, rfl, hp, hs, hown, hB⟩
  have q0 := (hB.cell (p := ⟨W.heap.size, 0, none⟩) (by simp; omega)).trans hbox
  have qb := (hB.cell (p := ⟨B, 0, none⟩) (by simp; omega)).trans hb1
  have HB := Lib.hid ((hg1.below).trans (hB.mono (by omega)))
  have HYS := Lib.hid (HR.out ys hp hs)
  have HYL := Lib.hid (hp.length_eq.trans HN.out)
  have HYO := Lib.hid (fun x hx => HOK.out x (hp.mem_iff.1 hx))
  have HCL := Lib.hid (fun j hj => hown.cellAt (j := j) hj)
  have HG := Lib.hid ((hown.lt g rfl).2)
  clear hord2 hB hs hp hown hbox hb hb1 HR HOK
  have hg2 : g < w2.heap.size := HG.out
  go_wp2_with fail
  go_loopg [7, 8, 17] n (fun gk s7 s8 s17 wr => ∃ (j : Nat) (sum last : Int), s7 = .int .i64 sum ∧ s8 = .int .i64 last ∧ s17 = .int .i64 j ∧ Below w2.heap.size w2 wr ∧ (0 ≤ sum ∧ sum ≤ j * 1099511627776) ∧ walkR sl rank (ys.drop j) sum last = R ∧ j ≤ n ∧ gk = n - j)
  case atStart => exact ⟨0, 0, 0, rfl, rfl, rfl, Below.refl _ _, ⟨Int.le_refl _, by omega⟩, by simpa using HYS.out, Nat.zero_le _, rfl⟩
  case round =>
    obtain ⟨j, sum, last, rfl, rfl, rfl, hB, ⟨hs0, hs1'⟩, hw, hj, hgk⟩ := hrel
    have HW := Lib.hid hw
    have HGK := Lib.hid hgk
    have HBR := Lib.hid hB
    have p0 := (hB.cell (p := ⟨W.heap.size, 0, none⟩) (cell_lt q0)).trans q0
    have pb := (hB.cell (p := ⟨B, 0, none⟩) (cell_lt qb)).trans qb
    have hsz := hB.size
    clear hw hgk hB
    by_cases hlt : j < n
    · have hlti : (j : Int) < n := by omega
      have hjy : j < ys.length := by rw [HYL.out]; exact hlt
      have hdrop := List.drop_eq_getElem_cons hjy
      have hmem := List.getElem_mem hjy
      have hok := HYO.out _ hmem
      have hc0 := (HBR.out.cell (p := ⟨g, j * 2, none⟩) (by simpa using hg2)).trans (HCL.out (j * 2) (by omega))
      have hc1 := (HBR.out.cell (p := ⟨g, j * 2 + 1, none⟩) (by simpa using hg2)).trans (HCL.out (j * 2 + 1) (by omega))
      have e0 : (ys.flatMap enc63)[j * 2]? = some (.int .i64 ys[j].f0) := by
        have := Ord.flatMap_get enc63 2 (fun _ => rfl) (by decide) ys (j * 2) (by omega)
        rw [this]; simp [enc63, hjy]
      have e1 : (ys.flatMap enc63)[j * 2 + 1]? = some (.int .i64 ys[j].f1) := by
        have := Ord.flatMap_get enc63 2 (fun _ => rfl) (by decide) ys (j * 2 + 1) (by omega)
        rw [this, show (j * 2 + 1) / 2 = j from by omega, show (j * 2 + 1) % 2 = 1 from by omega]; simp [enc63, hjy]
      rw [e0] at hc0
      rw [e1] at hc1
      have hw2 := HW.out
      rw [hdrop] at hw2
      simp only [walkR] at hw2
      obtain ⟨hsp, hf0, hf1⟩ := hok
      have hend2 := fun V hV => hend V ys[j].f0 ys[j].f1 hV hsp
      have hgne : g < wr.heap.size := by omega
      have hzB : B < wr.heap.size := cell_lt pb
      have hzC : W.heap.size < wr.heap.size := cell_lt p0
      clear hmem hdrop e0 e1 hsp hend
      generalize ys[j].f0 = x at *
      generalize ys[j].f1 = y at *
      generalize sl x = sx at *
      by_cases hbr : rank ≤ sum + y
      · rw [if_pos hbr] at hw2
        have HW2 := Lib.hid hw2
        clear hw2
        go_wp2_with fail
        refine (hend2 _ (keepc (Grew.alloc _ _) pb)).mono ?_
        rintro e w4 ⟨rfl, hg4⟩
        go_wp2_with fail
        go_ret
        refine ⟨by rw [HW2.out]; rfl, ?_⟩
        have hb4 := (HBR.out.alloc hsz (.cells #[.int .i64 x, .int .i64 y] 63)).trans (hg4.below.mono (by simp; omega))
        exact HB.out.trans (hb4.mono HB.out.size)
      · rw [if_neg hbr] at hw2
        have HW2 := Lib.hid hw2
        clear hw2
        go_wp2_with fail
        refine (hend2 _ (keepc (Grew.alloc _ _) pb)).mono ?_
        rintro e w4 ⟨rfl, hg4⟩
        go_wp2_with fail
        go_roundg (n - (j + 1))
        case rel => exact ⟨j + 1, sum + y, sx, rfl, rfl, by go_num, (HBR.out.alloc hsz (.cells #[.int .i64 x, .int .i64 y] 63)).trans (hg4.below.mono (by simp; omega)), ⟨by omega, by omega⟩, HW2.out, by omega, rfl⟩
        case measure => rw [HGK.out]; omega
    · have hjn : j = n := by omega
      have hw2 := HW.out
      rw [List.drop_eq_nil_of_le (by rw [HYL.out]; omega)] at hw2
      simp only [walkR] at hw2
      have HW2 := Lib.hid hw2
      have HJ := Lib.hid hjn
      clear hw2 hjn
      go_wp2_with fail
      go_ret
      exact ⟨by rw [HW2.out]; rfl, HB.out.trans (HBR.out.mono HB.out.size)⟩
end Go.Proofs.Ytcgimjoebkeifaa.Quan
