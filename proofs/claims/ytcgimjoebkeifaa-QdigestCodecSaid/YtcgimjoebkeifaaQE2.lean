/- Parts of one proof, one behind the other (put together by wip/merge2.py out of: PQxf21, PQxf8). No conditions beyond each theorem's own. -/
import Derived.Test.YtcgimjoebkeifaaPQx0
import Derived.Test.YtcgimjoebkeifaaPQxf13
import Derived.Test.YtcgimjoebkeifaaQE1
/- Written by a program of this session (wip/patch_print.py): Go functions as Lean functions, each with a proof that the call does what its function says. No conditions beyond each theorem's own. -/
namespace Go.Proofs.Ytcgimjoebkeifaa.PQ
open Go.RowKit Go.Proofs.YtcgimjoebkeifaaW.PrintWords Go.Proofs.YtcgimjoebkeifaaW.PrintLast Go.Proofs.YtcgimjoebkeifaaW.PrintMore
attribute [local go_sem] max2_int min2_int max_two min_two max_three min_three max_four min_four   -- for this text's walks alone
set_option linter.unusedVariables false
set_option linter.unusedSimpArgs false

/-! ### qdigest_Decode: function 21 -/
mutual
def qdigest_Decode.j0 : Nat → List Int → Bool → Option (Int × Int × Int × (List (S63)) × Int)
 | 0, _, _ => none
 | k + 1, x4, x30 => if x30 = true then (some (0, 0, 0, ([] : List (S63)), 12)) else (if 0 < (x4.length : Int) then (if 1 < (x4.length : Int) then (qdigest_Decode.l0 k x4 2 (rd x4 0) (rd x4 1) 0 ([] : List (S63))) else (none)) else (none))
def qdigest_Decode.l0 : Nat → List Int → Int → Int → Int → Int → List (S63) → Option (Int × Int × Int × (List (S63)) × Int)
 | 0, _, _, _, _, _, _ => none
 | k + 1, x4, x7, x292000, x292001, x292002, x292003 => if x7 < (x4.length : Int) then (if 0 ≤ (wrap64 (x7 + 1)) then (if (wrap64 (x7 + 1)) < (x4.length : Int) then (if (rd x4 (wrap64 (x7 + 1))) < 1 then (some (0, 0, 0, ([] : List (S63)), 12)) else (if (rd x4 (wrap64 (x7 + 1))) > 1099511627776 then (some (0, 0, 0, ([] : List (S63)), 12)) else (if 0 ≤ x7 then (if x292003.length < 8796093022208 then (qdigest_Decode.l0 k x4 (wrap64 (x7 + 2)) x292000 x292001 (wrap64 (x292002 + (rd x4 (wrap64 (x7 + 1))))) (x292003 ++ [(⟨rd x4 x7, rd x4 (wrap64 (x7 + 1))⟩ : S63)])) else (none)) else (none)))) else (none)) else (none)) else ((qdigest_Check.f k x292000 x292001 x292002 x292003).bind fun t300 => (if t300 = 0 then (some (x292000, x292001, x292002, x292003, 0)) else (some (0, 0, 0, ([] : List (S63)), 12))))
end
def qdigest_Decode.f (k : Nat) (a0 : ByteArray) : Option (Int × Int × Int × (List (S63)) × Int) := (varint_Decode.f k a0).bind fun bt285 => (if bt285.2 = 0 then (if (bt285.1.length : Int) < 2 then (qdigest_Decode.j0 k bt285.1 true) else (if ((bt285.1.length : Int) % 2) = 0 then (qdigest_Decode.j0 k bt285.1 (decide ((bt285.1.length : Int) > 4002))) else (qdigest_Decode.j0 k bt285.1 true))) else (qdigest_Decode.j0 k bt285.1 true))
theorem qdigest_Decode.mono_l : ∀ k, (∀ y0 y1, LeO (qdigest_Decode.j0 k y0 y1) (qdigest_Decode.j0 (k + 1) y0 y1)) ∧ (∀ y0 y1 y2 y3 y4 y5, LeO (qdigest_Decode.l0 k y0 y1 y2 y3 y4 y5) (qdigest_Decode.l0 (k + 1) y0 y1 y2 y3 y4 y5))
 | 0 => ⟨fun _ _ r h => by simp [qdigest_Decode.j0] at h, fun _ _ _ _ _ _ r h => by simp [qdigest_Decode.l0] at h⟩
 | k + 1 => by
  obtain ⟨ih0, ih1⟩ := qdigest_Decode.mono_l k
  refine ⟨?_, ?_⟩
  ·intro y0 y1
   unfold qdigest_Decode.j0
   repeat' first
   | (with_reducible exact ih0 _ _)
   | (with_reducible exact ih1 _ _ _ _ _ _)
   | (with_reducible exact qdigest_Check.mono _ _ _ _ _)
   | (with_reducible exact varint_Decode.mono _ _)
   | (with_reducible exact LeO.refl _)
   | (with_reducible exact LeO.none _)
   | (with_reducible refine LeO.ite ?_ ?_)
   | (with_reducible refine LeO.bind ?_ (fun _ => ?_))
   | exact ih0 _ _
   | exact ih1 _ _ _ _ _ _
   | exact qdigest_Check.mono _ _ _ _ _
   | exact varint_Decode.mono _ _
   | exact LeO.none _
   | refine LeO.ite ?_ ?_
   | refine LeO.bind ?_ (fun _ => ?_)
  ·intro y0 y1 y2 y3 y4 y5
   unfold qdigest_Decode.l0
   repeat' first
   | (with_reducible exact ih0 _ _)
   | (with_reducible exact ih1 _ _ _ _ _ _)
   | (with_reducible exact qdigest_Check.mono _ _ _ _ _)
   | (with_reducible exact varint_Decode.mono _ _)
   | (with_reducible exact LeO.refl _)
   | (with_reducible exact LeO.none _)
   | (with_reducible refine LeO.ite ?_ ?_)
   | (with_reducible refine LeO.bind ?_ (fun _ => ?_))
   | exact ih0 _ _
   | exact ih1 _ _ _ _ _ _
   | exact qdigest_Check.mono _ _ _ _ _
   | exact varint_Decode.mono _ _
   | exact LeO.none _
   | refine LeO.ite ?_ ?_
   | refine LeO.bind ?_ (fun _ => ?_)
theorem qdigest_Decode.mono : ∀ a0 k, LeO (qdigest_Decode.f k a0) (qdigest_Decode.f (k + 1) a0) := by
 intro a0 k
 obtain ⟨ih0, ih1⟩ := qdigest_Decode.mono_l k
 unfold qdigest_Decode.f
 repeat' first
   | (with_reducible exact ih0 _ _)
   | (with_reducible exact ih1 _ _ _ _ _ _)
   | (with_reducible exact qdigest_Check.mono _ _ _ _ _)
   | (with_reducible exact varint_Decode.mono _ _)
   | (with_reducible exact LeO.refl _)
   | (with_reducible exact LeO.none _)
   | (with_reducible refine LeO.ite ?_ ?_)
   | (with_reducible refine LeO.bind ?_ (fun _ => ?_))
   | exact ih0 _ _
   | exact ih1 _ _ _ _ _ _
   | exact qdigest_Check.mono _ _ _ _ _
   | exact varint_Decode.mono _ _
   | exact LeO.none _
   | refine LeO.ite ?_ ?_
   | refine LeO.bind ?_ (fun _ => ?_)
def qdigest_Decode.T4 : Bool × List (List Nat × List Nat) := (true, [([], []), ([0], [0]), ([1], [1]), ([], []), ([3], [3]), ([4], [4]), ([2, 5], [2, 5]), ([], []), ([7, 6, 0, 1, 2, 3, 4, 5, 6, 7], [6, 7])])
def qdigest_Decode.B4 : List Nat := [0, 1, 3, 0, 8, 24, 63, 0, 255]
theorem qdigest_Decode.tab4 : rtab .any (opsOf Try.f21 4) = qdigest_Decode.T4 := by kernel_rfl
theorem qdigest_Decode.bits4 : waitsOk qdigest_Decode.T4.2 qdigest_Decode.B4 = true := by kernel_rfl
def qdigest_Decode.T10 : Bool × List (List Nat × List Nat) := (true, [([], []), ([0], [0]), ([], []), ([], []), ([2, 3], [2, 3]), ([4], [4]), ([], []), ([], []), ([7], [7]), ([6, 8], [6, 8]), ([9], [9]), ([5, 10], [5, 10]), ([11], [11]), ([1, 12], [1, 12]), ([0, 1, 2, 3, 4, 5, 6, 7, 8, 9, 10, 11, 12, 13], []), ([14, 13, 13, 0, 1, 2, 3, 4, 5, 6, 7, 8, 9, 10, 11, 12, 13], [13, 14])])
def qdigest_Decode.B10 : List Nat := [0, 1, 0, 0, 12, 28, 0, 0, 128, 448, 960, 2044, 4092, 8191, 16383, 32767]
theorem qdigest_Decode.tab10 : rtab .any (opsOf Try.f21 10) = qdigest_Decode.T10 := by kernel_rfl
theorem qdigest_Decode.bits10 : waitsOk qdigest_Decode.T10.2 qdigest_Decode.B10 = true := by kernel_rfl
def qdigest_Decode.T11 : Bool × List (List Nat × List Nat) := (true, [([], []), ([0], [0]), ([], []), ([], []), ([3], [3]), ([2, 4], [2, 4]), ([5], [5]), ([1, 6], [1, 6]), ([0, 1, 2, 3, 4, 5, 6, 7], []), ([8, 7, 0, 1, 2, 3, 4, 5, 6, 7], [7, 8])])
def qdigest_Decode.B11 : List Nat := [0, 1, 0, 0, 8, 28, 60, 127, 255, 511]
theorem qdigest_Decode.tab11 : rtab .any (opsOf Try.f21 11) = qdigest_Decode.T11 := by kernel_rfl
theorem qdigest_Decode.bits11 : waitsOk qdigest_Decode.T11.2 qdigest_Decode.B11 = true := by kernel_rfl
set_option maxHeartbeats 8000000 in
set_option maxRecDepth 100000 in
theorem qdigest_Decode.calls (k : Nat) (a0 : ByteArray) (r1 : Int) (r2 : Int) (r3 : Int) (r4 : List (S63)) (r5 : Int) (w : World) (h : qdigest_Decode.f k a0 = some (r1, r2, r3, r4, r5)) :
  Calls Try.prog 21 #[.string a0] w fun e w' => ∃ v3_ : Value, e = .returned (.tuple #[.agg #[.int .i64 r1, .int .i64 r2, .int .i64 r3, v3_], .int .i64 r5]) ∧ Kd.R k63 63 w' w.heap.size (fun _ => True) v3_ r4 ∧ Below w.heap.size w w' := by
 have hu24 := Try.underlying24
 have hu63 := Try.underlying63
 have HB := Aside0.mk (Below.refl w.heap.size w)
 have H : ((varint_Decode.f k a0).bind fun bt285 => (if bt285.2 = 0 then (if (bt285.1.length : Int) < 2 then (qdigest_Decode.j0 k bt285.1 true) else (if ((bt285.1.length : Int) % 2) = 0 then (qdigest_Decode.j0 k bt285.1 (decide ((bt285.1.length : Int) > 4002))) else (qdigest_Decode.j0 k bt285.1 true))) else (qdigest_Decode.j0 k bt285.1 true))) = some (r1, r2, r3, r4, r5) := h
 clear h
 replace H := Option.bind_eq_some_iff.mp H
 obtain ⟨⟨t285, t286⟩, A20, H⟩ := H
 replace H : (if t286 = 0 then (if (t285.length : Int) < 2 then (qdigest_Decode.j0 k t285 true) else (if ((t285.length : Int) % 2) = 0 then (qdigest_Decode.j0 k t285 (decide ((t285.length : Int) > 4002))) else (qdigest_Decode.j0 k t285 true))) else (qdigest_Decode.j0 k t285 true)) = some (r1, r2, r3, r4, r5) := H
 have A2 := Aside0.mk A20
 clear A20
 have HC3 := Aside0.mk H
 clear H
 go_enter Try.func21, Try.ntmps21
 go_upto_region 2 with (first | ((with_reducible refine gate_dst (N := 2) rfl ?_); (try (refine gate_guard (by rfl) ?_; dsimp only)); refine box_event ?hg (N := 2) ?hd (cs := #[.int .i64 0, .int .i64 0, .int .i64 0, .slice none 0 0]) (t := 24) ?hr ?_; (case hd => rfl); (case hg => rfl); (case hr => first | (go_simp; done) | (go_simp; rfl)); intro gb284 hg w4 hbox hb; have n0_ := Aside0.mk (below_step (by repeat (first | (with_reducible first | exact HB.out | apply below_alloc | apply pw_below_drewN | apply below_drew1) | exact HB.out)) hb); have n1_ := Aside0.mk (hbox); have n2_ := Aside0.mk ((by rw [hg]; exact (below_size (by repeat (first | (with_reducible first | exact HB.out | apply below_alloc | apply pw_below_drewN | apply below_drew1) | exact HB.out))) : w.heap.size ≤ gb284)); have n3_ := Aside0.mk ((by rw [hg]; exact (below_size (by repeat (first | (with_reducible first | exact HB.out | apply below_alloc | apply pw_below_drewN | apply below_drew1) | exact HB.out))) : w.heap.size ≤ gb284)); clear HB; have HB := n0_; have BK284 := n1_; have GW284 := n2_; have GE284 := n3_; clear n0_ n1_ n2_ n3_; clear hb hbox hg) | ((with_reducible refine gate_callee (f := 42) rfl ?_); refine goesL_ (some 10) rfl rfl Try.func42 (by kernel_rfl) rfl #[.string a0] rfl (by (try simp only [List.map_toArray, List.map_cons, List.map_nil]); first | done | rfl | (simp only [List.length_drop, List.length_take]; rfl)) ?_; (with_reducible refine (varint_Decode.calls k a0 t285 t286 _ A2.out).mono ?_); rintro e w5 ⟨v287, rfl, ho0, hb⟩; refine ⟨_, rfl, ?_⟩; have n0_ := Aside0.mk (Kd.R_lower ho0 (below_size (by repeat (first | (with_reducible first | exact HB.out | apply below_alloc | apply pw_below_drewN | apply below_drew1 | refine below_set ?_ GE284.out) | exact HB.out)))); have n1_ := Aside0.mk (blk_below (g := gb284) (o := .cells #[.int .i64 0, .int .i64 0, .int .i64 0, .slice none 0 0] 24 (0, 0)) (by (with_reducible repeat (first | refine blk_drewN ?_ _ | refine blk_drew ?_ | refine blk_alloc ?_ _)); exact BK284.out) hb); have n2_ := Aside0.mk (below_step (by repeat (first | (with_reducible first | exact HB.out | apply below_alloc | apply pw_below_drewN | apply below_drew1 | refine below_set ?_ GE284.out) | exact HB.out)) hb); clear BK284; clear HB; have HO288 := n0_; have BK284 := n1_; have HB := n2_; clear n0_ n1_ n2_; (try clear hb); (try clear hb2); (try clear hk); (try clear hi); (try clear ho0)))
 (try simp only [Act.put, List.setIfInBounds_toArray, List.set_cons_zero, List.set_cons_succ])
 go_cut [30] (fun v30 wc => ∃ (kq : Nat) (x30_2 : Bool), v30 = .bool x30_2 ∧ Aside0 (qdigest_Decode.j0 kq t285 x30_2 = some (r1, r2, r3, r4, r5)) ∧ Aside0 (kq ≤ k) ∧ Aside0 (Kd.R (Kd.int .i64) 3 wc w.heap.size (fun _ => True) v287 t285) ∧ Aside0 (wc.heap[gb284]? = some (.cells #[.int .i64 0, .int .i64 0, .int .i64 0, (.slice none 0 0)] 24 (0, 0))) ∧ Aside0 (Below w.heap.size w wc))
 case first =>
  have H := HC3.out
  clear HC3
  by_cases c6 : t286 = 0
  ·rw [if_pos c6] at H
   have c6b0 : (t286 == 0) = true := beq_iff_eq.mpr c6
   have c6b1 : (t286 != 0) = false := bne_eq_false_iff_eq.mpr c6
   clear c6
   (first | rw [c6b0] | (simp only [i64_w, i32_w]; rw [c6b0]) | skip)
   by_cases c7 : (t285.length : Int) < 2
   ·rw [if_pos c7] at H
    have c7b0 : decide ((t285.length : Int) < 2) = true := decide_eq_true c7
    have c7b1 : decide (t285.length < 2) = true := decide_eq_true (by omega)
    clear c7
    have H' := Aside0.mk H
    clear H
    obtain ⟨Ao8, co8, eo8⟩ := Kd.R_slice HO288.out
    subst eo8
    go_wp2
    go_meet
    case rel => exact ⟨_, (true), (by first | rfl | (simp; done) | (simp [*]; done)), H', ⟨by first | omega | exact Nat.le_refl _⟩, ⟨by (with_reducible repeat (first | apply Kd.R_alloc | apply Kd.R_drewN | apply Kd.R_drew)); exact HO288.out⟩, ⟨by (with_reducible repeat (first | refine blk_drewN ?_ _ | refine blk_drew ?_ | refine blk_alloc ?_ _)); exact BK284.out⟩, ⟨by repeat (first | (with_reducible first | exact HB.out | apply below_alloc | apply pw_below_drewN | apply below_drew1 | refine below_set ?_ GE284.out) | exact HB.out)⟩⟩
   ·rw [if_neg c7] at H
    have c7b0 : decide ((t285.length : Int) < 2) = false := decide_eq_false c7
    have c7b1 : decide (t285.length < 2) = false := decide_eq_false (by omega)
    clear c7
    by_cases c9 : ((t285.length : Int) % 2) = 0
    ·rw [if_pos c9] at H
     have c9b0 : (((t285.length : Int) % 2) == 0) = true := beq_iff_eq.mpr c9
     have c9b1 : (((t285.length : Int) % 2) != 0) = false := bne_eq_false_iff_eq.mpr c9
     clear c9
     have H' := Aside0.mk H
     clear H
     obtain ⟨Ao10, co10, eo10⟩ := Kd.R_slice HO288.out
     subst eo10
     go_wp2
     go_meet
     case rel => exact ⟨_, (decide ((t285.length : Int) > 4002)), (by first | rfl | (simp; done) | (simp [*]; done)), H', ⟨by first | omega | exact Nat.le_refl _⟩, ⟨by (with_reducible repeat (first | apply Kd.R_alloc | apply Kd.R_drewN | apply Kd.R_drew)); exact HO288.out⟩, ⟨by (with_reducible repeat (first | refine blk_drewN ?_ _ | refine blk_drew ?_ | refine blk_alloc ?_ _)); exact BK284.out⟩, ⟨by repeat (first | (with_reducible first | exact HB.out | apply below_alloc | apply pw_below_drewN | apply below_drew1 | refine below_set ?_ GE284.out) | exact HB.out)⟩⟩
    ·rw [if_neg c9] at H
     have c9b0 : (((t285.length : Int) % 2) == 0) = false := beq_eq_false_iff_ne.mpr c9
     have c9b1 : (((t285.length : Int) % 2) != 0) = true := bne_iff_ne.mpr c9
     have H' := Aside0.mk H
     clear H
     obtain ⟨Ao11, co11, eo11⟩ := Kd.R_slice HO288.out
     subst eo11
     go_wp2
     go_meet
     case rel => exact ⟨_, (true), (by first | rfl | (simp; done) | (simp [*]; done)), H', ⟨by first | omega | exact Nat.le_refl _⟩, ⟨by (with_reducible repeat (first | apply Kd.R_alloc | apply Kd.R_drewN | apply Kd.R_drew)); exact HO288.out⟩, ⟨by (with_reducible repeat (first | refine blk_drewN ?_ _ | refine blk_drew ?_ | refine blk_alloc ?_ _)); exact BK284.out⟩, ⟨by repeat (first | (with_reducible first | exact HB.out | apply below_alloc | apply pw_below_drewN | apply below_drew1 | refine below_set ?_ GE284.out) | exact HB.out)⟩⟩
  ·rw [if_neg c6] at H
   have c6b0 : (t286 == 0) = false := beq_eq_false_iff_ne.mpr c6
   have c6b1 : (t286 != 0) = true := bne_iff_ne.mpr c6
   (first | rw [c6b0] | (simp only [i64_w, i32_w]; rw [c6b0]) | skip)
   have H' := Aside0.mk H
   clear H
   go_wp2
   go_meet
   case rel => exact ⟨_, (true), (by first | rfl | (simp; done) | (simp [*]; done)), H', ⟨by first | omega | exact Nat.le_refl _⟩, ⟨by (with_reducible repeat (first | apply Kd.R_alloc | apply Kd.R_drewN | apply Kd.R_drew)); exact HO288.out⟩, ⟨by (with_reducible repeat (first | refine blk_drewN ?_ _ | refine blk_drew ?_ | refine blk_alloc ?_ _)); exact BK284.out⟩, ⟨by repeat (first | (with_reducible first | exact HB.out | apply below_alloc | apply pw_below_drewN | apply below_drew1 | refine below_set ?_ GE284.out) | exact HB.out)⟩⟩
 case rest =>
  clear HC3
  try clear c2
  try clear p2
  try clear c4
  try clear c6
  try clear c6b0
  try clear c6b1
  try clear c7
  try clear c7b0
  try clear c7b1
  try clear c9
  try clear c9b0
  try clear c9b1
  obtain ⟨kq, x30_2, rfl, HA, HJ2, HO_4, BK284, HB⟩ := hcut
  cases kq with
  | zero => exact absurd HA.out (by simp [qdigest_Decode.j0])
  | succ kj2 =>
   have H := HA.out
   clear HA
   simp only [qdigest_Decode.j0] at H
   by_cases c12 : x30_2 = true
   ·subst c12
    have H1 : (some (0, 0, 0, ([] : List (S63)), 12)) = some (r1, r2, r3, r4, r5) := by rw [if_pos rfl] at H; exact H
    clear H
    have H := H1
    clear H1
    simp only [Option.some.injEq, Prod.mk.injEq] at H
    obtain ⟨rfl, rfl, rfl, rfl, rfl⟩ := H
    have hcz13_0 : wc.cell? ⟨gb284, 0, none⟩ = some (.int .i64 0) := (blk_cell BK284.out 0).trans rfl
    have hcz13_1 : wc.cell? ⟨gb284, 1, none⟩ = some (.int .i64 0) := (blk_cell BK284.out 1).trans rfl
    have hcz13_2 : wc.cell? ⟨gb284, 2, none⟩ = some (.int .i64 0) := (blk_cell BK284.out 2).trans rfl
    have hcz13_3 : wc.cell? ⟨gb284, 3, none⟩ = some (.slice none 0 0) := (blk_cell BK284.out 3).trans rfl
    have hfz13_0 := blk_frozen BK284.out 0
    have hfz13_1 := blk_frozen BK284.out 1
    have hfz13_2 := blk_frozen BK284.out 2
    have hfz13_3 := blk_frozen BK284.out 3
    go_wp2
    refine bodyPost_ret (results_ct rfl _ _ gb284 24 #[.int .i64 0, .int .i64 0, .int .i64 0, .slice none 0 0] (0, 0) _ rfl (by (with_reducible repeat (first | refine blk_drewN ?_ _ | refine blk_drew ?_ | refine blk_alloc ?_ _)); refine blk_put (cs := #[.int .i64 0, .int .i64 0, .int .i64 0, .slice none 0 0]) ?_ 3 _ rfl; (with_reducible repeat (first | refine blk_drewN ?_ _ | refine blk_drew ?_ | refine blk_alloc ?_ _)); refine blk_put (cs := #[.int .i64 0, .int .i64 0, .int .i64 0, .slice none 0 0]) ?_ 2 _ rfl; (with_reducible repeat (first | refine blk_drewN ?_ _ | refine blk_drew ?_ | refine blk_alloc ?_ _)); refine blk_put (cs := #[.int .i64 0, .int .i64 0, .int .i64 0, .slice none 0 0]) ?_ 1 _ rfl; (with_reducible repeat (first | refine blk_drewN ?_ _ | refine blk_drew ?_ | refine blk_alloc ?_ _)); refine blk_put (cs := #[.int .i64 0, .int .i64 0, .int .i64 0, .slice none 0 0]) ?_ 0 _ rfl; (with_reducible repeat (first | refine blk_drewN ?_ _ | refine blk_drew ?_ | refine blk_alloc ?_ _)); exact BK284.out) Try.underlying24 rfl (by kernel_rfl)) rfl ?_
    exact ⟨_, by first | rfl | (simp [errW_none, errW_some] <;> rfl) | (simp [*, errW_none, errW_some] <;> rfl), by first | exact Kd.R_nil _ _ _ _ _ | exact Kd.N_nil _ _ _ _ _ | exact Kd.V_nil _ _ _ _ _ | exact Kd.Q_nil _ _ _ _ _ | exact Kd.S_nil _ _ _ _ _, by repeat (first | (with_reducible first | exact HB.out | apply below_alloc | apply pw_below_drewN | apply below_drew1 | refine below_set ?_ GE284.out) | exact HB.out)⟩
   ·replace c12 := Bool.eq_false_iff.mpr c12
    subst c12
    have H1 : (if 0 < (t285.length : Int) then (if 1 < (t285.length : Int) then (qdigest_Decode.l0 kj2 t285 2 (rd t285 0) (rd t285 1) 0 ([] : List (S63))) else (none)) else (none)) = some (r1, r2, r3, r4, r5) := by rw [if_neg (show ¬ (false = true) by decide)] at H; exact H
    clear H
    have H := H1
    clear H1
    by_cases c14 : 0 < (t285.length : Int)
    ·rw [if_pos c14] at H
     have c14b0 : decide (0 < (t285.length : Int)) = true := decide_eq_true c14
     have c14b1 : decide (0 < t285.length) = true := decide_eq_true (by omega)
     clear c14
     by_cases c15 : 1 < (t285.length : Int)
     ·rw [if_pos c15] at H
      have c15b0 : decide (1 < (t285.length : Int)) = true := decide_eq_true c15
      have c15b1 : decide (1 < t285.length) = true := decide_eq_true (by omega)
      clear c15
      have H' := Aside0.mk H
      clear H
      try go_wp2
      have n0_ := Aside0.mk (Kd.R_drew HO_4.out)
      have n1_ := Aside0.mk (blk_drew BK284.out)
      have n2_ := Aside0.mk (below_drew1 HB.out)
      clear HO_4
      clear BK284
      clear HB
      have HO_4 := n0_
      have BK284 := n1_
      have HB := n2_
      clear n0_ n1_ n2_
      obtain ⟨Ao17, co17, eo17⟩ := Kd.R_slice HO_4.out
      (first | subst eo17 | (injection eo17 with f1_ f2_ f3_; have f4_ := f1_.symm; have f5_ := f3_.symm; clear f1_ f2_ f3_; subst f4_; subst f5_))
      have p289 : 0 ≤ (0 : Int) := (by omega)
      have q289 : 0 < (t285.length : Int) := of_decide_eq_true (by first | (with_reducible assumption) | assumption)
      obtain ⟨ad289, e289, hx289_0⟩ := Kd.at_int (Kd.R_reads' HO_4.out).2.2 0 p289 q289
      cases e289
      have qi289 : (0 < t285.length) = True := eq_true (by omega)
      (try rw [show ((0 : Int)).toNat = 0 from rfl] at hx289_0)
      (try rw [Addr.add_zero'] at hx289_0)
      replace p289 := eq_true p289
      replace q289 := eq_true q289
      have p290 : 0 ≤ (1 : Int) := (by omega)
      have q290 : 1 < (t285.length : Int) := of_decide_eq_true (by first | (with_reducible assumption) | assumption)
      obtain ⟨ad290, e290, hx290_0⟩ := Kd.at_int (Kd.R_reads' HO_4.out).2.2 1 p290 q290
      obtain rfl : ad289 = ad290 := (by injection e290)
      (try simp only [show (1 : Int).toNat = 1 from rfl, Nat.reduceMul, Nat.reduceEqDiff, Go.Addr.add, ↓reduceIte] at hx290_0)
      have qi290 : (1 < t285.length) = True := eq_true (by omega)
      (try rw [show ((1 : Int)).toNat = 1 from rfl] at hx290_0)
      replace p290 := eq_true p290
      replace q290 := eq_true q290
      refine start_ (n := 9) (S := fun w' => w'.cell? ad289 = some (.int .i64 (rd t285 0)) ∧ w'.cell? ⟨ad289.block, ad289.off + 1, none⟩ = some (.int .i64 (rd t285 1))) (ds := []) #[false, false, false, false, false, false, false, false, false] (by kernel_rfl) rfl rfl ⟨hx289_0, hx290_0⟩ (fun hHeld => ?_); refine with_tabW qdigest_Decode.tab4 qdigest_Decode.bits4 (fun HT_ HW_ => ?_)
      generalize wc.drew = w16 at HO_4 BK284 HB hx289_0 hx290_0 hHeld ⊢
      refine pure_ (i := 0) (N := some 32) (v := ?_) (a' := ?_) #[true, false, false, false, false, false, false, false, false] rfl rfl (any_of HT_.out (by kernel_rfl)) (fun _ _ _ h => h) (Or.inl ⟨by rfl, ?_⟩) ?_ ?_
      rotate_left
      ·intro w'
       go_simp
       with_reducible rfl
      rotate_left
      ·simp only [Act.put, List.setIfInBounds_toArray, List.set_cons_zero, List.set_cons_succ, i64_w, i32_w]
       rfl
      refine pure_ (i := 1) (N := some 33) (v := ?_) (a' := ?_) #[true, true, false, false, false, false, false, false, false] rfl rfl (any_of HT_.out (by kernel_rfl)) (fun _ _ _ h => h) (Or.inl ⟨by rfl, ?_⟩) ?_ ?_
      rotate_left
      ·intro w'
       go_simp
       with_reducible rfl
      rotate_left
      ·simp only [Act.put, List.setIfInBounds_toArray, List.set_cons_zero, List.set_cons_succ, i64_w, i32_w]
       rfl
      refine pure_ (i := 3) (N := some 35) (v := ?_) (a' := ?_) #[true, true, false, true, false, false, false, false, false] rfl rfl (any_of HT_.out (by kernel_rfl)) (fun _ _ _ h => h) (Or.inl ⟨by rfl, ?_⟩) ?_ ?_
      rotate_left
      ·intro w'
       go_simp
       with_reducible rfl
      rotate_left
      ·simp only [Act.put, List.setIfInBounds_toArray, List.set_cons_zero, List.set_cons_succ, i64_w, i32_w]
       rfl
      refine pure_ (i := 4) (N := some 36) (v := ?_) (a' := ?_) #[true, true, false, true, true, false, false, false, false] rfl rfl (any_of HT_.out (by kernel_rfl)) (fun _ _ _ h => h) (Or.inl ⟨by rfl, ?_⟩) ?_ ?_
      rotate_left
      ·intro w'
       go_simp
       with_reducible rfl
      rotate_left
      ·simp only [Act.put, List.setIfInBounds_toArray, List.set_cons_zero, List.set_cons_succ, i64_w, i32_w]
       rfl
      refine take_ (i := 2) (N := some 34) (v := ?_) (a' := ?_) #[true, true, true, true, true, false, false, false, false] rfl rfl (take_ofW HT_.out HW_.out (by kernel_rfl)) (fun _ _ _ h => h) (Or.inl ⟨by rfl, ?_⟩) hHeld ?_ ?_
      rotate_left
      ·rintro w' ⟨s0, s1⟩
       go_simp
       with_reducible rfl
      rotate_left
      ·simp only [Act.put, List.setIfInBounds_toArray, List.set_cons_zero, List.set_cons_succ, i64_w, i32_w]
       rfl
      refine take_ (i := 5) (N := some 37) (v := ?_) (a' := ?_) #[true, true, true, true, true, true, false, false, false] rfl rfl (take_ofW HT_.out HW_.out (by kernel_rfl)) (fun _ _ _ h => h) (Or.inl ⟨by rfl, ?_⟩) hHeld ?_ ?_
      rotate_left
      ·rintro w' ⟨s0, s1⟩
       go_simp
       with_reducible rfl
      rotate_left
      ·simp only [Act.put, List.setIfInBounds_toArray, List.set_cons_zero, List.set_cons_succ, i64_w, i32_w]
       rfl
      refine pure_ (i := 6) (N := some 38) (v := ?_) (a' := ?_) #[true, true, true, true, true, true, true, false, false] rfl rfl (any_of HT_.out (by kernel_rfl)) (fun _ _ _ h => h) (Or.inl ⟨by rfl, ?_⟩) ?_ ?_
      rotate_left
      ·intro w'
       go_simp
       with_reducible rfl
      rotate_left
      ·simp only [Act.put, List.setIfInBounds_toArray, List.set_cons_zero, List.set_cons_succ, i64_w, i32_w]
       rfl
      refine one_ (i := 7) (N := some 6) #[true, true, true, true, true, true, true, true, false] rfl rfl (one_of HT_.out (by kernel_rfl)) (by decide) (fun K hK => ?_)
      refine box_step ?hg (N := 6) ?hd (cs := #[.int .i64 0, .int .i64 0, .int .i64 0, .slice none 0 0]) (t := 24) ?hr ?_; (case hd => rfl); (case hg => rfl); (case hr => first | (go_simp; done) | (go_simp; rfl))
      intro gb291 hg w18 hbox hb
      have HS0_ := (hb.cell (World.block_lt_of_cell? _ _ (hHeld.1))).trans (hHeld.1)
      have HS1_ := (hb.cell (World.block_lt_of_cell? _ _ (hHeld.2))).trans (hHeld.2)
      have n0_ := Aside0.mk (Kd.R_below (by (with_reducible repeat (first | apply Kd.R_alloc | apply Kd.R_drewN | apply Kd.R_drew)); exact HO_4.out) hb)
      have n1_ := Aside0.mk (blk_below (g := gb284) (o := .cells #[.int .i64 0, .int .i64 0, .int .i64 0, .slice none 0 0] 24 (0, 0)) (by (with_reducible repeat (first | refine blk_drewN ?_ _ | refine blk_drew ?_ | refine blk_alloc ?_ _)); exact BK284.out) hb)
      have n2_ := Aside0.mk (below_step (by repeat (first | (with_reducible first | exact HB.out | apply below_alloc | apply pw_below_drewN | apply below_drew1 | refine below_set ?_ GE284.out) | exact HB.out)) hb)
      have n3_ := Aside0.mk (hbox)
      have n4_ := Aside0.mk ((by rw [hg]; exact (below_size (by repeat (first | (with_reducible first | exact HB.out | apply below_alloc | apply pw_below_drewN | apply below_drew1 | refine below_set ?_ GE284.out) | exact HB.out))) : w.heap.size ≤ gb291))
      have n5_ := Aside0.mk ((by rw [hg]; exact (below_size (by repeat (first | (with_reducible first | exact HB.out | apply below_alloc | apply pw_below_drewN | apply below_drew1 | refine below_set ?_ GE284.out) | exact HB.out))) : w.heap.size ≤ gb291))
      have n6_ := Aside0.mk ((by rw [hg]; exact Nat.ne_of_lt (blk_lt (g := gb284) (o := .cells #[.int .i64 0, .int .i64 0, .int .i64 0, .slice none 0 0] 24 (0, 0)) (by (with_reducible repeat (first | refine blk_drewN ?_ _ | refine blk_drew ?_ | refine blk_alloc ?_ _)); exact BK284.out)) : gb284 ≠ gb291))
      have n7_ := Aside0.mk ((by rw [hg]; exact Nat.ne_of_gt (blk_lt (g := gb284) (o := .cells #[.int .i64 0, .int .i64 0, .int .i64 0, .slice none 0 0] 24 (0, 0)) (by (with_reducible repeat (first | refine blk_drewN ?_ _ | refine blk_drew ?_ | refine blk_alloc ?_ _)); exact BK284.out)) : gb291 ≠ gb284))
      clear HO_4
      clear BK284
      clear HB
      have HO_4 := n0_
      have BK284 := n1_
      have HB := n2_
      have BK291 := n3_
      have GW291 := n4_
      have GE291 := n5_
      have NB284_291 := n6_
      have NB291_284 := n7_
      clear n0_ n1_ n2_ n3_ n4_ n5_ n6_ n7_
      clear hb hbox hg
      refine hK.out _ _ ⟨HS0_, HS1_⟩ (fun hHeld => ?_)
      clear hK K
      refine norm_ (a' := ?_) ?_ ?_
      rotate_left
      ·show Act.put _ (some 6) _ = _
       simp only [Act.put, List.setIfInBounds_toArray, List.set_cons_zero, List.set_cons_succ, i64_w, i32_w]
       rfl
      refine one_ (i := 8) (N := none) #[true, true, true, true, true, true, true, true, true] rfl rfl (one_of HT_.out (by kernel_rfl)) (by decide) (fun K hK => ?_)
      have hs19 : w18.cell? ⟨gb291, 0, none⟩ = some (.int .i64 0) := (blk_cell BK291.out 0).trans rfl
      have hfs19 := blk_frozen BK291.out 0
      have hns19_0 := NB284_291.out
      have hms19_0 := NB291_284.out
      have hs20 : w18.cell? ⟨gb291, 1, none⟩ = some (.int .i64 0) := (blk_cell BK291.out 1).trans rfl
      have hfs20 := blk_frozen BK291.out 1
      have hns20_0 := NB284_291.out
      have hms20_0 := NB291_284.out
      have hs21 : w18.cell? ⟨gb291, 2, none⟩ = some (.int .i64 0) := (blk_cell BK291.out 2).trans rfl
      have hfs21 := blk_frozen BK291.out 2
      have hns21_0 := NB284_291.out
      have hms21_0 := NB291_284.out
      have hs22 : w18.cell? ⟨gb291, 3, none⟩ = some (.slice none 0 0) := (blk_cell BK291.out 3).trans rfl
      have hfs22 := blk_frozen BK291.out 3
      have hns22_0 := NB284_291.out
      have hms22_0 := NB291_284.out
      refine skip_ (w1 := ?_) (by rfl) rfl ?_ ?_
      rotate_left
      ·go_simp
       rfl
      refine hK.out _ _ ⟨((cell_far (p := ⟨gb291, _, none⟩) (by first | exact Kd.own_blk (Kd.R_ne HO_4.out BK291.out (by decide)) | (rw [add_block]; exact Kd.own_blk (Kd.R_ne HO_4.out BK291.out (by decide))) | (show (Addr.add _ _).block ≠ _; rw [add_block]; exact Kd.own_blk (Kd.R_ne HO_4.out BK291.out (by decide))) | (dsimp only; exact Kd.own_blk (Kd.R_ne HO_4.out BK291.out (by decide)))) _).trans (((cell_far (p := ⟨gb291, _, none⟩) (by first | exact Kd.own_blk (Kd.R_ne HO_4.out BK291.out (by decide)) | (rw [add_block]; exact Kd.own_blk (Kd.R_ne HO_4.out BK291.out (by decide))) | (show (Addr.add _ _).block ≠ _; rw [add_block]; exact Kd.own_blk (Kd.R_ne HO_4.out BK291.out (by decide))) | (dsimp only; exact Kd.own_blk (Kd.R_ne HO_4.out BK291.out (by decide)))) _).trans (((cell_far (p := ⟨gb291, _, none⟩) (by first | exact Kd.own_blk (Kd.R_ne HO_4.out BK291.out (by decide)) | (rw [add_block]; exact Kd.own_blk (Kd.R_ne HO_4.out BK291.out (by decide))) | (show (Addr.add _ _).block ≠ _; rw [add_block]; exact Kd.own_blk (Kd.R_ne HO_4.out BK291.out (by decide))) | (dsimp only; exact Kd.own_blk (Kd.R_ne HO_4.out BK291.out (by decide)))) _).trans (((cell_far (p := ⟨gb291, _, none⟩) (by first | exact Kd.own_blk (Kd.R_ne HO_4.out BK291.out (by decide)) | (rw [add_block]; exact Kd.own_blk (Kd.R_ne HO_4.out BK291.out (by decide))) | (show (Addr.add _ _).block ≠ _; rw [add_block]; exact Kd.own_blk (Kd.R_ne HO_4.out BK291.out (by decide))) | (dsimp only; exact Kd.own_blk (Kd.R_ne HO_4.out BK291.out (by decide)))) _).trans (hHeld.1)))))))), ((cell_far (p := ⟨gb291, _, none⟩) (by first | exact Kd.own_blk (Kd.R_ne HO_4.out BK291.out (by decide)) | (rw [add_block]; exact Kd.own_blk (Kd.R_ne HO_4.out BK291.out (by decide))) | (show (Addr.add _ _).block ≠ _; rw [add_block]; exact Kd.own_blk (Kd.R_ne HO_4.out BK291.out (by decide))) | (dsimp only; exact Kd.own_blk (Kd.R_ne HO_4.out BK291.out (by decide)))) _).trans (((cell_far (p := ⟨gb291, _, none⟩) (by first | exact Kd.own_blk (Kd.R_ne HO_4.out BK291.out (by decide)) | (rw [add_block]; exact Kd.own_blk (Kd.R_ne HO_4.out BK291.out (by decide))) | (show (Addr.add _ _).block ≠ _; rw [add_block]; exact Kd.own_blk (Kd.R_ne HO_4.out BK291.out (by decide))) | (dsimp only; exact Kd.own_blk (Kd.R_ne HO_4.out BK291.out (by decide)))) _).trans (((cell_far (p := ⟨gb291, _, none⟩) (by first | exact Kd.own_blk (Kd.R_ne HO_4.out BK291.out (by decide)) | (rw [add_block]; exact Kd.own_blk (Kd.R_ne HO_4.out BK291.out (by decide))) | (show (Addr.add _ _).block ≠ _; rw [add_block]; exact Kd.own_blk (Kd.R_ne HO_4.out BK291.out (by decide))) | (dsimp only; exact Kd.own_blk (Kd.R_ne HO_4.out BK291.out (by decide)))) _).trans (((cell_far (p := ⟨gb291, _, none⟩) (by first | exact Kd.own_blk (Kd.R_ne HO_4.out BK291.out (by decide)) | (rw [add_block]; exact Kd.own_blk (Kd.R_ne HO_4.out BK291.out (by decide))) | (show (Addr.add _ _).block ≠ _; rw [add_block]; exact Kd.own_blk (Kd.R_ne HO_4.out BK291.out (by decide))) | (dsimp only; exact Kd.own_blk (Kd.R_ne HO_4.out BK291.out (by decide)))) _).trans (hHeld.2))))))))⟩ (fun hHeld => ?_)
      clear hK K
      refine done_ (done_of HT_.out (by kernel_rfl)) ?_
      try go_wp2
      go_loopg [7] kj2 (fun kq v7 w' => ∃ (x7_2 : Int) (x285000_2 : Int) (x285001_2 : Int) (x285002_2 : Int) (x292002_2 : Int) (x292003_2 : List (S63)) (u292003 : Value), v7 = .int .i64 x7_2 ∧ Aside0 (qdigest_Decode.l0 kq t285 x7_2 (rd t285 0) (rd t285 1) x292002_2 x292003_2 = some (r1, r2, r3, r4, r5)) ∧ Aside0 (kq ≤ kj2) ∧ Aside0 (Kd.R (Kd.int .i64) 3 w' w.heap.size (fun _ => True) (.slice (some ad289) t285.length co17) t285) ∧ Aside0 (Kd.R k63 63 w' w.heap.size (fun _ => True) u292003 x292003_2) ∧ Aside0 (w'.heap[gb284]? = some (.cells #[.int .i64 x285000_2, .int .i64 x285001_2, .int .i64 x285002_2, (.slice none 0 0)] 24 (0, 0))) ∧ Aside0 (w'.heap[gb291]? = some (.cells #[.int .i64 (rd t285 0), .int .i64 (rd t285 1), .int .i64 x292002_2, u292003] 24 (0, 0))) ∧ Aside0 (Below w.heap.size w w'))
      case atStart => exact ⟨(2), (0), (0), (0), (0), (([] : List (S63))), (.slice none 0 0), (by first | rfl | (simp; done) | (simp [*]; done)), H', ⟨Nat.le_refl _⟩, ⟨by (with_reducible repeat (first | apply Kd.R_alloc | apply Kd.R_drewN | apply Kd.R_drew)); exact Kd.R_mono (Kd.R_far (p := ⟨gb291, 3, none⟩) (Kd.R_far (p := ⟨gb291, 2, none⟩) (Kd.R_far (p := ⟨gb291, 1, none⟩) (Kd.R_far (p := ⟨gb291, 0, none⟩) (Kd.R_types HO_4.out BK291.out (by decide)) (fun _ hk => hk.2) (.int .i64 (rd t285 0))) (fun _ hk => hk.2) (.int .i64 (rd t285 1))) (fun _ hk => hk.2) (.int .i64 0)) (fun _ hk => hk.2) (.slice none 0 0)) (fun _ hk => trivial)⟩, ⟨by first | exact Kd.R_nil _ _ _ _ _ | exact Kd.N_nil _ _ _ _ _ | exact Kd.V_nil _ _ _ _ _ | exact Kd.Q_nil _ _ _ _ _ | exact Kd.S_nil _ _ _ _ _⟩, ⟨by (with_reducible repeat (first | refine blk_drewN ?_ _ | refine blk_drew ?_ | refine blk_alloc ?_ _)); refine blk_far ?_ NB284_291.out _; (with_reducible repeat (first | refine blk_drewN ?_ _ | refine blk_drew ?_ | refine blk_alloc ?_ _)); refine blk_far ?_ NB284_291.out _; (with_reducible repeat (first | refine blk_drewN ?_ _ | refine blk_drew ?_ | refine blk_alloc ?_ _)); refine blk_far ?_ NB284_291.out _; (with_reducible repeat (first | refine blk_drewN ?_ _ | refine blk_drew ?_ | refine blk_alloc ?_ _)); refine blk_far ?_ NB284_291.out _; (with_reducible repeat (first | refine blk_drewN ?_ _ | refine blk_drew ?_ | refine blk_alloc ?_ _)); exact BK284.out⟩, ⟨by (with_reducible repeat (first | refine blk_drewN ?_ _ | refine blk_drew ?_ | refine blk_alloc ?_ _)); refine blk_put (cs := #[.int .i64 (rd t285 0), .int .i64 (rd t285 1), .int .i64 0, .slice none 0 0]) ?_ 3 _ rfl; (with_reducible repeat (first | refine blk_drewN ?_ _ | refine blk_drew ?_ | refine blk_alloc ?_ _)); refine blk_put (cs := #[.int .i64 (rd t285 0), .int .i64 (rd t285 1), .int .i64 0, .slice none 0 0]) ?_ 2 _ rfl; (with_reducible repeat (first | refine blk_drewN ?_ _ | refine blk_drew ?_ | refine blk_alloc ?_ _)); refine blk_put (cs := #[.int .i64 (rd t285 0), .int .i64 0, .int .i64 0, .slice none 0 0]) ?_ 1 _ rfl; (with_reducible repeat (first | refine blk_drewN ?_ _ | refine blk_drew ?_ | refine blk_alloc ?_ _)); refine blk_put (cs := #[.int .i64 0, .int .i64 0, .int .i64 0, .slice none 0 0]) ?_ 0 _ rfl; (with_reducible repeat (first | refine blk_drewN ?_ _ | refine blk_drew ?_ | refine blk_alloc ?_ _)); exact BK291.out⟩, ⟨by repeat (first | (with_reducible first | exact HB.out | apply below_alloc | apply pw_below_drewN | apply below_drew1 | refine below_set ?_ GE284.out | refine below_set ?_ GE291.out) | exact HB.out)⟩⟩
      case round =>
       clear H'
       try clear c1
       try clear c2
       try clear p2
       try clear q2
       try clear hx2
       try clear qi2
       try clear c4
       try clear c6
       try clear c6b0
       try clear c6b1
       try clear c7
       try clear c7b0
       try clear c7b1
       try clear c9
       try clear c9b0
       try clear c9b1
       try clear c12
       try clear c14
       try clear c14b0
       try clear c14b1
       try clear c15
       try clear c15b0
       try clear c15b1
       try clear c21
       try clear hcz13_0
       try clear hcz13_1
       try clear hcz13_2
       try clear hcz13_3
       try clear hfz13_0
       try clear hfz13_1
       try clear hfz13_2
       try clear hfz13_3
       try clear hx289_0
       try clear hx290_0
       try clear p2
       try clear p289
       try clear p290
       try clear q289
       try clear q290
       obtain ⟨x7_2, x285000_2, x285001_2, x285002_2, x292002_2, x292003_2, u292003, rfl, HA, HK2, HO_4, HO_292003, BK284, BK291, HB⟩ := hrel
       cases gk with
       | zero => exact absurd HA.out (by simp [qdigest_Decode.l0])
       | succ k2 =>
        have H := HA.out
        clear HA
        simp only [qdigest_Decode.l0] at H
        by_cases c23 : x7_2 < (t285.length : Int)
        ·rw [if_pos c23] at H
         have c23b0 : decide (x7_2 < (t285.length : Int)) = true := decide_eq_true c23
         clear c23
         obtain ⟨ji24, hji24⟩ : ∃ j_ : Int, (wrap64 (x7_2 + 1)) = j_ := ⟨_, rfl⟩
         replace H : (if 0 ≤ (ji24) then (if (ji24) < (t285.length : Int) then (if (rd t285 (ji24)) < 1 then (some (0, 0, 0, ([] : List (S63)), 12)) else (if (rd t285 (ji24)) > 1099511627776 then (some (0, 0, 0, ([] : List (S63)), 12)) else (if 0 ≤ x7_2 then (if x292003_2.length < 8796093022208 then (qdigest_Decode.l0 k2 t285 (wrap64 (x7_2 + 2)) (rd t285 0) (rd t285 1) (wrap64 (x292002_2 + (rd t285 (ji24)))) (x292003_2 ++ [(⟨rd t285 x7_2, rd t285 (ji24)⟩ : S63)])) else (none)) else (none)))) else (none)) else (none)) = some (r1, r2, r3, r4, r5) := by first | (rw [hji24] at H; exact H) | (simp only [hji24] at H ⊢; exact H)
         have hji24w : (IntKind.i64.wrap (x7_2 + 1)) = ji24 := (i64_w _).trans hji24
         by_cases c25 : 0 ≤ (ji24)
         ·rw [if_pos c25] at H
          have c25b0 : decide (0 ≤ (ji24)) = true := decide_eq_true c25
          clear c25
          by_cases c26 : (ji24) < (t285.length : Int)
          ·rw [if_pos c26] at H
           have c26b0 : decide ((ji24) < (t285.length : Int)) = true := decide_eq_true c26
           clear c26
           by_cases c27 : (rd t285 (ji24)) < 1
           ·rw [if_pos c27] at H
            have c27b0 : decide ((rd t285 (ji24)) < 1) = true := decide_eq_true c27
            clear c27
            simp only [Option.some.injEq, Prod.mk.injEq] at H
            obtain ⟨rfl, rfl, rfl, rfl, rfl⟩ := H
            have p292 : 0 ≤ ((ji24) : Int) := of_decide_eq_true (by first | (with_reducible assumption) | assumption)
            have q292 : (ji24) < (t285.length : Int) := of_decide_eq_true (by first | (with_reducible assumption) | assumption)
            obtain ⟨ad292, e292, hx292_0⟩ := Kd.at_int (Kd.R_reads' HO_4.out).2.2 (ji24) p292 q292
            obtain rfl : ad289 = ad292 := (by injection e292)
            replace p292 := eq_true p292
            replace q292 := eq_true q292
            have hnb28 := NB284_291.out
            have hnc28 := NB291_284.out
            have hcz29_0 : wr.cell? ⟨gb284, 0, none⟩ = some (.int .i64 x285000_2) := (blk_cell BK284.out 0).trans rfl
            have hcz29_1 : wr.cell? ⟨gb284, 1, none⟩ = some (.int .i64 x285001_2) := (blk_cell BK284.out 1).trans rfl
            have hcz29_2 : wr.cell? ⟨gb284, 2, none⟩ = some (.int .i64 x285002_2) := (blk_cell BK284.out 2).trans rfl
            have hcz29_3 : wr.cell? ⟨gb284, 3, none⟩ = some (.slice none 0 0) := (blk_cell BK284.out 3).trans rfl
            have hfz29_0 := blk_frozen BK284.out 0
            have hfz29_1 := blk_frozen BK284.out 1
            have hfz29_2 := blk_frozen BK284.out 2
            have hfz29_3 := blk_frozen BK284.out 3
            go_wp2
            refine bodyPost_ret (results_ct rfl _ _ gb284 24 #[.int .i64 0, .int .i64 0, .int .i64 0, .slice none 0 0] (0, 0) _ rfl (by (with_reducible repeat (first | refine blk_drewN ?_ _ | refine blk_drew ?_ | refine blk_alloc ?_ _)); refine blk_put (cs := #[.int .i64 0, .int .i64 0, .int .i64 0, .slice none 0 0]) ?_ 3 _ rfl; (with_reducible repeat (first | refine blk_drewN ?_ _ | refine blk_drew ?_ | refine blk_alloc ?_ _)); refine blk_put (cs := #[.int .i64 0, .int .i64 0, .int .i64 x285002_2, .slice none 0 0]) ?_ 2 _ rfl; (with_reducible repeat (first | refine blk_drewN ?_ _ | refine blk_drew ?_ | refine blk_alloc ?_ _)); refine blk_put (cs := #[.int .i64 0, .int .i64 x285001_2, .int .i64 x285002_2, .slice none 0 0]) ?_ 1 _ rfl; (with_reducible repeat (first | refine blk_drewN ?_ _ | refine blk_drew ?_ | refine blk_alloc ?_ _)); refine blk_put (cs := #[.int .i64 x285000_2, .int .i64 x285001_2, .int .i64 x285002_2, .slice none 0 0]) ?_ 0 _ rfl; (with_reducible repeat (first | refine blk_drewN ?_ _ | refine blk_drew ?_ | refine blk_alloc ?_ _)); exact BK284.out) Try.underlying24 rfl (by kernel_rfl)) rfl ?_
            exact ⟨_, by first | rfl | (simp [errW_none, errW_some] <;> rfl) | (simp only [← hji24]; first | rfl | (simp [errW_none, errW_some] <;> rfl)) | (simp [*, errW_none, errW_some] <;> rfl), by first | exact Kd.R_nil _ _ _ _ _ | exact Kd.N_nil _ _ _ _ _ | exact Kd.V_nil _ _ _ _ _ | exact Kd.Q_nil _ _ _ _ _ | exact Kd.S_nil _ _ _ _ _, by repeat (first | (with_reducible first | exact HB.out | apply below_alloc | apply pw_below_drewN | apply below_drew1 | refine below_set ?_ GE284.out | refine below_set ?_ GE291.out) | exact HB.out)⟩
           ·rw [if_neg c27] at H
            have c27b0 : decide ((rd t285 (ji24)) < 1) = false := decide_eq_false c27
            clear c27
            by_cases c30 : (rd t285 (ji24)) > 1099511627776
            ·rw [if_pos c30] at H
             have c30b0 : decide (1099511627776 < (rd t285 (ji24))) = true := decide_eq_true c30
             clear c30
             simp only [Option.some.injEq, Prod.mk.injEq] at H
             obtain ⟨rfl, rfl, rfl, rfl, rfl⟩ := H
             have p292 : 0 ≤ ((ji24) : Int) := of_decide_eq_true (by first | (with_reducible assumption) | assumption)
             have q292 : (ji24) < (t285.length : Int) := of_decide_eq_true (by first | (with_reducible assumption) | assumption)
             obtain ⟨ad292, e292, hx292_0⟩ := Kd.at_int (Kd.R_reads' HO_4.out).2.2 (ji24) p292 q292
             obtain rfl : ad289 = ad292 := (by injection e292)
             replace p292 := eq_true p292
             replace q292 := eq_true q292
             have p293 : 0 ≤ ((ji24) : Int) := of_decide_eq_true (by first | (with_reducible assumption) | assumption)
             have q293 : (ji24) < (t285.length : Int) := of_decide_eq_true (by first | (with_reducible assumption) | assumption)
             obtain ⟨ad293, e293, hx293_0⟩ := Kd.at_int (Kd.R_reads' HO_4.out).2.2 (ji24) p293 q293
             obtain rfl : ad289 = ad293 := (by injection e293)
             replace p293 := eq_true p293
             replace q293 := eq_true q293
             have hnb31 := NB284_291.out
             have hnc31 := NB291_284.out
             have hcz32_0 : wr.cell? ⟨gb284, 0, none⟩ = some (.int .i64 x285000_2) := (blk_cell BK284.out 0).trans rfl
             have hcz32_1 : wr.cell? ⟨gb284, 1, none⟩ = some (.int .i64 x285001_2) := (blk_cell BK284.out 1).trans rfl
             have hcz32_2 : wr.cell? ⟨gb284, 2, none⟩ = some (.int .i64 x285002_2) := (blk_cell BK284.out 2).trans rfl
             have hcz32_3 : wr.cell? ⟨gb284, 3, none⟩ = some (.slice none 0 0) := (blk_cell BK284.out 3).trans rfl
             have hfz32_0 := blk_frozen BK284.out 0
             have hfz32_1 := blk_frozen BK284.out 1
             have hfz32_2 := blk_frozen BK284.out 2
             have hfz32_3 := blk_frozen BK284.out 3
             go_wp2
             refine bodyPost_ret (results_ct rfl _ _ gb284 24 #[.int .i64 0, .int .i64 0, .int .i64 0, .slice none 0 0] (0, 0) _ rfl (by (with_reducible repeat (first | refine blk_drewN ?_ _ | refine blk_drew ?_ | refine blk_alloc ?_ _)); refine blk_put (cs := #[.int .i64 0, .int .i64 0, .int .i64 0, .slice none 0 0]) ?_ 3 _ rfl; (with_reducible repeat (first | refine blk_drewN ?_ _ | refine blk_drew ?_ | refine blk_alloc ?_ _)); refine blk_put (cs := #[.int .i64 0, .int .i64 0, .int .i64 x285002_2, .slice none 0 0]) ?_ 2 _ rfl; (with_reducible repeat (first | refine blk_drewN ?_ _ | refine blk_drew ?_ | refine blk_alloc ?_ _)); refine blk_put (cs := #[.int .i64 0, .int .i64 x285001_2, .int .i64 x285002_2, .slice none 0 0]) ?_ 1 _ rfl; (with_reducible repeat (first | refine blk_drewN ?_ _ | refine blk_drew ?_ | refine blk_alloc ?_ _)); refine blk_put (cs := #[.int .i64 x285000_2, .int .i64 x285001_2, .int .i64 x285002_2, .slice none 0 0]) ?_ 0 _ rfl; (with_reducible repeat (first | refine blk_drewN ?_ _ | refine blk_drew ?_ | refine blk_alloc ?_ _)); exact BK284.out) Try.underlying24 rfl (by kernel_rfl)) rfl ?_
             exact ⟨_, by first | rfl | (simp [errW_none, errW_some] <;> rfl) | (simp only [← hji24]; first | rfl | (simp [errW_none, errW_some] <;> rfl)) | (simp [*, errW_none, errW_some] <;> rfl), by first | exact Kd.R_nil _ _ _ _ _ | exact Kd.N_nil _ _ _ _ _ | exact Kd.V_nil _ _ _ _ _ | exact Kd.Q_nil _ _ _ _ _ | exact Kd.S_nil _ _ _ _ _, by repeat (first | (with_reducible first | exact HB.out | apply below_alloc | apply pw_below_drewN | apply below_drew1 | refine below_set ?_ GE284.out | refine below_set ?_ GE291.out) | exact HB.out)⟩
            ·rw [if_neg c30] at H
             have c30b0 : decide (1099511627776 < (rd t285 (ji24))) = false := decide_eq_false c30
             clear c30
             by_cases c33 : 0 ≤ x7_2
             ·rw [if_pos c33] at H
              have c33b0 : decide (0 ≤ x7_2) = true := decide_eq_true c33
              clear c33
              by_cases c34 : x292003_2.length < 8796093022208
              ·rw [if_pos c34] at H
               have LMc34 := Aside0.mk c34
               clear c34
               obtain ⟨y296, hy296⟩ : ∃ y_ : List (S63), y_ = (x292003_2 ++ [(⟨rd t285 x7_2, rd t285 (ji24)⟩ : S63)]) := ⟨_, rfl⟩
               replace H : (qdigest_Decode.l0 k2 t285 (wrap64 (x7_2 + 2)) (rd t285 0) (rd t285 1) (wrap64 (x292002_2 + (rd t285 (ji24)))) y296) = some (r1, r2, r3, r4, r5) := by first | (rw [hy296]; with_reducible exact H) | (have H2_ := (Option.bind_some _ _).symm.trans H; rw [hy296]; with_reducible exact H2_) | (have H2_ := (Option.bind_some _ _).symm.trans H; with_reducible exact H2_) | with_reducible exact H | (rw [hy296]; exact H) | exact H
               have Ny296 := Aside0.mk hy296
               clear hy296
               have H' := Aside0.mk H
               clear H
               have p292 : 0 ≤ ((ji24) : Int) := of_decide_eq_true (by first | (with_reducible assumption) | assumption)
               have q292 : (ji24) < (t285.length : Int) := of_decide_eq_true (by first | (with_reducible assumption) | assumption)
               obtain ⟨ad292, e292, hx292_0⟩ := Kd.at_int (Kd.R_reads' HO_4.out).2.2 (ji24) p292 q292
               obtain rfl : ad289 = ad292 := (by injection e292)
               replace p292 := eq_true p292
               replace q292 := eq_true q292
               have p293 : 0 ≤ ((ji24) : Int) := of_decide_eq_true (by first | (with_reducible assumption) | assumption)
               have q293 : (ji24) < (t285.length : Int) := of_decide_eq_true (by first | (with_reducible assumption) | assumption)
               obtain ⟨ad293, e293, hx293_0⟩ := Kd.at_int (Kd.R_reads' HO_4.out).2.2 (ji24) p293 q293
               obtain rfl : ad289 = ad293 := (by injection e293)
               replace p293 := eq_true p293
               replace q293 := eq_true q293
               try go_wp2
               have n0_ := Aside0.mk (Kd.R_drew HO_4.out)
               have n1_ := Aside0.mk (Kd.R_drew HO_292003.out)
               have n2_ := Aside0.mk (blk_drew BK284.out)
               have n3_ := Aside0.mk (blk_drew BK291.out)
               have n4_ := Aside0.mk (below_drew1 HB.out)
               clear HO_4
               clear HO_292003
               clear BK284
               clear BK291
               clear HB
               have HO_4 := n0_
               have HO_292003 := n1_
               have BK284 := n2_
               have BK291 := n3_
               have HB := n4_
               clear n0_ n1_ n2_ n3_ n4_
               have p294 : 0 ≤ (x7_2 : Int) := of_decide_eq_true (by first | (with_reducible assumption) | assumption)
               have q294 : x7_2 < (t285.length : Int) := of_decide_eq_true (by first | (with_reducible assumption) | assumption)
               obtain ⟨ad294, e294, hx294_0⟩ := Kd.at_int (Kd.R_reads' HO_4.out).2.2 x7_2 p294 q294
               obtain rfl : ad289 = ad294 := (by injection e294)
               replace p294 := eq_true p294
               replace q294 := eq_true q294
               have p295 : 0 ≤ ((ji24) : Int) := of_decide_eq_true (by first | (with_reducible assumption) | assumption)
               have q295 : (ji24) < (t285.length : Int) := of_decide_eq_true (by first | (with_reducible assumption) | assumption)
               obtain ⟨ad295, e295, hx295_0⟩ := Kd.at_int (Kd.R_reads' HO_4.out).2.2 (ji24) p295 q295
               obtain rfl : ad289 = ad295 := (by injection e295)
               replace p295 := eq_true p295
               replace q295 := eq_true q295
               refine start_ (n := 16) (S := fun w' => w'.cell? ⟨gb291, 0, none⟩ = some (.int .i64 (rd t285 0)) ∧ w'.cell? ⟨gb291, 1, none⟩ = some (.int .i64 (rd t285 1)) ∧ w'.cell? ⟨gb291, 2, none⟩ = some (.int .i64 x292002_2) ∧ w'.cell? ⟨gb291, 3, none⟩ = some (u292003) ∧ w'.cell? (ad289.add (x7_2).toNat) = some (.int .i64 (rd t285 x7_2)) ∧ w'.cell? (ad289.add ((ji24)).toNat) = some (.int .i64 (rd t285 (ji24)))) (ds := [13, 15]) #[false, false, false, false, false, false, false, false, false, false, false, false, false, false, false, false] (by kernel_rfl) rfl rfl ⟨(blk_cell BK291.out 0).trans rfl, (blk_cell BK291.out 1).trans rfl, (blk_cell BK291.out 2).trans rfl, (blk_cell BK291.out 3).trans rfl, hx294_0, hx295_0⟩ (fun hHeld => ?_); refine with_tabW qdigest_Decode.tab10 qdigest_Decode.bits10 (fun HT_ HW_ => ?_)
               generalize wr.drew = w35 at HO_4 HO_292003 BK284 BK291 HB hx294_0 hx295_0 hHeld ⊢
               refine pure_ (i := 0) (N := some 60) (v := ?_) (a' := ?_) #[true, false, false, false, false, false, false, false, false, false, false, false, false, false, false, false] rfl rfl (any_of HT_.out (by kernel_rfl)) (fun _ _ _ h => h) (Or.inl ⟨by rfl, ?_⟩) ?_ ?_
               rotate_left
               ·intro w'
                go_simp
                with_reducible rfl
               rotate_left
               ·simp only [Act.put, List.setIfInBounds_toArray, List.set_cons_zero, List.set_cons_succ, i64_w, i32_w]
                rfl
               refine pure_ (i := 2) (N := some 62) (v := ?_) (a' := ?_) #[true, false, true, false, false, false, false, false, false, false, false, false, false, false, false, false] rfl rfl (any_of HT_.out (by kernel_rfl)) (fun _ _ _ h => h) (Or.inl ⟨by rfl, ?_⟩) ?_ ?_
               rotate_left
               ·intro w'
                go_simp
                with_reducible rfl
               rotate_left
               ·simp only [Act.put, List.setIfInBounds_toArray, List.set_cons_zero, List.set_cons_succ, i64_w, i32_w]
                rfl
               refine pure_ (i := 3) (N := some 63) (v := ?_) (a' := ?_) #[true, false, true, true, false, false, false, false, false, false, false, false, false, false, false, false] rfl rfl (any_of HT_.out (by kernel_rfl)) (fun _ _ _ h => h) (Or.inl ⟨by rfl, ?_⟩) ?_ ?_
               rotate_left
               ·intro w'
                go_simp
                with_reducible rfl
               rotate_left
               ·simp only [Act.put, List.setIfInBounds_toArray, List.set_cons_zero, List.set_cons_succ, i64_w, i32_w]
                rfl
               refine pure_ (i := 4) (N := some 64) (v := ?_) (a' := ?_) #[true, false, true, true, true, false, false, false, false, false, false, false, false, false, false, false] rfl rfl (any_of HT_.out (by kernel_rfl)) (fun _ _ _ h => h) (Or.inl ⟨by rfl, ?_⟩) ?_ ?_
               rotate_left
               ·intro w'
                go_simp
                with_reducible rfl
               rotate_left
               ·simp only [Act.put, List.setIfInBounds_toArray, List.set_cons_zero, List.set_cons_succ, i64_w, i32_w]
                rfl
               refine pure_ (i := 6) (N := some 66) (v := ?_) (a' := ?_) #[true, false, true, true, true, false, true, false, false, false, false, false, false, false, false, false] rfl rfl (any_of HT_.out (by kernel_rfl)) (fun _ _ _ h => h) (Or.inl ⟨by rfl, ?_⟩) ?_ ?_
               rotate_left
               ·intro w'
                go_simp
                with_reducible rfl
               rotate_left
               ·simp only [Act.put, List.setIfInBounds_toArray, List.set_cons_zero, List.set_cons_succ, i64_w, i32_w]
                rfl
               refine pure_ (i := 7) (N := some 67) (v := ?_) (a' := ?_) #[true, false, true, true, true, false, true, true, false, false, false, false, false, false, false, false] rfl rfl (any_of HT_.out (by kernel_rfl)) (fun _ _ _ h => h) (Or.inl ⟨by rfl, ?_⟩) ?_ ?_
               rotate_left
               ·intro w'
                go_simp
                with_reducible rfl
               rotate_left
               ·simp only [Act.put, List.setIfInBounds_toArray, List.set_cons_zero, List.set_cons_succ, i64_w, i32_w]
                rfl
               refine pure_ (i := 8) (N := some 68) (v := ?_) (a' := ?_) #[true, false, true, true, true, false, true, true, true, false, false, false, false, false, false, false] rfl rfl (any_of HT_.out (by kernel_rfl)) (fun _ _ _ h => h) (Or.inl ⟨by rfl, ?_⟩) ?_ ?_
               rotate_left
               ·intro w'
                go_simp
                with_reducible rfl
               rotate_left
               ·simp only [Act.put, List.setIfInBounds_toArray, List.set_cons_zero, List.set_cons_succ, i64_w, i32_w]
                rfl
               refine pure_ (i := 9) (N := some 69) (v := ?_) (a' := ?_) #[true, false, true, true, true, false, true, true, true, true, false, false, false, false, false, false] rfl rfl (any_of HT_.out (by kernel_rfl)) (fun _ _ _ h => h) (Or.inl ⟨by rfl, ?_⟩) ?_ ?_
               rotate_left
               ·intro w'
                go_simp
                with_reducible rfl
               rotate_left
               ·simp only [Act.put, List.setIfInBounds_toArray, List.set_cons_zero, List.set_cons_succ, i64_w, i32_w]
                rfl
               refine take_ (i := 1) (N := some 61) (v := ?_) (a' := ?_) #[true, true, true, true, true, false, true, true, true, true, false, false, false, false, false, false] rfl rfl (take_ofW HT_.out HW_.out (by kernel_rfl)) (fun _ _ _ h => h) (Or.inl ⟨by rfl, ?_⟩) hHeld ?_ ?_
               rotate_left
               ·rintro w' ⟨s0, s1, s2, s3, s4, s5⟩
                go_simp
                with_reducible rfl
               rotate_left
               ·simp only [Act.put, List.setIfInBounds_toArray, List.set_cons_zero, List.set_cons_succ, i64_w, i32_w]
                rfl
               refine take_ (i := 5) (N := some 65) (v := ?_) (a' := ?_) #[true, true, true, true, true, true, true, true, true, true, false, false, false, false, false, false] rfl rfl (take_ofW HT_.out HW_.out (by kernel_rfl)) (fun _ _ _ h => h) (Or.inl ⟨by rfl, ?_⟩) hHeld ?_ ?_
               rotate_left
               ·rintro w' ⟨s0, s1, s2, s3, s4, s5⟩
                go_simp
                with_reducible rfl
               rotate_left
               ·simp only [Act.put, List.setIfInBounds_toArray, List.set_cons_zero, List.set_cons_succ, i64_w, i32_w]
                rfl
               refine take_ (i := 10) (N := some 70) (v := ?_) (a' := ?_) #[true, true, true, true, true, true, true, true, true, true, true, false, false, false, false, false] rfl rfl (take_ofW HT_.out HW_.out (by kernel_rfl)) (fun _ _ _ h => h) (Or.inl ⟨by rfl, ?_⟩) hHeld ?_ ?_
               rotate_left
               ·rintro w' ⟨s0, s1, s2, s3, s4, s5⟩
                go_simp
                with_reducible rfl
               rotate_left
               ·simp only [Act.put, List.setIfInBounds_toArray, List.set_cons_zero, List.set_cons_succ, i64_w, i32_w]
                rfl
               refine pure_ (i := 11) (N := some 71) (v := ?_) (a' := ?_) #[true, true, true, true, true, true, true, true, true, true, true, true, false, false, false, false] rfl rfl (any_of HT_.out (by kernel_rfl)) (fun _ _ _ h => h) (Or.inl ⟨by rfl, ?_⟩) ?_ ?_
               rotate_left
               ·intro w'
                go_simp
                with_reducible rfl
               rotate_left
               ·simp only [Act.put, List.setIfInBounds_toArray, List.set_cons_zero, List.set_cons_succ, i64_w, i32_w]
                rfl
               refine one_ (i := 12) (N := some 72) #[true, true, true, true, true, true, true, true, true, true, true, true, true, false, false, false] rfl rfl (one_of HT_.out (by kernel_rfl)) (by decide) (fun K hK => ?_)
               refine value_ (w1 := ?_) (v := ?_) (by rfl) rfl ?_ ?_
               rotate_left 2
               ·go_simp
                constructor
                ·rfl
                ·rfl
               refine hK.out _ _ ⟨(blk_cell (blk_alloc BK291.out _) 0).trans rfl, (blk_cell (blk_alloc BK291.out _) 1).trans rfl, (blk_cell (blk_alloc BK291.out _) 2).trans rfl, (blk_cell (blk_alloc BK291.out _) 3).trans rfl, (World.cell?_alloc_lt _ _ _ (World.block_lt_of_cell? _ _ (hHeld.2.2.2.2.1))).trans (hHeld.2.2.2.2.1), (World.cell?_alloc_lt _ _ _ (World.block_lt_of_cell? _ _ (hHeld.2.2.2.2.2))).trans (hHeld.2.2.2.2.2)⟩ (fun hHeld => ?_)
               clear hK K
               refine norm_ (a' := ?_) ?_ ?_
               rotate_left
               ·show Act.put _ (some 72) _ = _
                simp only [Act.put, List.setIfInBounds_toArray, List.set_cons_zero, List.set_cons_succ, i64_w, i32_w]
                rfl
               refine last_ (i := 13) (N := some 73) #[true, true, true, true, true, true, true, true, true, true, true, true, true, true, false, false] rfl rfl (one_of HT_.out (by kernel_rfl)) (by decide) (fun K hK => ?_)
               refine Kd.R_append_step k63 (w0 := w) w.heap.size (by rfl) (.tmp 61) (.tmp 72) 22 63 (.agg #[(.int .i64 0), (.int .i64 0)]) 16 rfl Try.underlying22 info63 rfl (by decide) (by omega) u292003 x292003_2 (⟨rd t285 x7_2, rd t285 (ji24)⟩ : S63) [.int .i64 (rd t285 x7_2), .int .i64 (rd t285 (ji24))] (fun _ => True) (fun _ => False) rfl rfl ?aP (fun _ hk => hk.elim) ?aF ?aO ?aB ?aS ?aL ?_
               (case aP => exact k63_mkM _ _ _ (⟨rd t285 x7_2, rd t285 (ji24)⟩ : S63))
               (case aB => exact (by repeat (first | (with_reducible first | exact HB.out | apply below_alloc | apply pw_below_drewN | apply below_drew1 | refine below_set ?_ GE284.out | refine below_set ?_ GE291.out) | exact HB.out)))
               (case aF => exact (fun _ _ => trivial))
               (case aO => exact (by (with_reducible repeat (first | apply Kd.R_alloc | apply Kd.R_drewN | apply Kd.R_drew)); exact HO_292003.out))
               (case aS => exact (below_size (by repeat (first | (with_reducible first | exact HB.out | apply below_alloc | apply pw_below_drewN | apply below_drew1 | refine below_set ?_ GE284.out | refine below_set ?_ GE291.out) | exact HB.out))))
               (case aL => have := LMc34.out; omega)
               intro v297 w36 ho hb hg hat
               rw [← Ny296.out] at ho
               have n0_ := Aside0.mk (Kd.R_over' (by (with_reducible repeat (first | apply Kd.R_alloc | apply Kd.R_drewN | apply Kd.R_drew)); exact HO_4.out) (Kd.R_typed (by (with_reducible repeat (first | apply Kd.R_alloc | apply Kd.R_drewN | apply Kd.R_drew)); exact HO_292003.out)) (by decide) hg)
               have n1_ := Aside0.mk (blk_grown (g := gb284) (o := .cells #[.int .i64 x285000_2, .int .i64 x285001_2, .int .i64 x285002_2, .slice none 0 0] 24 (0, 0)) (by (with_reducible repeat (first | refine blk_drewN ?_ _ | refine blk_drew ?_ | refine blk_alloc ?_ _)); exact BK284.out) hg (Kd.R_ne HO_292003.out BK284.out (by decide)))
               have n2_ := Aside0.mk (blk_grown (g := gb291) (o := .cells #[.int .i64 (rd t285 0), .int .i64 (rd t285 1), .int .i64 x292002_2, u292003] 24 (0, 0)) (by (with_reducible repeat (first | refine blk_drewN ?_ _ | refine blk_drew ?_ | refine blk_alloc ?_ _)); exact BK291.out) hg (Kd.R_ne HO_292003.out BK291.out (by decide)))
               have n3_ := Aside0.mk (hb)
               have n4_ := Aside0.mk (ho)
               clear HO_4
               clear BK284
               clear BK291
               clear HB
               clear HO_292003
               have HO_4 := n0_
               have BK284 := n1_
               have BK291 := n2_
               have HB := n3_
               have HO298 := n4_
               clear n0_ n1_ n2_ n3_ n4_
               clear ho hb hg hat
               obtain ⟨Ao37, co37, eo37⟩ := Kd.R_slice HO298.out
               (first | subst eo37 | (injection eo37 with f1_ f2_ f3_; have f4_ := f1_.symm; have f5_ := f3_.symm; clear f1_ f2_ f3_; subst f4_; subst f5_))
               refine hK.out _ _ ?_
               clear hK K
               refine norm_ (a' := ?_) ?_ ?_
               rotate_left
               ·show Act.put _ (some 73) _ = _
                simp only [Act.put, List.setIfInBounds_toArray, List.set_cons_zero, List.set_cons_succ, i64_w, i32_w]
                rfl
               refine pure_ (i := 14) (N := some 74) (v := ?_) (a' := ?_) #[true, true, true, true, true, true, true, true, true, true, true, true, true, true, true, false] rfl rfl (any_of HT_.out (by kernel_rfl)) (fun _ _ _ h => h) (Or.inl ⟨by rfl, ?_⟩) ?_ ?_
               rotate_left
               ·intro w'
                go_simp
                with_reducible rfl
               rotate_left
               ·simp only [Act.put, List.setIfInBounds_toArray, List.set_cons_zero, List.set_cons_succ, i64_w, i32_w]
                rfl
               refine last_ (i := 15) (N := none) #[true, true, true, true, true, true, true, true, true, true, true, true, true, true, true, true] rfl rfl (one_of HT_.out (by kernel_rfl)) (by decide) (fun K hK => ?_)
               have hs38 : w36.cell? ⟨gb291, 3, none⟩ = some (u292003) := (blk_cell BK291.out 3).trans rfl
               have hfs38 := blk_frozen BK291.out 3
               have hns38_0 := NB284_291.out
               have hms38_0 := NB291_284.out
               refine skip_ (w1 := ?_) (by rfl) rfl ?_ ?_
               rotate_left
               ·go_simp
                rfl
               refine hK.out _ _ ?_
               clear hK K
               refine done_ (done_of HT_.out (by kernel_rfl)) ?_
               try go_wp2
               have n0_ : Aside0 (Kd.R (Kd.int .i64) 3 (w36.setCell ⟨gb291, 3, none⟩ (.slice Ao37 y296.length co37)) w.heap.size (fun _ => True) (.slice (some ad289) t285.length co17) t285) := ⟨by (with_reducible repeat (first | apply Kd.R_alloc | apply Kd.R_drewN | apply Kd.R_drew)); exact Kd.R_mono (Kd.R_far (p := ⟨gb291, 3, none⟩) (Kd.R_types HO_4.out BK291.out (by decide)) (fun _ hk => hk.2) (.slice Ao37 y296.length co37)) (fun _ hk => trivial)⟩
               have n1_ : Aside0 (Kd.R k63 63 (w36.setCell ⟨gb291, 3, none⟩ (.slice Ao37 y296.length co37)) w.heap.size (fun _ => True) (.slice Ao37 y296.length co37) y296) := ⟨by (with_reducible repeat (first | apply Kd.R_alloc | apply Kd.R_drewN | apply Kd.R_drew)); exact Kd.R_mono (Kd.R_far (p := ⟨gb291, 3, none⟩) (Kd.R_types HO298.out BK291.out (by decide)) (fun _ hk => hk.2) (.slice Ao37 y296.length co37)) (fun _ hk => trivial)⟩
               have n2_ : Aside0 ((w36.setCell ⟨gb291, 3, none⟩ (.slice Ao37 y296.length co37)).heap[gb284]? = some (.cells #[.int .i64 x285000_2, .int .i64 x285001_2, .int .i64 x285002_2, .slice none 0 0] 24 (0, 0))) := ⟨by (with_reducible repeat (first | refine blk_drewN ?_ _ | refine blk_drew ?_ | refine blk_alloc ?_ _)); refine blk_far ?_ NB284_291.out _; (with_reducible repeat (first | refine blk_drewN ?_ _ | refine blk_drew ?_ | refine blk_alloc ?_ _)); exact BK284.out⟩
               have n3_ : Aside0 ((w36.setCell ⟨gb291, 3, none⟩ (.slice Ao37 y296.length co37)).heap[gb291]? = some (.cells #[.int .i64 (rd t285 0), .int .i64 (rd t285 1), .int .i64 x292002_2, .slice Ao37 y296.length co37] 24 (0, 0))) := ⟨by (with_reducible repeat (first | refine blk_drewN ?_ _ | refine blk_drew ?_ | refine blk_alloc ?_ _)); refine blk_put (cs := #[.int .i64 (rd t285 0), .int .i64 (rd t285 1), .int .i64 x292002_2, u292003]) ?_ 3 _ rfl; (with_reducible repeat (first | refine blk_drewN ?_ _ | refine blk_drew ?_ | refine blk_alloc ?_ _)); exact BK291.out⟩
               have n4_ : Aside0 (Below w.heap.size w (w36.setCell ⟨gb291, 3, none⟩ (.slice Ao37 y296.length co37))) := ⟨by repeat (first | (with_reducible first | exact HB.out | apply below_alloc | apply pw_below_drewN | apply below_drew1 | refine below_set ?_ GE284.out | refine below_set ?_ GE291.out) | exact HB.out)⟩
               (try clear HO_4)
               (try clear HO298)
               (try clear BK284)
               (try clear BK291)
               (try clear HB)
               generalize (w36.setCell ⟨gb291, 3, none⟩ (.slice Ao37 y296.length co37)) = w39 at n0_ n1_ n2_ n3_ n4_ ⊢
               have HO_4 := n0_
               have HO298 := n1_
               have BK284 := n2_
               have BK291 := n3_
               have HB := n4_
               clear n0_ n1_ n2_ n3_ n4_
               have n0_ := Aside0.mk (Kd.R_drew HO_4.out)
               have n1_ := Aside0.mk (Kd.R_drew HO298.out)
               have n2_ := Aside0.mk (blk_drew BK284.out)
               have n3_ := Aside0.mk (blk_drew BK291.out)
               have n4_ := Aside0.mk (below_drew1 HB.out)
               clear HO_4
               clear HO298
               clear BK284
               clear BK291
               clear HB
               have HO_4 := n0_
               have HO298 := n1_
               have BK284 := n2_
               have BK291 := n3_
               have HB := n4_
               clear n0_ n1_ n2_ n3_ n4_
               have p299 : 0 ≤ ((ji24) : Int) := of_decide_eq_true (by first | (with_reducible assumption) | assumption)
               have q299 : (ji24) < (t285.length : Int) := of_decide_eq_true (by first | (with_reducible assumption) | assumption)
               obtain ⟨ad299, e299, hx299_0⟩ := Kd.at_int (Kd.R_reads' HO_4.out).2.2 (ji24) p299 q299
               obtain rfl : ad289 = ad299 := (by injection e299)
               replace p299 := eq_true p299
               replace q299 := eq_true q299
               refine start_ (n := 10) (S := fun w' => w'.cell? ⟨gb291, 0, none⟩ = some (.int .i64 (rd t285 0)) ∧ w'.cell? ⟨gb291, 1, none⟩ = some (.int .i64 (rd t285 1)) ∧ w'.cell? ⟨gb291, 2, none⟩ = some (.int .i64 x292002_2) ∧ w'.cell? ⟨gb291, 3, none⟩ = some (.slice Ao37 y296.length co37) ∧ w'.cell? (ad289.add ((ji24)).toNat) = some (.int .i64 (rd t285 (ji24)))) (ds := [9]) #[false, false, false, false, false, false, false, false, false, false] (by kernel_rfl) rfl rfl ⟨(blk_cell BK291.out 0).trans rfl, (blk_cell BK291.out 1).trans rfl, (blk_cell BK291.out 2).trans rfl, (blk_cell BK291.out 3).trans rfl, hx299_0⟩ (fun hHeld => ?_); refine with_tabW qdigest_Decode.tab11 qdigest_Decode.bits11 (fun HT_ HW_ => ?_)
               generalize w39.drew = w40 at HO_4 HO298 BK284 BK291 HB hx299_0 hHeld ⊢
               refine pure_ (i := 0) (N := some 75) (v := ?_) (a' := ?_) #[true, false, false, false, false, false, false, false, false, false] rfl rfl (any_of HT_.out (by kernel_rfl)) (fun _ _ _ h => h) (Or.inl ⟨by rfl, ?_⟩) ?_ ?_
               rotate_left
               ·intro w'
                go_simp
                with_reducible rfl
               rotate_left
               ·simp only [Act.put, List.setIfInBounds_toArray, List.set_cons_zero, List.set_cons_succ, i64_w, i32_w]
                rfl
               refine pure_ (i := 2) (N := some 77) (v := ?_) (a' := ?_) #[true, false, true, false, false, false, false, false, false, false] rfl rfl (any_of HT_.out (by kernel_rfl)) (fun _ _ _ h => h) (Or.inl ⟨by rfl, ?_⟩) ?_ ?_
               rotate_left
               ·intro w'
                go_simp
                with_reducible rfl
               rotate_left
               ·simp only [Act.put, List.setIfInBounds_toArray, List.set_cons_zero, List.set_cons_succ, i64_w, i32_w]
                rfl
               refine pure_ (i := 3) (N := some 78) (v := ?_) (a' := ?_) #[true, false, true, true, false, false, false, false, false, false] rfl rfl (any_of HT_.out (by kernel_rfl)) (fun _ _ _ h => h) (Or.inl ⟨by rfl, ?_⟩) ?_ ?_
               rotate_left
               ·intro w'
                go_simp
                with_reducible rfl
               rotate_left
               ·simp only [Act.put, List.setIfInBounds_toArray, List.set_cons_zero, List.set_cons_succ, i64_w, i32_w]
                rfl
               refine pure_ (i := 4) (N := some 79) (v := ?_) (a' := ?_) #[true, false, true, true, true, false, false, false, false, false] rfl rfl (any_of HT_.out (by kernel_rfl)) (fun _ _ _ h => h) (Or.inl ⟨by rfl, ?_⟩) ?_ ?_
               rotate_left
               ·intro w'
                go_simp
                with_reducible rfl
               rotate_left
               ·simp only [Act.put, List.setIfInBounds_toArray, List.set_cons_zero, List.set_cons_succ, i64_w, i32_w]
                rfl
               refine pure_ (i := 5) (N := some 80) (v := ?_) (a' := ?_) #[true, false, true, true, true, true, false, false, false, false] rfl rfl (any_of HT_.out (by kernel_rfl)) (fun _ _ _ h => h) (Or.inl ⟨by rfl, ?_⟩) ?_ ?_
               rotate_left
               ·intro w'
                go_simp
                with_reducible rfl
               rotate_left
               ·simp only [Act.put, List.setIfInBounds_toArray, List.set_cons_zero, List.set_cons_succ, i64_w, i32_w]
                rfl
               refine take_ (i := 1) (N := some 76) (v := ?_) (a' := ?_) #[true, true, true, true, true, true, false, false, false, false] rfl rfl (take_ofW HT_.out HW_.out (by kernel_rfl)) (fun _ _ _ h => h) (Or.inl ⟨by rfl, ?_⟩) hHeld ?_ ?_
               rotate_left
               ·rintro w' ⟨s0, s1, s2, s3, s4⟩
                go_simp
                with_reducible rfl
               rotate_left
               ·simp only [Act.put, List.setIfInBounds_toArray, List.set_cons_zero, List.set_cons_succ, i64_w, i32_w]
                rfl
               refine take_ (i := 6) (N := some 81) (v := ?_) (a' := ?_) #[true, true, true, true, true, true, true, false, false, false] rfl rfl (take_ofW HT_.out HW_.out (by kernel_rfl)) (fun _ _ _ h => h) (Or.inl ⟨by rfl, ?_⟩) hHeld ?_ ?_
               rotate_left
               ·rintro w' ⟨s0, s1, s2, s3, s4⟩
                go_simp
                with_reducible rfl
               rotate_left
               ·simp only [Act.put, List.setIfInBounds_toArray, List.set_cons_zero, List.set_cons_succ, i64_w, i32_w]
                rfl
               refine pure_ (i := 7) (N := some 82) (v := ?_) (a' := ?_) #[true, true, true, true, true, true, true, true, false, false] rfl rfl (any_of HT_.out (by kernel_rfl)) (fun _ _ _ h => h) (Or.inl ⟨by rfl, ?_⟩) ?_ ?_
               rotate_left
               ·intro w'
                go_simp
                with_reducible rfl
               rotate_left
               ·simp only [Act.put, List.setIfInBounds_toArray, List.set_cons_zero, List.set_cons_succ, i64_w, i32_w]
                rfl
               refine pure_ (i := 8) (N := some 83) (v := ?_) (a' := ?_) #[true, true, true, true, true, true, true, true, true, false] rfl rfl (any_of HT_.out (by kernel_rfl)) (fun _ _ _ h => h) (Or.inl ⟨by rfl, ?_⟩) ?_ ?_
               rotate_left
               ·intro w'
                go_simp
                with_reducible rfl
               rotate_left
               ·simp only [Act.put, List.setIfInBounds_toArray, List.set_cons_zero, List.set_cons_succ, i64_w, i32_w]
                rfl
               refine last_ (i := 9) (N := none) #[true, true, true, true, true, true, true, true, true, true] rfl rfl (one_of HT_.out (by kernel_rfl)) (by decide) (fun K hK => ?_)
               have hs41 : w40.cell? ⟨gb291, 2, none⟩ = some (.int .i64 x292002_2) := (blk_cell BK291.out 2).trans rfl
               have hfs41 := blk_frozen BK291.out 2
               have hns41_0 := NB284_291.out
               have hms41_0 := NB291_284.out
               refine skip_ (w1 := ?_) (by rfl) rfl ?_ ?_
               rotate_left
               ·go_simp
                rfl
               refine hK.out _ _ ?_
               clear hK K
               refine done_ (done_of HT_.out (by kernel_rfl)) ?_
               try go_wp2
               go_roundg k2
               case measure => have := HJ2.out; have := HK2.out; omega
               case rel => exact ⟨(wrap64 (x7_2 + 2)), (x285000_2), (x285001_2), (x285002_2), (wrap64 (x292002_2 + (rd t285 (ji24)))), (y296), (.slice Ao37 y296.length co37), (by first | rfl | (simp; done) | (simp [*]; done)), H', ⟨by have := HJ2.out; have := HK2.out; omega⟩, ⟨by (with_reducible repeat (first | apply Kd.R_alloc | apply Kd.R_drewN | apply Kd.R_drew)); exact Kd.R_mono (Kd.R_far (p := ⟨gb291, 2, none⟩) (Kd.R_types HO_4.out BK291.out (by decide)) (fun _ hk => hk.2) (.int .i64 (wrap64 (x292002_2 + (rd t285 (ji24)))))) (fun _ hk => trivial)⟩, ⟨by (with_reducible repeat (first | apply Kd.R_alloc | apply Kd.R_drewN | apply Kd.R_drew)); exact Kd.R_mono (Kd.R_far (p := ⟨gb291, 2, none⟩) (Kd.R_types HO298.out BK291.out (by decide)) (fun _ hk => hk.2) (.int .i64 (wrap64 (x292002_2 + (rd t285 (ji24)))))) (fun _ hk => trivial)⟩, ⟨by (with_reducible repeat (first | refine blk_drewN ?_ _ | refine blk_drew ?_ | refine blk_alloc ?_ _)); refine blk_far ?_ NB284_291.out _; (with_reducible repeat (first | refine blk_drewN ?_ _ | refine blk_drew ?_ | refine blk_alloc ?_ _)); exact BK284.out⟩, ⟨by (with_reducible repeat (first | refine blk_drewN ?_ _ | refine blk_drew ?_ | refine blk_alloc ?_ _)); refine blk_put (cs := #[.int .i64 (rd t285 0), .int .i64 (rd t285 1), .int .i64 x292002_2, .slice Ao37 y296.length co37]) ?_ 2 _ rfl; (with_reducible repeat (first | refine blk_drewN ?_ _ | refine blk_drew ?_ | refine blk_alloc ?_ _)); exact BK291.out⟩, ⟨by repeat (first | (with_reducible first | exact HB.out | apply below_alloc | apply pw_below_drewN | apply below_drew1 | refine below_set ?_ GE284.out | refine below_set ?_ GE291.out) | exact HB.out)⟩⟩
              ·rw [if_neg c34] at H
               exact absurd H (by simp)
             ·rw [if_neg c33] at H
              exact absurd H (by simp)
          ·rw [if_neg c26] at H
           exact absurd H (by simp)
         ·rw [if_neg c25] at H
          exact absurd H (by simp)
        ·rw [if_neg c23] at H
         have c23b0 : decide (x7_2 < (t285.length : Int)) = false := decide_eq_false c23
         clear c23
         replace H := Option.bind_eq_some_iff.mp H
         obtain ⟨t300, A420, H⟩ := H
         replace H : (if t300 = 0 then (some ((rd t285 0), (rd t285 1), x292002_2, x292003_2, 0)) else (some (0, 0, 0, ([] : List (S63)), 12))) = some (r1, r2, r3, r4, r5) := H
         have A42 := Aside0.mk A420
         clear A420
         by_cases c43 : t300 = 0
         ·rw [if_pos c43] at H
          have c43b0 : (t300 == 0) = true := beq_iff_eq.mpr c43
          have c43b1 : (t300 != 0) = false := bne_eq_false_iff_eq.mpr c43
          clear c43
          simp only [Option.some.injEq, Prod.mk.injEq] at H
          obtain ⟨rfl, rfl, rfl, rfl, rfl⟩ := H
          have hnb44 := NB291_284.out
          have hnc44 := NB284_291.out
          have hcz45_0 : wr.cell? ⟨gb291, 0, none⟩ = some (.int .i64 (rd t285 0)) := (blk_cell BK291.out 0).trans rfl
          have hcz45_1 : wr.cell? ⟨gb291, 1, none⟩ = some (.int .i64 (rd t285 1)) := (blk_cell BK291.out 1).trans rfl
          have hcz45_2 : wr.cell? ⟨gb291, 2, none⟩ = some (.int .i64 x292002_2) := (blk_cell BK291.out 2).trans rfl
          have hcz45_3 : wr.cell? ⟨gb291, 3, none⟩ = some (u292003) := (blk_cell BK291.out 3).trans rfl
          have hfz45_0 := blk_frozen BK291.out 0
          have hfz45_1 := blk_frozen BK291.out 1
          have hfz45_2 := blk_frozen BK291.out 2
          have hfz45_3 := blk_frozen BK291.out 3
          obtain ⟨Ao46, co46, eo46⟩ := Kd.R_slice HO_292003.out
          subst eo46
          go_wp2_with (first | ((with_reducible refine gate_callee (f := 13) rfl ?_); refine goesL_ (some 85) rfl rfl Try.func13 (by kernel_rfl) rfl #[.agg #[.int .i64 (rd t285 0), .int .i64 (rd t285 1), .int .i64 x292002_2, .slice Ao46 x292003_2.length co46]] rfl (by (try simp only [List.map_toArray, List.map_cons, List.map_nil]); first | done | rfl | (simp only [List.length_drop, List.length_take]; rfl)) ?_; (with_reducible refine (qdigest_Check.calls k2 (rd t285 0) (rd t285 1) x292002_2 _ _ x292003_2 t300 _ ?side1 ?side2 A42.out).mono ?_); (case side1 => repeat (first | exact (Kd.R_reads' HO_292003.out).2.2 | (with_reducible refine Kd.C_alloc ?_ _) | (with_reducible refine Kd.C_drewN ?_ _) | (with_reducible refine Kd.C_drew ?_))); (case side2 => exact (Kd.R_reads' HO_292003.out).2.1); rintro e w47 ⟨rfl, hb⟩; refine ⟨_, rfl, ?_⟩; have n0_ := Aside0.mk (Kd.R_below (by (with_reducible repeat (first | apply Kd.R_alloc | apply Kd.R_drewN | apply Kd.R_drew)); exact HO_4.out) hb); have n1_ := Aside0.mk (Kd.R_below (by (with_reducible repeat (first | apply Kd.R_alloc | apply Kd.R_drewN | apply Kd.R_drew)); exact HO_292003.out) hb); have n2_ := Aside0.mk (blk_below (g := gb284) (o := .cells #[.int .i64 x285000_2, .int .i64 x285001_2, .int .i64 x285002_2, .slice none 0 0] 24 (0, 0)) (by (with_reducible repeat (first | refine blk_drewN ?_ _ | refine blk_drew ?_ | refine blk_alloc ?_ _)); exact BK284.out) hb); have n3_ := Aside0.mk (blk_below (g := gb291) (o := .cells #[.int .i64 (rd t285 0), .int .i64 (rd t285 1), .int .i64 x292002_2, .slice Ao46 x292003_2.length co46] 24 (0, 0)) (by (with_reducible repeat (first | refine blk_drewN ?_ _ | refine blk_drew ?_ | refine blk_alloc ?_ _)); exact BK291.out) hb); have n4_ := Aside0.mk (below_step (by repeat (first | (with_reducible first | exact HB.out | apply below_alloc | apply pw_below_drewN | apply below_drew1 | refine below_set ?_ GE284.out | refine below_set ?_ GE291.out) | exact HB.out)) hb); clear HO_4; clear HO_292003; clear BK284; clear BK291; clear HB; have HO_4 := n0_; have HO_292003 := n1_; have BK284 := n2_; have BK291 := n3_; have HB := n4_; clear n0_ n1_ n2_ n3_ n4_; (try clear hb); (try clear hb2); (try clear hk); (try clear hi); have hcz48_0 : w47.cell? ⟨gb291, 0, none⟩ = some (.int .i64 (rd t285 0)) := (blk_cell BK291.out 0).trans rfl; have hcz48_1 : w47.cell? ⟨gb291, 1, none⟩ = some (.int .i64 (rd t285 1)) := (blk_cell BK291.out 1).trans rfl; have hcz48_2 : w47.cell? ⟨gb291, 2, none⟩ = some (.int .i64 x292002_2) := (blk_cell BK291.out 2).trans rfl; have hcz48_3 : w47.cell? ⟨gb291, 3, none⟩ = some (.slice Ao46 x292003_2.length co46) := (blk_cell BK291.out 3).trans rfl; have hfz48_0 := blk_frozen BK291.out 0; have hfz48_1 := blk_frozen BK291.out 1; have hfz48_2 := blk_frozen BK291.out 2; have hfz48_3 := blk_frozen BK291.out 3; have hcz49_0 : w47.cell? ⟨gb284, 0, none⟩ = some (.int .i64 x285000_2) := (blk_cell BK284.out 0).trans rfl; have hcz49_1 : w47.cell? ⟨gb284, 1, none⟩ = some (.int .i64 x285001_2) := (blk_cell BK284.out 1).trans rfl; have hcz49_2 : w47.cell? ⟨gb284, 2, none⟩ = some (.int .i64 x285002_2) := (blk_cell BK284.out 2).trans rfl; have hcz49_3 : w47.cell? ⟨gb284, 3, none⟩ = some (.slice none 0 0) := (blk_cell BK284.out 3).trans rfl; have hfz49_0 := blk_frozen BK284.out 0; have hfz49_1 := blk_frozen BK284.out 1; have hfz49_2 := blk_frozen BK284.out 2; have hfz49_3 := blk_frozen BK284.out 3))
          refine bodyPost_ret (results_ct rfl _ _ gb284 24 #[.int .i64 (rd t285 0), .int .i64 (rd t285 1), .int .i64 x292002_2, .slice Ao46 x292003_2.length co46] (0, 0) _ rfl (by (with_reducible repeat (first | refine blk_drewN ?_ _ | refine blk_drew ?_ | refine blk_alloc ?_ _)); refine blk_put (cs := #[.int .i64 (rd t285 0), .int .i64 (rd t285 1), .int .i64 x292002_2, .slice none 0 0]) ?_ 3 _ rfl; (with_reducible repeat (first | refine blk_drewN ?_ _ | refine blk_drew ?_ | refine blk_alloc ?_ _)); refine blk_put (cs := #[.int .i64 (rd t285 0), .int .i64 (rd t285 1), .int .i64 x285002_2, .slice none 0 0]) ?_ 2 _ rfl; (with_reducible repeat (first | refine blk_drewN ?_ _ | refine blk_drew ?_ | refine blk_alloc ?_ _)); refine blk_put (cs := #[.int .i64 (rd t285 0), .int .i64 x285001_2, .int .i64 x285002_2, .slice none 0 0]) ?_ 1 _ rfl; (with_reducible repeat (first | refine blk_drewN ?_ _ | refine blk_drew ?_ | refine blk_alloc ?_ _)); refine blk_put (cs := #[.int .i64 x285000_2, .int .i64 x285001_2, .int .i64 x285002_2, .slice none 0 0]) ?_ 0 _ rfl; (with_reducible repeat (first | refine blk_drewN ?_ _ | refine blk_drew ?_ | refine blk_alloc ?_ _)); exact BK284.out) Try.underlying24 rfl (by kernel_rfl)) rfl ?_
          exact ⟨_, by first | rfl | (simp [errW_none, errW_some] <;> rfl) | (simp [*, errW_none, errW_some] <;> rfl), by (with_reducible repeat (first | apply Kd.R_alloc | apply Kd.R_drewN | apply Kd.R_drew)); exact Kd.R_mono (Kd.R_far (p := ⟨gb284, 3, none⟩) (Kd.R_far (p := ⟨gb284, 2, none⟩) (Kd.R_far (p := ⟨gb284, 1, none⟩) (Kd.R_far (p := ⟨gb284, 0, none⟩) (Kd.R_types HO_292003.out BK284.out (by decide)) (fun _ hk => hk.2) (.int .i64 (rd t285 0))) (fun _ hk => hk.2) (.int .i64 (rd t285 1))) (fun _ hk => hk.2) (.int .i64 x292002_2)) (fun _ hk => hk.2) (.slice Ao46 x292003_2.length co46)) (fun _ hk => trivial), by repeat (first | (with_reducible first | exact HB.out | apply below_alloc | apply pw_below_drewN | apply below_drew1 | refine below_set ?_ GE284.out | refine below_set ?_ GE291.out) | exact HB.out)⟩
         ·rw [if_neg c43] at H
          have c43b0 : (t300 == 0) = false := beq_eq_false_iff_ne.mpr c43
          have c43b1 : (t300 != 0) = true := bne_iff_ne.mpr c43
          simp only [Option.some.injEq, Prod.mk.injEq] at H
          obtain ⟨rfl, rfl, rfl, rfl, rfl⟩ := H
          have hnb50 := NB291_284.out
          have hnc50 := NB284_291.out
          have hcz51_0 : wr.cell? ⟨gb291, 0, none⟩ = some (.int .i64 (rd t285 0)) := (blk_cell BK291.out 0).trans rfl
          have hcz51_1 : wr.cell? ⟨gb291, 1, none⟩ = some (.int .i64 (rd t285 1)) := (blk_cell BK291.out 1).trans rfl
          have hcz51_2 : wr.cell? ⟨gb291, 2, none⟩ = some (.int .i64 x292002_2) := (blk_cell BK291.out 2).trans rfl
          have hcz51_3 : wr.cell? ⟨gb291, 3, none⟩ = some (u292003) := (blk_cell BK291.out 3).trans rfl
          have hfz51_0 := blk_frozen BK291.out 0
          have hfz51_1 := blk_frozen BK291.out 1
          have hfz51_2 := blk_frozen BK291.out 2
          have hfz51_3 := blk_frozen BK291.out 3
          obtain ⟨Ao52, co52, eo52⟩ := Kd.R_slice HO_292003.out
          subst eo52
          go_wp2_with (first | ((with_reducible refine gate_callee (f := 13) rfl ?_); refine goesL_ (some 85) rfl rfl Try.func13 (by kernel_rfl) rfl #[.agg #[.int .i64 (rd t285 0), .int .i64 (rd t285 1), .int .i64 x292002_2, .slice Ao52 x292003_2.length co52]] rfl (by (try simp only [List.map_toArray, List.map_cons, List.map_nil]); first | done | rfl | (simp only [List.length_drop, List.length_take]; rfl)) ?_; (with_reducible refine (qdigest_Check.calls k2 (rd t285 0) (rd t285 1) x292002_2 _ _ x292003_2 t300 _ ?side1 ?side2 A42.out).mono ?_); (case side1 => repeat (first | exact (Kd.R_reads' HO_292003.out).2.2 | (with_reducible refine Kd.C_alloc ?_ _) | (with_reducible refine Kd.C_drewN ?_ _) | (with_reducible refine Kd.C_drew ?_))); (case side2 => exact (Kd.R_reads' HO_292003.out).2.1); rintro e w53 ⟨rfl, hb⟩; refine ⟨_, rfl, ?_⟩; have n0_ := Aside0.mk (Kd.R_below (by (with_reducible repeat (first | apply Kd.R_alloc | apply Kd.R_drewN | apply Kd.R_drew)); exact HO_4.out) hb); have n1_ := Aside0.mk (Kd.R_below (by (with_reducible repeat (first | apply Kd.R_alloc | apply Kd.R_drewN | apply Kd.R_drew)); exact HO_292003.out) hb); have n2_ := Aside0.mk (blk_below (g := gb284) (o := .cells #[.int .i64 x285000_2, .int .i64 x285001_2, .int .i64 x285002_2, .slice none 0 0] 24 (0, 0)) (by (with_reducible repeat (first | refine blk_drewN ?_ _ | refine blk_drew ?_ | refine blk_alloc ?_ _)); exact BK284.out) hb); have n3_ := Aside0.mk (blk_below (g := gb291) (o := .cells #[.int .i64 (rd t285 0), .int .i64 (rd t285 1), .int .i64 x292002_2, .slice Ao52 x292003_2.length co52] 24 (0, 0)) (by (with_reducible repeat (first | refine blk_drewN ?_ _ | refine blk_drew ?_ | refine blk_alloc ?_ _)); exact BK291.out) hb); have n4_ := Aside0.mk (below_step (by repeat (first | (with_reducible first | exact HB.out | apply below_alloc | apply pw_below_drewN | apply below_drew1 | refine below_set ?_ GE284.out | refine below_set ?_ GE291.out) | exact HB.out)) hb); clear HO_4; clear HO_292003; clear BK284; clear BK291; clear HB; have HO_4 := n0_; have HO_292003 := n1_; have BK284 := n2_; have BK291 := n3_; have HB := n4_; clear n0_ n1_ n2_ n3_ n4_; (try clear hb); (try clear hb2); (try clear hk); (try clear hi); have hcz54_0 : w53.cell? ⟨gb284, 0, none⟩ = some (.int .i64 x285000_2) := (blk_cell BK284.out 0).trans rfl; have hcz54_1 : w53.cell? ⟨gb284, 1, none⟩ = some (.int .i64 x285001_2) := (blk_cell BK284.out 1).trans rfl; have hcz54_2 : w53.cell? ⟨gb284, 2, none⟩ = some (.int .i64 x285002_2) := (blk_cell BK284.out 2).trans rfl; have hcz54_3 : w53.cell? ⟨gb284, 3, none⟩ = some (.slice none 0 0) := (blk_cell BK284.out 3).trans rfl; have hfz54_0 := blk_frozen BK284.out 0; have hfz54_1 := blk_frozen BK284.out 1; have hfz54_2 := blk_frozen BK284.out 2; have hfz54_3 := blk_frozen BK284.out 3))
          refine bodyPost_ret (results_ct rfl _ _ gb284 24 #[.int .i64 0, .int .i64 0, .int .i64 0, .slice none 0 0] (0, 0) _ rfl (by (with_reducible repeat (first | refine blk_drewN ?_ _ | refine blk_drew ?_ | refine blk_alloc ?_ _)); refine blk_put (cs := #[.int .i64 0, .int .i64 0, .int .i64 0, .slice none 0 0]) ?_ 3 _ rfl; (with_reducible repeat (first | refine blk_drewN ?_ _ | refine blk_drew ?_ | refine blk_alloc ?_ _)); refine blk_put (cs := #[.int .i64 0, .int .i64 0, .int .i64 x285002_2, .slice none 0 0]) ?_ 2 _ rfl; (with_reducible repeat (first | refine blk_drewN ?_ _ | refine blk_drew ?_ | refine blk_alloc ?_ _)); refine blk_put (cs := #[.int .i64 0, .int .i64 x285001_2, .int .i64 x285002_2, .slice none 0 0]) ?_ 1 _ rfl; (with_reducible repeat (first | refine blk_drewN ?_ _ | refine blk_drew ?_ | refine blk_alloc ?_ _)); refine blk_put (cs := #[.int .i64 x285000_2, .int .i64 x285001_2, .int .i64 x285002_2, .slice none 0 0]) ?_ 0 _ rfl; (with_reducible repeat (first | refine blk_drewN ?_ _ | refine blk_drew ?_ | refine blk_alloc ?_ _)); exact BK284.out) Try.underlying24 rfl (by kernel_rfl)) rfl ?_
          exact ⟨_, by first | rfl | (simp [errW_none, errW_some] <;> rfl) | (simp [*, errW_none, errW_some] <;> rfl), by first | exact Kd.R_nil _ _ _ _ _ | exact Kd.N_nil _ _ _ _ _ | exact Kd.V_nil _ _ _ _ _ | exact Kd.Q_nil _ _ _ _ _ | exact Kd.S_nil _ _ _ _ _, by repeat (first | (with_reducible first | exact HB.out | apply below_alloc | apply pw_below_drewN | apply below_drew1 | refine below_set ?_ GE284.out | refine below_set ?_ GE291.out) | exact HB.out)⟩
     ·rw [if_neg c15] at H
      exact absurd H (by simp)
    ·rw [if_neg c14] at H
     exact absurd H (by simp)

end Go.Proofs.Ytcgimjoebkeifaa.PQ

/- Written by a program of this session (wip/patch_print.py): Go functions as Lean functions, each with a proof that the call does what its function says. No conditions beyond each theorem's own. -/
namespace Go.Proofs.Ytcgimjoebkeifaa.PQ
open Go.RowKit Go.Proofs.YtcgimjoebkeifaaW.PrintWords Go.Proofs.YtcgimjoebkeifaaW.PrintLast Go.Proofs.YtcgimjoebkeifaaW.PrintMore
attribute [local go_sem] max2_int min2_int max_two min_two max_three min_three max_four min_four   -- for this text's walks alone
set_option linter.unusedVariables false
set_option linter.unusedSimpArgs false

/-! ### lookoutref31_Great: function 8 -/
def lookoutref31_Great.f (a0_0 : Int) (a0_1 : Int) (a0_2 : Int) (l0_3 : List (S63)) : Option (Bool) := some (decide ((l0_3.length : Int) > 24))
set_option maxHeartbeats 8000000 in
set_option maxRecDepth 100000 in
theorem lookoutref31_Great.calls (a0_0 : Int) (a0_1 : Int) (a0_2 : Int) (A0_3 : Option Addr) (c0_3 : Nat) (l0_3 : List (S63)) (r : Bool) (w : World) (hr0_3 : Kd.C k63 w A0_3 l0_3.length l0_3) (hc0_3 : l0_3.length ≤ c0_3) (h : lookoutref31_Great.f a0_0 a0_1 a0_2 l0_3 = some r) :
  Calls Try.prog 8 #[.agg #[.int .i64 a0_0, .int .i64 a0_1, .int .i64 a0_2, .slice A0_3 l0_3.length c0_3]] w fun e w' => e = .returned (.bool r) ∧ Below w.heap.size w w' := by
 have hu24 := Try.underlying24
 have HR0_3 := Aside0.mk hr0_3
 have HC0_3 := Aside0.mk hc0_3
 clear hr0_3 hc0_3
 have HB := Aside0.mk (Below.refl w.heap.size w)
 have H : (some (decide ((l0_3.length : Int) > 24))) = some r := h
 clear h
 obtain rfl := Option.some.inj H
 go_enter Try.func8, Try.ntmps8
 go_wp2_with (first | ((with_reducible refine gate_dst (N := 1) rfl ?_); refine box_event ?hg (N := 1) ?hd (cs := #[.int .i64 a0_0, .int .i64 a0_1, .int .i64 a0_2, .slice A0_3 l0_3.length c0_3]) (t := 24) ?hr ?_; (case hd => rfl); (case hg => rfl); (case hr => first | (go_simp; done) | (go_simp; rfl)); intro gb101 hg w2 hbox hb; have n0_ := Aside0.mk (below_step (by repeat (first | (with_reducible first | exact HB.out | apply below_alloc | apply pw_below_drewN | apply below_drew1) | exact HB.out)) hb); have n1_ := Aside0.mk (hbox); have n2_ := Aside0.mk ((by rw [hg]; exact (below_size (by repeat (first | (with_reducible first | exact HB.out | apply below_alloc | apply pw_below_drewN | apply below_drew1) | exact HB.out))) : w.heap.size ≤ gb101)); have n3_ := Aside0.mk ((by rw [hg]; exact (below_size (by repeat (first | (with_reducible first | exact HB.out | apply below_alloc | apply pw_below_drewN | apply below_drew1) | exact HB.out))) : w.heap.size ≤ gb101)); clear HB; have HB := n0_; have BK101 := n1_; have GW101 := n2_; have GE101 := n3_; clear n0_ n1_ n2_ n3_; clear hb hbox hg; have hcz3_0 : w2.cell? ⟨gb101, 0, none⟩ = some (.int .i64 a0_0) := (blk_cell BK101.out 0).trans rfl; have hcz3_1 : w2.cell? ⟨gb101, 1, none⟩ = some (.int .i64 a0_1) := (blk_cell BK101.out 1).trans rfl; have hcz3_2 : w2.cell? ⟨gb101, 2, none⟩ = some (.int .i64 a0_2) := (blk_cell BK101.out 2).trans rfl; have hcz3_3 : w2.cell? ⟨gb101, 3, none⟩ = some (.slice A0_3 l0_3.length c0_3) := (blk_cell BK101.out 3).trans rfl; have hfz3_0 := blk_frozen BK101.out 0; have hfz3_1 := blk_frozen BK101.out 1; have hfz3_2 := blk_frozen BK101.out 2; have hfz3_3 := blk_frozen BK101.out 3))
 go_ret
 exact ⟨by first | rfl | (simp [errW_none, errW_some] <;> rfl) | (simp [*, errW_none, errW_some] <;> rfl), by repeat (first | (with_reducible first | exact HB.out | apply below_alloc | apply pw_below_drewN | apply below_drew1 | refine below_set ?_ GE101.out) | exact HB.out)⟩

end Go.Proofs.Ytcgimjoebkeifaa.PQ
