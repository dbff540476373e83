/- Parts of one proof, one behind the other (put together by wip/merge2.py out of: PQxf18, HeapPure, HeapA, Ord, AddA, AddB, CompPure, HeapB, HeapC, HeapD1, HeapE). No conditions beyond each theorem's own. -/
import Derived.Test.YtcgimjoebkeifaaPQx0
import Derived.RowKit
import Derived.Test.YtcgimjoebkeifaaWMore
import Derived.Test.YtcgimjoebkeifaaProg
import Derived.WalkKit
import Derived.KernelRfl
import Derived.Outline
import Derived.Deep.QuietTactic
import Derived.BigQuiet
import Derived.RegionTactic
import Derived.ChangeAlike
import Derived.WalkSmall
import Derived.Lib.Hide
import Derived.Test.YtcgimjoebkeifaaShelf
import Derived.Shelf.SlSortCmp.WholeK
import Derived.Shelf.SlicesE.Clone
import Derived.Lib.OwnBridge
import Derived.Deep.DeepAppendRoom
import Derived.Deep.LoopGhost
import Derived.Lib.Overlaps
import Derived.Laws.CopyRow
import Derived.Deep.RegionLaw
import Derived.Laws.AppendOwn
import Derived.Maps.AppendAt
import Derived.Deep.AppendLies
import Derived.OneCell
/- Written by a program of this session (wip/patch_print.py): Go functions as Lean functions, each with a proof that the call does what its function says. No conditions beyond each theorem's own. -/
namespace Go.Proofs.Ytcgimjoebkeifaa.PQ
open Go.RowKit Go.Proofs.YtcgimjoebkeifaaW.PrintWords Go.Proofs.YtcgimjoebkeifaaW.PrintLast Go.Proofs.YtcgimjoebkeifaaW.PrintMore
attribute [local go_sem] max2_int min2_int max_two min_two max_three min_three max_four min_four   -- for this text's walks alone
set_option linter.unusedVariables false
set_option linter.unusedSimpArgs false

/-! ### qdigest_New: function 18 -/
def qdigest_New.j0 : Nat → Int → Int → Bool → Option (Int × Int × Int × (List (S63)) × Int)
 | 0, _, _, _ => none
 | k + 1, x0, x1, x19 => if x19 = true then (some (0, 0, 0, ([] : List (S63)), 2)) else (some (x0, x1, 0, ([] : List (S63)), 0))
def qdigest_New.f (k : Nat) (a0 : Int) (a1 : Int) : Option (Int × Int × Int × (List (S63)) × Int) := if a0 < 1 then (qdigest_New.j0 k a0 a1 true) else (if a0 > 20 then (qdigest_New.j0 k a0 a1 true) else (if a1 < 1 then (qdigest_New.j0 k a0 a1 true) else (qdigest_New.j0 k a0 a1 (decide (a1 > 10000)))))
theorem qdigest_New.mono_l : ∀ k, (∀ y0 y1 y2, LeO (qdigest_New.j0 k y0 y1 y2) (qdigest_New.j0 (k + 1) y0 y1 y2))
 | 0 => fun _ _ _ r h => by simp [qdigest_New.j0] at h
 | k + 1 => by
  have ih0 := qdigest_New.mono_l k
  ·intro y0 y1 y2
   unfold qdigest_New.j0
   repeat' first
   | (with_reducible exact ih0 _ _ _)
   | (with_reducible exact LeO.refl _)
   | (with_reducible exact LeO.none _)
   | (with_reducible refine LeO.ite ?_ ?_)
   | (with_reducible refine LeO.bind ?_ (fun _ => ?_))
   | exact ih0 _ _ _
   | exact LeO.none _
   | refine LeO.ite ?_ ?_
   | refine LeO.bind ?_ (fun _ => ?_)
theorem qdigest_New.mono : ∀ a0 a1 k, LeO (qdigest_New.f k a0 a1) (qdigest_New.f (k + 1) a0 a1) := by
 intro a0 a1 k
 have ih0 := qdigest_New.mono_l k
 unfold qdigest_New.f
 repeat' first
   | (with_reducible exact ih0 _ _ _)
   | (with_reducible exact LeO.refl _)
   | (with_reducible exact LeO.none _)
   | (with_reducible refine LeO.ite ?_ ?_)
   | (with_reducible refine LeO.bind ?_ (fun _ => ?_))
   | exact ih0 _ _ _
   | exact LeO.none _
   | refine LeO.ite ?_ ?_
   | refine LeO.bind ?_ (fun _ => ?_)
set_option maxHeartbeats 8000000 in
set_option maxRecDepth 100000 in
theorem qdigest_New.calls (k : Nat) (a0 : Int) (a1 : Int) (r1 : Int) (r2 : Int) (r3 : Int) (r4 : List (S63)) (r5 : Int) (w : World) (h : qdigest_New.f k a0 a1 = some (r1, r2, r3, r4, r5)) :
  Calls Try.prog 18 #[.int .i64 a0, .int .i64 a1] w fun e w' => ∃ v3_ : Value, e = .returned (.tuple #[.agg #[.int .i64 r1, .int .i64 r2, .int .i64 r3, v3_], .int .i64 r5]) ∧ Kd.R k63 63 w' w.heap.size (fun _ => True) v3_ r4 ∧ Below w.heap.size w w' := by
 have hu24 := Try.underlying24
 have HB := Aside0.mk (Below.refl w.heap.size w)
 have H : (if a0 < 1 then (qdigest_New.j0 k a0 a1 true) else (if a0 > 20 then (qdigest_New.j0 k a0 a1 true) else (if a1 < 1 then (qdigest_New.j0 k a0 a1 true) else (qdigest_New.j0 k a0 a1 (decide (a1 > 10000)))))) = some (r1, r2, r3, r4, r5) := h
 clear h
 have HC3 := Aside0.mk H
 clear H
 go_enter Try.func18, Try.ntmps18
 go_upto_region 1 with (first | ((with_reducible refine gate_dst (N := 4) rfl ?_); refine box_event ?hg (N := 4) ?hd (cs := #[.int .i64 0, .int .i64 0, .int .i64 0, .slice none 0 0]) (t := 24) ?hr ?_; (case hd => rfl); (case hg => rfl); (case hr => first | (go_simp; done) | (go_simp; rfl)); intro gb125 hg w4 hbox hb; have n0_ := Aside0.mk (below_step (by repeat (first | (with_reducible first | exact HB.out | apply below_alloc | apply pw_below_drewN | apply below_drew1) | exact HB.out)) hb); have n1_ := Aside0.mk (hbox); have n2_ := Aside0.mk ((by rw [hg]; exact (below_size (by repeat (first | (with_reducible first | exact HB.out | apply below_alloc | apply pw_below_drewN | apply below_drew1) | exact HB.out))) : w.heap.size ≤ gb125)); have n3_ := Aside0.mk ((by rw [hg]; exact (below_size (by repeat (first | (with_reducible first | exact HB.out | apply below_alloc | apply pw_below_drewN | apply below_drew1) | exact HB.out))) : w.heap.size ≤ gb125)); clear HB; have HB := n0_; have BK125 := n1_; have GW125 := n2_; have GE125 := n3_; clear n0_ n1_ n2_ n3_; clear hb hbox hg))
 (try simp only [Act.put, List.setIfInBounds_toArray, List.set_cons_zero, List.set_cons_succ])
 go_cut [19] (fun v19 wc => ∃ (kq : Nat) (x19_2 : Bool), v19 = .bool x19_2 ∧ Aside0 (qdigest_New.j0 kq a0 a1 x19_2 = some (r1, r2, r3, r4, r5)) ∧ Aside0 (kq ≤ k) ∧ Aside0 (wc.heap[gb125]? = some (.cells #[.int .i64 0, .int .i64 0, .int .i64 0, (.slice none 0 0)] 24 (0, 0))) ∧ Aside0 (Below w.heap.size w wc))
 case first =>
  have H := HC3.out
  clear HC3
  by_cases c5 : a0 < 1
  ·rw [if_pos c5] at H
   have c5b0 : decide (a0 < 1) = true := decide_eq_true c5
   clear c5
   (first | rw [c5b0] | (simp only [i64_w, i32_w]; rw [c5b0]) | skip)
   have H' := Aside0.mk H
   clear H
   go_wp2
   go_meet
   case rel => exact ⟨_, (true), (by first | rfl | (simp; done) | (simp [*]; done)), H', ⟨by first | omega | exact Nat.le_refl _⟩, ⟨by (with_reducible repeat (first | refine blk_drewN ?_ _ | refine blk_drew ?_ | refine blk_alloc ?_ _)); exact BK125.out⟩, ⟨by repeat (first | (with_reducible first | exact HB.out | apply below_alloc | apply pw_below_drewN | apply below_drew1 | refine below_set ?_ GE125.out) | exact HB.out)⟩⟩
  ·rw [if_neg c5] at H
   have c5b0 : decide (a0 < 1) = false := decide_eq_false c5
   clear c5
   (first | rw [c5b0] | (simp only [i64_w, i32_w]; rw [c5b0]) | skip)
   by_cases c6 : a0 > 20
   ·rw [if_pos c6] at H
    have c6b0 : decide (20 < a0) = true := decide_eq_true c6
    clear c6
    have H' := Aside0.mk H
    clear H
    go_wp2
    go_meet
    case rel => exact ⟨_, (true), (by first | rfl | (simp; done) | (simp [*]; done)), H', ⟨by first | omega | exact Nat.le_refl _⟩, ⟨by (with_reducible repeat (first | refine blk_drewN ?_ _ | refine blk_drew ?_ | refine blk_alloc ?_ _)); exact BK125.out⟩, ⟨by repeat (first | (with_reducible first | exact HB.out | apply below_alloc | apply pw_below_drewN | apply below_drew1 | refine below_set ?_ GE125.out) | exact HB.out)⟩⟩
   ·rw [if_neg c6] at H
    have c6b0 : decide (20 < a0) = false := decide_eq_false c6
    clear c6
    by_cases c7 : a1 < 1
    ·rw [if_pos c7] at H
     have c7b0 : decide (a1 < 1) = true := decide_eq_true c7
     clear c7
     have H' := Aside0.mk H
     clear H
     go_wp2
     go_meet
     case rel => exact ⟨_, (true), (by first | rfl | (simp; done) | (simp [*]; done)), H', ⟨by first | omega | exact Nat.le_refl _⟩, ⟨by (with_reducible repeat (first | refine blk_drewN ?_ _ | refine blk_drew ?_ | refine blk_alloc ?_ _)); exact BK125.out⟩, ⟨by repeat (first | (with_reducible first | exact HB.out | apply below_alloc | apply pw_below_drewN | apply below_drew1 | refine below_set ?_ GE125.out) | exact HB.out)⟩⟩
    ·rw [if_neg c7] at H
     have c7b0 : decide (a1 < 1) = false := decide_eq_false c7
     clear c7
     have H' := Aside0.mk H
     clear H
     go_wp2
     go_meet
     case rel => exact ⟨_, (decide (a1 > 10000)), (by first | rfl | (simp; done) | (simp [*]; done)), H', ⟨by first | omega | exact Nat.le_refl _⟩, ⟨by (with_reducible repeat (first | refine blk_drewN ?_ _ | refine blk_drew ?_ | refine blk_alloc ?_ _)); exact BK125.out⟩, ⟨by repeat (first | (with_reducible first | exact HB.out | apply below_alloc | apply pw_below_drewN | apply below_drew1 | refine below_set ?_ GE125.out) | exact HB.out)⟩⟩
 case rest =>
  clear HC3
  try clear c1
  try clear p2
  try clear c5
  try clear c5b0
  try clear c6
  try clear c6b0
  try clear c7
  try clear c7b0
  obtain ⟨kq, x19_2, rfl, HA, HJ2, BK125, HB⟩ := hcut
  cases kq with
  | zero => exact absurd HA.out (by simp [qdigest_New.j0])
  | succ kj2 =>
   have H := HA.out
   clear HA
   simp only [qdigest_New.j0] at H
   by_cases c8 : x19_2 = true
   ·subst c8
    have H1 : (some (0, 0, 0, ([] : List (S63)), 2)) = some (r1, r2, r3, r4, r5) := by rw [if_pos rfl] at H; exact H
    clear H
    have H := H1
    clear H1
    simp only [Option.some.injEq, Prod.mk.injEq] at H
    obtain ⟨rfl, rfl, rfl, rfl, rfl⟩ := H
    have hcz9_0 : wc.cell? ⟨gb125, 0, none⟩ = some (.int .i64 0) := (blk_cell BK125.out 0).trans rfl
    have hcz9_1 : wc.cell? ⟨gb125, 1, none⟩ = some (.int .i64 0) := (blk_cell BK125.out 1).trans rfl
    have hcz9_2 : wc.cell? ⟨gb125, 2, none⟩ = some (.int .i64 0) := (blk_cell BK125.out 2).trans rfl
    have hcz9_3 : wc.cell? ⟨gb125, 3, none⟩ = some (.slice none 0 0) := (blk_cell BK125.out 3).trans rfl
    have hfz9_0 := blk_frozen BK125.out 0
    have hfz9_1 := blk_frozen BK125.out 1
    have hfz9_2 := blk_frozen BK125.out 2
    have hfz9_3 := blk_frozen BK125.out 3
    go_wp2
    refine bodyPost_ret (results_ct rfl _ _ gb125 24 #[.int .i64 0, .int .i64 0, .int .i64 0, .slice none 0 0] (0, 0) _ rfl (by (with_reducible repeat (first | refine blk_drewN ?_ _ | refine blk_drew ?_ | refine blk_alloc ?_ _)); refine blk_put (cs := #[.int .i64 0, .int .i64 0, .int .i64 0, .slice none 0 0]) ?_ 3 _ rfl; (with_reducible repeat (first | refine blk_drewN ?_ _ | refine blk_drew ?_ | refine blk_alloc ?_ _)); refine blk_put (cs := #[.int .i64 0, .int .i64 0, .int .i64 0, .slice none 0 0]) ?_ 2 _ rfl; (with_reducible repeat (first | refine blk_drewN ?_ _ | refine blk_drew ?_ | refine blk_alloc ?_ _)); refine blk_put (cs := #[.int .i64 0, .int .i64 0, .int .i64 0, .slice none 0 0]) ?_ 1 _ rfl; (with_reducible repeat (first | refine blk_drewN ?_ _ | refine blk_drew ?_ | refine blk_alloc ?_ _)); refine blk_put (cs := #[.int .i64 0, .int .i64 0, .int .i64 0, .slice none 0 0]) ?_ 0 _ rfl; (with_reducible repeat (first | refine blk_drewN ?_ _ | refine blk_drew ?_ | refine blk_alloc ?_ _)); exact BK125.out) Try.underlying24 rfl (by kernel_rfl)) rfl ?_
    exact ⟨_, by first | rfl | (simp [errW_none, errW_some] <;> rfl) | (simp [*, errW_none, errW_some] <;> rfl), by first | exact Kd.R_nil _ _ _ _ _ | exact Kd.N_nil _ _ _ _ _ | exact Kd.V_nil _ _ _ _ _ | exact Kd.Q_nil _ _ _ _ _ | exact Kd.S_nil _ _ _ _ _, by repeat (first | (with_reducible first | exact HB.out | apply below_alloc | apply pw_below_drewN | apply below_drew1 | refine below_set ?_ GE125.out) | exact HB.out)⟩
   ·replace c8 := Bool.eq_false_iff.mpr c8
    subst c8
    have H1 : (some (a0, a1, 0, ([] : List (S63)), 0)) = some (r1, r2, r3, r4, r5) := by rw [if_neg (show ¬ (false = true) by decide)] at H; exact H
    clear H
    have H := H1
    clear H1
    simp only [Option.some.injEq, Prod.mk.injEq] at H
    obtain ⟨rfl, rfl, rfl, rfl, rfl⟩ := H
    have hcz10_0 : wc.cell? ⟨gb125, 0, none⟩ = some (.int .i64 0) := (blk_cell BK125.out 0).trans rfl
    have hcz10_1 : wc.cell? ⟨gb125, 1, none⟩ = some (.int .i64 0) := (blk_cell BK125.out 1).trans rfl
    have hcz10_2 : wc.cell? ⟨gb125, 2, none⟩ = some (.int .i64 0) := (blk_cell BK125.out 2).trans rfl
    have hcz10_3 : wc.cell? ⟨gb125, 3, none⟩ = some (.slice none 0 0) := (blk_cell BK125.out 3).trans rfl
    have hfz10_0 := blk_frozen BK125.out 0
    have hfz10_1 := blk_frozen BK125.out 1
    have hfz10_2 := blk_frozen BK125.out 2
    have hfz10_3 := blk_frozen BK125.out 3
    go_wp2
    refine bodyPost_ret (results_ct rfl _ _ gb125 24 #[.int .i64 a0, .int .i64 a1, .int .i64 0, .slice none 0 0] (0, 0) _ rfl (by (with_reducible repeat (first | refine blk_drewN ?_ _ | refine blk_drew ?_ | refine blk_alloc ?_ _)); refine blk_put (cs := #[.int .i64 a0, .int .i64 a1, .int .i64 0, .slice none 0 0]) ?_ 3 _ rfl; (with_reducible repeat (first | refine blk_drewN ?_ _ | refine blk_drew ?_ | refine blk_alloc ?_ _)); refine blk_put (cs := #[.int .i64 a0, .int .i64 a1, .int .i64 0, .slice none 0 0]) ?_ 2 _ rfl; (with_reducible repeat (first | refine blk_drewN ?_ _ | refine blk_drew ?_ | refine blk_alloc ?_ _)); refine blk_put (cs := #[.int .i64 a0, .int .i64 0, .int .i64 0, .slice none 0 0]) ?_ 1 _ rfl; (with_reducible repeat (first | refine blk_drewN ?_ _ | refine blk_drew ?_ | refine blk_alloc ?_ _)); refine blk_put (cs := #[.int .i64 0, .int .i64 0, .int .i64 0, .slice none 0 0]) ?_ 0 _ rfl; (with_reducible repeat (first | refine blk_drewN ?_ _ | refine blk_drew ?_ | refine blk_alloc ?_ _)); exact BK125.out) Try.underlying24 rfl (by kernel_rfl)) rfl ?_
    exact ⟨_, by first | rfl | (simp [errW_none, errW_some] <;> rfl) | (simp [*, errW_none, errW_some] <;> rfl), by first | exact Kd.R_nil _ _ _ _ _ | exact Kd.N_nil _ _ _ _ _ | exact Kd.V_nil _ _ _ _ _ | exact Kd.Q_nil _ _ _ _ _ | exact Kd.S_nil _ _ _ _ _, by repeat (first | (with_reducible first | exact HB.out | apply below_alloc | apply pw_below_drewN | apply below_drew1 | refine below_set ?_ GE125.out) | exact HB.out)⟩

end Go.Proofs.Ytcgimjoebkeifaa.PQ

/- The lists that a binary heap's steps (up, down) make, as plain functions; no program in sight. No conditions. -/
namespace Go.Proofs.QHeap

def swapL (L : List Int) (i j : Nat) : List Int := (L.set i (L.getD j 0)).set j (L.getD i 0)
theorem swapL_length (L : List Int) (i j : Nat) : (swapL L i j).length = L.length := by simp [swapL]

def upL : Nat → List Int → Nat → List Int
  | 0, L, _ => L
  | k + 1, L, j => if (j - 1) / 2 = j then L else if L.getD ((j - 1) / 2) 0 < L.getD j 0 then upL k (swapL L ((j - 1) / 2) j) ((j - 1) / 2) else L
theorem upL_more : ∀ (k m : Nat) (L : List Int) (j : Nat), j < k → j < m → upL k L j = upL m L j
  | 0, _, _, _, h, _ => by omega
  | _ + 1, 0, _, _, _, h => by omega
  | k + 1, m + 1, L, j, hk, hm => by
    unfold upL
    by_cases h : (j - 1) / 2 = j
    · rw [if_pos h, if_pos h]
    · rw [if_neg h, if_neg h, upL_more k m _ _ (by omega) (by omega)]
def upF (L : List Int) (j : Nat) : List Int := upL (j + 1) L j
theorem upF_top (L : List Int) (j : Nat) (h : (j - 1) / 2 = j) : upF L j = L := by unfold upF upL; rw [if_pos h]
theorem upF_stay (L : List Int) (j : Nat) (h : ¬ L.getD ((j - 1) / 2) 0 < L.getD j 0) : upF L j = L := by
  unfold upF upL
  by_cases h0 : (j - 1) / 2 = j
  · rw [if_pos h0]
  · rw [if_neg h0, if_neg h]
theorem upF_go (L : List Int) (j : Nat) (h0 : ¬ (j - 1) / 2 = j) (h : L.getD ((j - 1) / 2) 0 < L.getD j 0) : upF L j = upF (swapL L ((j - 1) / 2) j) ((j - 1) / 2) := by
  conv => lhs; unfold upF upL
  rw [if_neg h0, if_pos h]
  exact upL_more _ _ _ _ (by omega) (by omega)
theorem upF_length (L : List Int) (j : Nat) : (upF L j).length = L.length := by
  have key : ∀ k L j, (upL k L j).length = L.length := by
    intro k
    induction k with
    | zero => intro L j; rfl
    | succ k ih =>
      intro L j
      unfold upL
      split
      · rfl
      · split
        · rw [ih, swapL_length]
        · rfl
  exact key _ _ _

/-- The greater child's place. -/
def kid (L : List Int) (i n : Nat) : Nat := if 2 * i + 2 < n ∧ L.getD (2 * i + 1) 0 < L.getD (2 * i + 2) 0 then 2 * i + 2 else 2 * i + 1
theorem kid_lt (L : List Int) (i n : Nat) (h : 2 * i + 1 < n) : kid L i n < n ∧ i < kid L i n := by unfold kid; split <;> omega
def downL : Nat → List Int → Nat → Nat → List Int
  | 0, L, _, _ => L
  | k + 1, L, i, n => if n ≤ 2 * i + 1 then L else if L.getD i 0 < L.getD (kid L i n) 0 then downL k (swapL L i (kid L i n)) (kid L i n) n else L
theorem downL_more : ∀ (k m : Nat) (L : List Int) (i n : Nat), n - i < k → n - i < m → downL k L i n = downL m L i n
  | 0, _, _, _, _, h, _ => by omega
  | _ + 1, 0, _, _, _, _, h => by omega
  | k + 1, m + 1, L, i, n, hk, hm => by
    unfold downL
    by_cases h : n ≤ 2 * i + 1
    · rw [if_pos h, if_pos h]
    · have hl := kid_lt L i n (by omega)
      rw [if_neg h, if_neg h, downL_more k m _ _ _ (by omega) (by omega)]
def dnF (L : List Int) (i n : Nat) : List Int := downL (n + 1) L i n
theorem dnF_leaf (L : List Int) (i n : Nat) (h : n ≤ 2 * i + 1) : dnF L i n = L := by unfold dnF downL; rw [if_pos h]
theorem dnF_stay (L : List Int) (i n : Nat) (h : ¬ L.getD i 0 < L.getD (kid L i n) 0) : dnF L i n = L := by
  unfold dnF downL
  by_cases h0 : n ≤ 2 * i + 1
  · rw [if_pos h0]
  · rw [if_neg h0, if_neg h]
theorem dnF_go (L : List Int) (i n : Nat) (h0 : 2 * i + 1 < n) (h : L.getD i 0 < L.getD (kid L i n) 0) : dnF L i n = dnF (swapL L i (kid L i n)) (kid L i n) n := by
  conv => lhs; unfold dnF downL
  have hl := kid_lt L i n h0
  rw [if_neg (by omega), if_pos h]
  exact downL_more _ _ _ _ _ (by omega) (by omega)
theorem dnF_length (L : List Int) (i n : Nat) : (dnF L i n).length = L.length := by
  have key : ∀ k L i n, (downL k L i n).length = L.length := by
    intro k
    induction k with
    | zero => intro L i n; rfl
    | succ k ih =>
      intro L i n
      unfold downL
      split
      · rfl
      · split
        · rw [ih, swapL_length]
        · rfl
  exact key _ _ _ _

/-- heap.Init: down from each parent, the last one first. -/
def initL (n : Nat) : Nat → List Int → List Int
  | 0, L => L
  | i + 1, L => initL n i (dnF L i n)
theorem initL_length (n : Nat) : ∀ (i : Nat) (L : List Int), (initL n i L).length = L.length
  | 0, _ => rfl
  | i + 1, L => by unfold initL; rw [initL_length n i, dnF_length]
def heapInit (L : List Int) : List Int := initL L.length (L.length / 2) L
/-- heap.Pop: the greatest, and what is left. -/
def popL (L : List Int) : List Int := dnF (swapL L 0 (L.length - 1)) 0 (L.length - 1)
def popV (L : List Int) : Int := (popL L).getD (L.length - 1) 0
def popR (L : List Int) : List Int := (popL L).take (L.length - 1)
theorem popL_length (L : List Int) : (popL L).length = L.length := by unfold popL; rw [dnF_length, swapL_length]
theorem popR_length (L : List Int) : (popR L).length = L.length - 1 := by unfold popR; rw [List.length_take, popL_length]; omega
def pushL (L : List Int) (x : Int) : List Int := upF (L ++ [x]) L.length
theorem pushL_length (L : List Int) (x : Int) : (pushL L x).length = L.length + 1 := by unfold pushL; rw [upF_length]; simp

end Go.Proofs.QHeap

/- container/heap over *qdigest.greatest: each call makes of the heap's list what HeapPure's functions make of it. Conditions: the heap lies in one block, its variable in another; indices within the list. -/
namespace Go.Proofs.Ytcgimjoebkeifaa.QHeap
open Go.RowKit Go.Proofs.YtcgimjoebkeifaaW.PrintWords Go.Proofs.QHeap
set_option maxHeartbeats 400000

/-- What a call leaves alone: all but the blocks of S, and what is new. -/
structure Fr (S : Nat → Prop) (w w' : World) : Prop where
  os : w'.os = w.os
  tape : w'.tape = w.tape
  output : w'.output = w.output
  size : w.heap.size ≤ w'.heap.size
  block : ∀ k, k < w.heap.size → ¬ S k → w'.heap[k]? = w.heap[k]?
theorem Fr.refl (S : Nat → Prop) (w : World) : Fr S w w := ⟨rfl, rfl, rfl, Nat.le_refl _, fun _ _ _ => rfl⟩
theorem Fr.trans {S : Nat → Prop} {a b c : World} (h : Fr S a b) (k : Fr S b c) : Fr S a c :=
  ⟨k.os.trans h.os, k.tape.trans h.tape, k.output.trans h.output, Nat.le_trans h.size k.size, fun i hi hn => (k.block i (Nat.lt_of_lt_of_le hi h.size) hn).trans (h.block i hi hn)⟩
theorem Fr.mono {S S' : Nat → Prop} {a b : World} (h : Fr S a b) (hs : ∀ k, k < a.heap.size → S k → S' k) : Fr S' a b :=
  ⟨h.os, h.tape, h.output, h.size, fun i hi hn => h.block i hi (fun hk => hn (hs i hi hk))⟩
theorem Fr.drewN (S : Nat → Prop) (w : World) (n : Nat) : Fr S w (w.drewN n) := ⟨rfl, rfl, rfl, Nat.le_refl _, fun _ _ _ => rfl⟩
theorem Fr.below {S : Nat → Prop} {B : Nat} {a b : World} (h : Fr S a b) (hB : B ≤ a.heap.size) (hs : ∀ k, S k → B ≤ k) : Below B a b :=
  ⟨h.os, h.tape, h.output, h.size, fun k hk => h.block k (by omega) (fun hS => by have := hs k hS; omega)⟩

theorem own_cell {w : World} {B r n cap : Nat} {L : List Int} (h : w.ownsRow B 3 1 (.slice (some ⟨r, 0, none⟩) n cap) n (nums .i64 L)) (j : Nat) (hj : j < n) : w.cell? ⟨r, j, none⟩ = some (.int .i64 (L.getD j 0)) := by
  rw [h.cellAt j (by omega)]
  have hl : L.length = n := by have := h.1; simpa [nums] using this
  simp [nums, List.getElem?_eq_getElem (show j < L.length by omega), List.getD_eq_getElem?_getD]

/-- The heap's variable (block g) holds the slice, its row is block r: the list L. -/
structure Hp (w : World) (B g r cap : Nat) (L : List Int) : Prop where
  ge : B ≤ g
  box : w.heap[g]? = some (.cells #[.slice (some ⟨r, 0, none⟩) L.length cap] 68 (0, 0))
  row : w.ownsRow B 3 1 (.slice (some ⟨r, 0, none⟩) L.length cap) L.length (nums .i64 L)
section
variable {w w' : World} {B g r cap : Nat} {L : List Int}
theorem Hp.cell (h : Hp w B g r cap L) : w.cell? ⟨g, 0, none⟩ = some (.slice (some ⟨r, 0, none⟩) L.length cap) := by simp [World.cell?, h.box]
theorem Hp.free (h : Hp w B g r cap L) : w.frozen? ⟨g, 0, none⟩ = false := by simp [World.frozen?, h.box]
theorem Hp.at_ (h : Hp w B g r cap L) (j : Nat) (hj : j < L.length) : w.cell? ⟨r, j, none⟩ = some (.int .i64 (L.getD j 0)) := own_cell h.row j hj
theorem Hp.ne (h : Hp w B g r cap L) : g ≠ r := by
  rintro rfl
  rcases h.row.2 with ⟨h1, _⟩ | ⟨g', cap', cur, h1, _, h2, _⟩
  · simp at h1
  · simp at h1
    obtain ⟨rfl, _⟩ := h1
    rw [h.box] at h2
    simp at h2
theorem Hp.row_ge (h : Hp w B g r cap L) : B ≤ r ∧ r < w.heap.size := h.row.lt r (by simp [Value.ownBlock])
theorem Hp.lt (h : Hp w B g r cap L) : g < w.heap.size := (Array.getElem?_eq_some_iff.1 h.box).1
theorem Hp.drewN (h : Hp w B g r cap L) (n : Nat) : Hp (w.drewN n) B g r cap L := ⟨h.ge, h.box, h.row⟩
theorem Hp.cap_le (h : Hp w B g r cap L) : L.length ≤ cap ∧ cap ≤ maxLen := by
  rcases h.row.2 with ⟨h1, _⟩ | ⟨g', cap', cur, h1, _, h2, h3, h4, _⟩
  · simp at h1
  · simp at h1
    obtain ⟨_, rfl⟩ := h1
    exact ⟨h3, h4⟩
end

set_option maxRecDepth 100000 in
theorem Less_walk (r n cap : Nat) (x y : Int) (i j : Nat) (hi : i < n) (hj : j < n) (w : World) (hci : w.cell? ⟨r, i, none⟩ = some (.int .i64 x)) (hcj : w.cell? ⟨r, j, none⟩ = some (.int .i64 y)) :
    Calls Try.prog 138 #[.slice (some ⟨r, 0, none⟩) n cap, .int .i64 i, .int .i64 j] w fun e w' => e = .returned (.bool (decide (y < x))) ∧ ∃ m, w' = w.drewN m := by
  have hi' : (i : Int) < n := by omega
  have hj' : (j : Int) < n := by omega
  have hi0 : (0 : Int) ≤ i := by omega
  have hj0 : (0 : Int) ≤ j := by omega
  go_enter Try.func138, Try.ntmps138
  go_wp2
  go_quiet (fail)
  go_wp2
  go_ret
  exact ⟨rfl, _, rfl⟩

theorem cell?_setCell_some {w : World} {p q : Addr} {x v : Value} (h : w.cell? q = some v) : ∃ v', (w.setCell p x).cell? q = some v' := by
  by_cases e : p = q
  · subst e; exact ⟨x, World.cell?_setCell_same w p x h⟩
  · exact ⟨v, (World.cell?_setCell_other w p q x e).trans h⟩
set_option maxRecDepth 100000 in
theorem Swap_walk (r n cap i j : Nat) (x y : Int) (hi : i < n) (hj : j < n) (w : World) (hx : w.cell? ⟨r, i, none⟩ = some (.int .i64 x)) (hy : w.cell? ⟨r, j, none⟩ = some (.int .i64 y)) (fx : w.frozen? ⟨r, i, none⟩ = false) (fy : w.frozen? ⟨r, j, none⟩ = false) :
    Calls Try.prog 139 #[.slice (some ⟨r, 0, none⟩) n cap, .int .i64 i, .int .i64 j] w fun e w' => e = .returned (.tuple #[]) ∧ w'.Alike ((w.setCell ⟨r, i, none⟩ (.int .i64 y)).setCell ⟨r, j, none⟩ (.int .i64 x)) ∧ w'.tape = w.tape := by
  obtain ⟨v', hy'⟩ := cell?_setCell_some (w := w) (p := ⟨r, i, none⟩) (x := .int .i64 y) (q := ⟨r, j, none⟩) (v := .int .i64 y) (by go_simp)
  have hi' : (i : Int) < n := by omega
  have hj' : (j : Int) < n := by omega
  have hi0 : (0 : Int) ≤ i := by omega
  have hj0 : (0 : Int) ≤ j := by omega
  go_enter Try.func139, Try.ntmps139
  go_wp2
  go_region
  all_goals (go_end0; exact ⟨rfl, ⟨rfl, rfl, rfl⟩, rfl⟩)

section
variable {w : World} {B g r cap : Nat} {L : List Int}
theorem Less_calls (h : Hp w B g r cap L) (i j : Nat) (hi : i < L.length) (hj : j < L.length) :
    Calls Try.prog 138 #[.slice (some ⟨r, 0, none⟩) L.length cap, .int .i64 i, .int .i64 j] w fun e w' => e = .returned (.bool (decide (L.getD j 0 < L.getD i 0))) ∧ ∃ m, w' = w.drewN m :=
  Less_walk r L.length cap _ _ i j hi hj w (h.at_ i hi) (h.at_ j hj)
theorem alike_heap {w w1 : World} (h : w.Alike w1) (k : Nat) : w.heap[k]? = w1.heap[k]? := by rw [h.1]
theorem Swap_calls (h : Hp w B g r cap L) (i j : Nat) (hi : i < L.length) (hj : j < L.length) :
    Calls Try.prog 139 #[.slice (some ⟨r, 0, none⟩) L.length cap, .int .i64 i, .int .i64 j] w fun e w' => e = .returned (.tuple #[]) ∧ Hp w' B g r cap (swapL L i j) ∧ Fr (fun k => k = r) w w' := by
  refine (Swap_walk r L.length cap i j _ _ hi hj w (h.at_ i hi) (h.at_ j hj) (h.row.frozenAt i) (h.row.frozenAt j)).mono ?_
  rintro e w' ⟨rfl, ha, ht⟩
  refine ⟨rfl, ⟨h.ge, ?_, ?_⟩, ⟨?_, ht, ?_, ?_, ?_⟩⟩
  · rw [alike_heap ha, Below.heap_setCell _ _ _ _ (by simpa using h.ne), Below.heap_setCell _ _ _ _ (by simpa using h.ne), swapL_length]
    exact h.box
  · rw [swapL_length]
    have h1 := h.row.stored i (.int .i64 (L.getD j 0))
    have h2 := h1.1.stored j (.int .i64 (L.getD i 0))
    have e1 : nums .i64 (swapL L i j) = ((nums .i64 L).set i (.int .i64 (L.getD j 0))).set j (.int .i64 (L.getD i 0)) := by
      simp [nums, swapL, List.map_set]
    rw [e1]
    exact own_move h2.1 (fun k _ => alike_heap ha k)
  · rw [ha.2.1]; rfl
  · rw [ha.2.2]; rfl
  · rw [ha.1]; simp [World.setCell]
  · intro k hk hn
    rw [alike_heap ha, Below.heap_setCell _ _ _ _ (by simpa using hn), Below.heap_setCell _ _ _ _ (by simpa using hn)]
end

theorem meth_Push (g : Nat) (w : World) : (method 279 70 (.pointer (some ⟨g, 0, none⟩)) "Push").run Try.prog w = .ok (141, .pointer (some ⟨g, 0, none⟩)) w := by kernel_rfl
theorem meth_Pop (g : Nat) (w : World) : (method 279 70 (.pointer (some ⟨g, 0, none⟩)) "Pop").run Try.prog w = .ok (140, .pointer (some ⟨g, 0, none⟩)) w := by kernel_rfl
theorem meth_val (g : Nat) (w : World) (name : String) (f : Nat) (h : (method 279 70 (.pointer (some ⟨g, 0, none⟩)) name).run Try.prog w = (loadVar 68 ⟨g, 0, none⟩ >>= fun v => pure (f, v)).run Try.prog w) (v : Value) (hc : w.cell? ⟨g, 0, none⟩ = some v) : (method 279 70 (.pointer (some ⟨g, 0, none⟩)) name).run Try.prog w = .ok (f, v) w := by
  rw [h]
  have hu := Try.underlying68
  go_simp
theorem meth_Len (g : Nat) (w : World) (v : Value) (hc : w.cell? ⟨g, 0, none⟩ = some v) : (method 279 70 (.pointer (some ⟨g, 0, none⟩)) "Len").run Try.prog w = .ok (33, v) w :=
  meth_val g w "Len" 33 (by kernel_rfl) v hc
theorem meth_Less (g : Nat) (w : World) (v : Value) (hc : w.cell? ⟨g, 0, none⟩ = some v) : (method 279 70 (.pointer (some ⟨g, 0, none⟩)) "Less").run Try.prog w = .ok (138, v) w :=
  meth_val g w "Less" 138 (by kernel_rfl) v hc
theorem meth_Swap (g : Nat) (w : World) (v : Value) (hc : w.cell? ⟨g, 0, none⟩ = some v) : (method 279 70 (.pointer (some ⟨g, 0, none⟩)) "Swap").run Try.prog w = .ok (139, v) w :=
  meth_val g w "Swap" 139 (by kernel_rfl) v hc
end Go.Proofs.Ytcgimjoebkeifaa.QHeap

/- qdigest.ordered: the elements in the order of a comparison: a permutation of the list, ascending; what was there stays. Conditions: the comparison is a strict weak order, and its calls lay blocks at most. -/
namespace Go.Proofs.Ytcgimjoebkeifaa.Ord
open Go.RowKit Go.Shelf Go.Lib Go.Sort
set_option maxHeartbeats 1000000
section
variable {α : Type} [Inhabited α]
theorem flatMap_get (enc : α → List Value) (k : Nat) (hk : ∀ x, (enc x).length = k) (h0 : 0 < k) : ∀ (xs : List α) (j : Nat), j < xs.length * k → (xs.flatMap enc)[j]? = some ((enc xs.toArray[j / k]!)[j % k]!)
  | [], j, h => by simp at h
  | x :: xs, j, h => by
    rw [List.flatMap_cons]
    by_cases hj : j < k
    · rw [List.getElem?_append_left (by rw [hk]; exact hj), Nat.div_eq_of_lt hj, Nat.mod_eq_of_lt hj]
      have hl : j < (enc x).length := by rw [hk]; exact hj
      simp [hl]
    · rw [List.getElem?_append_right (by rw [hk]; omega), hk]
      have h1 : (x :: xs).length * k = xs.length * k + k := by simp [Nat.add_mul]
      have ih := flatMap_get enc k hk h0 xs (j - k) (by omega)
      rw [ih]
      obtain ⟨d, rfl⟩ : ∃ d, j = d + k := ⟨j - k, by omega⟩
      simp only [Nat.add_sub_cancel, Nat.add_div_right _ h0, Nat.add_mod_right]
      simp
omit [Inhabited α] in
theorem flatMap_len (enc : α → List Value) (k : Nat) (hk : ∀ x, (enc x).length = k) (xs : List α) : (xs.flatMap enc).length = xs.length * k := by
  induction xs with
  | nil => simp
  | cons x xs ih => simp [List.flatMap_cons, ih, hk, Nat.add_mul]; omega
theorem flatK_toList (enc : α → List Value) (k : Nat) (hk : ∀ x, (enc x).length = k) (h0 : 0 < k) (d : Array α) : (flatK enc k d).toList = d.toList.flatMap enc := by
  apply List.ext_getElem?
  intro j
  by_cases hj : j < d.size * k
  · rw [flatMap_get enc k hk h0 d.toList j (by simpa using hj)]
    simp [flatK, hj]
  · rw [List.getElem?_eq_none (by simp; omega), List.getElem?_eq_none (by rw [flatMap_len enc k hk]; simp; omega)]
/-- DOWN. -/
theorem holdsK_of_own {enc : α → List Value} {k : Nat} (hk : ∀ x, (enc x).length = k) (h0 : 0 < k) {w : World} {base : Nat} {e : TypeId} {v : Value} {n : Nat} {xs : List α} (h : w.ownsRow base e k v n (xs.flatMap enc)) (hv : v ≠ .slice none 0 0) :
    ∃ g cap, v = .slice (some ⟨g, 0, none⟩) n cap ∧ base ≤ g ∧ g < w.heap.size ∧ xs.length = n ∧ n ≤ maxLen ∧ HoldsK enc k w g 0 xs.toArray := by
  have hl : xs.length = n := by
    have h1 := h.1
    rw [flatMap_len enc k hk] at h1
    exact Nat.eq_of_mul_eq_mul_right h0 h1
  rcases h.2 with ⟨e0, _⟩ | ⟨g, cap, cur, rfl, hb, hg, hn, hm, hs, ht⟩
  · exact absurd e0 hv
  · refine ⟨g, cap, rfl, hb, (Array.getElem?_eq_some_iff.1 hg).1, hl, by omega, fun j hj => ?_⟩
    have hj' : j < n * k := by simpa [hl] using hj
    refine ⟨?_, by simp [World.frozen?, hg]⟩
    have e1 : (cur.toList.take (n * k))[j]? = (xs.flatMap enc)[j]? := by rw [ht]
    rw [List.getElem?_take, if_pos hj', Array.getElem?_toList, flatMap_get enc k hk h0 xs j (by rw [hl]; exact hj')] at e1
    simp only [World.cell?, hg, Nat.zero_add]
    simp only [Option.isSome_none, Bool.false_eq_true, if_false]
    rw [e1, get_flatK _ _ _ _ (by simpa [hl] using hj')]
    rfl
/-- UP. -/
theorem own_putRowK {enc : α → List Value} {k : Nat} (hk : ∀ x, (enc x).length = k) (h0 : 0 < k) {w : World} {base : Nat} {e : TypeId} {g n cap q : Nat} {xs : List α} {d : Array α} (h : w.ownsRow base e k (.slice (some ⟨g, 0, none⟩) n cap) n (xs.flatMap enc)) (hd : d.size = n) :
    (putRowK enc k (Sort.ahead w q) g 0 d).ownsRow base e k (.slice (some ⟨g, 0, none⟩) n cap) n (d.toList.flatMap enc) := by
  have hfl : (flatK enc k d).size = n * k := by rw [size_flatK, hd]
  rcases h.2 with ⟨e0, _⟩ | ⟨g', cap', cur, e0, hb, hg, hn, hm, hs, ht⟩
  · cases e0
  · injection e0 with e1 _ e3
    injection e1 with e1
    injection e1 with e1
    subst e1; subst e3
    have hnc : n * k ≤ cur.size := by rw [hs]; exact Nat.mul_le_mul_right _ hn
    refine ⟨by rw [flatMap_len enc k hk]; simp [hd], .inr ⟨g, cap, putCells id 0 (flatK enc k d) cur, rfl, hb, ?_, hn, hm, by simpa [putCells] using hs, ?_⟩⟩
    · simp [putRowK, putRow, mapBlock, Sort.ahead, Array.getElem?_modify, hg, onCells]
    · rw [← flatK_toList enc k hk h0 d]
      apply List.ext_getElem?
      intro j
      rw [List.getElem?_take, Array.getElem?_toList, Array.getElem?_toList]
      by_cases hj : j < n * k
      · have hjc : j < cur.size := by omega
        simp only [if_pos hj, putCells, Array.getElem?_mapIdx, Array.getElem?_eq_getElem hjc, Option.map_some]
        rw [if_pos (by omega), Array.getElem?_eq_getElem (by omega)]
        simp only [Nat.sub_zero, id]
        rw [getElem!_pos _ _ (by omega)]
      · rw [if_neg hj, Array.getElem?_eq_none (by omega)]
theorem own_grow {w : World} {base : Nat} {e : TypeId} {k : Nat} {v : Value} {n : Nat} {xs : List Value} (h : w.ownsRow base e k v n xs) (os : Array Obj) : (grow w os).ownsRow base e k v n xs := by
  refine ⟨h.1, ?_⟩
  rcases h.2 with h2 | ⟨g, cap, cur, rfl, hb, hg, r⟩
  · exact .inl h2
  · refine .inr ⟨g, cap, cur, rfl, hb, ?_, r⟩
    have hlt := (Array.getElem?_eq_some_iff.1 hg).1
    simp only [grow]
    rw [Array.getElem?_append_left hlt]
    exact hg
theorem below_grow {B : Nat} {w0 w : World} (h : Below B w0 w) (hB : B ≤ w.heap.size) (os : Array Obj) : Below B w0 (grow w os) :=
  ⟨h.os, h.tape, h.output, by simp [grow]; have := h.size; omega, fun k hk => by
    rw [← h.block k hk]
    simp only [grow]
    rw [Array.getElem?_append_left (by omega)]⟩
/-- What 'ordered' answers: an ascending permutation, in a row of its own. -/
def OrdPost (enc : α → List Value) (cf : α → α → Int) (xs : List α) (n : Nat) (w : World) (e : Ending) (w' : World) : Prop :=
  ∃ (v' : Value) (ys : List α), e = .returned v' ∧ ys.Perm xs ∧ SortedIn (ltOf cf) 0 n ys.toArray ∧ w'.ownsRow w.heap.size 63 2 v' n (ys.flatMap enc) ∧ Below w.heap.size w w'
theorem info63 : (Try.prog.info? 63).map (fun i => (i.zero, i.size, i.bytes)) = some (some (.agg #[.int .i64 0, .int .i64 0]), 2, 16) := by kernel_rfl
set_option maxRecDepth 100000 in
theorem ordered_calls (enc : α → List Value) (hk : ∀ x, (enc x).length = 2) (h1 : ∀ x, ∀ v ∈ enc x, v.oneCell' = true) (cf : α → α → Int) (hO : SWO (ltOf cf)) (g : Nat) (cb : Array Value)
    (eg : ∀ args w, (callFunc g args).run Try.prog w = .ok (.enter g args) w) (b off n c : Nat) (xs : List α) (hn : xs.length = n) (hbig : n ≤ 1000000) (w : World)
    (hc : ∀ j u, (xs.flatMap enc)[j]? = some u → w.cell? ⟨b, off + j, none⟩ = some u)
    (hcmp : ∀ W, Below w.heap.size w W → ∀ x y, Calls Try.prog g (#[.agg (enc x).toArray, .agg (enc y).toArray] ++ cb) W fun e w' => e = .returned (.int .i64 (cf x y)) ∧ ∃ q os', w' = grow (W.drewN q) os') :
    Calls Try.prog 36 #[.slice (some ⟨b, off, none⟩) n c, .func (.func g) #[] cb] w (OrdPost enc cf xs n w) := by
  obtain ⟨i0, hi, hz0, hz1, hz2⟩ := info_parts info63
  have hfl := flatMap_len enc 2 hk xs
  have hcl := AnyE.slices_Clone Try.cloneDN i0 (.agg #[.int .i64 0, .int .i64 0]) 2 16 hi hz0 hz1 hz2 rfl (by decide) Try.sizeOf63 b off n c (xs.flatMap enc) w (by rw [hfl, hn]) (by unfold maxLen; omega) (by omega) hc (fun u hu => by
    obtain ⟨x, _, hx⟩ := List.mem_flatMap.1 hu
    exact h1 x u hx)
  change Calls Try.prog 61 _ _ _ at hcl
  have hsf : ∀ (blk cap : Nat) (W : World), W.ownsRow w.heap.size 63 2 (.slice (some ⟨blk, 0, none⟩) n cap) n (xs.flatMap enc) → HoldsK enc 2 W blk 0 xs.toArray → w.heap.size ≤ blk → blk < W.heap.size → Below w.heap.size w W →
      Calls Try.prog 62 #[.slice (some ⟨blk, 0, none⟩) n cap, .func (.func g) #[] cb] W fun e w' => e = .returned (.tuple #[]) ∧ ∃ ys : List α, ys.Perm xs ∧ SortedIn (ltOf cf) 0 n ys.toArray ∧ w'.ownsRow w.heap.size 63 2 (.slice (some ⟨blk, 0, none⟩) n cap) n (ys.flatMap enc) ∧ Below w.heap.size w w' := by
    intro blk cap W hown hH hge hlt hB
    have hcon := AnyQ.slices_SortFunc Try.sortDN 2 Try.isAgg63 Try.sizeOf63 enc hk h1 cf hO g cb blk 0 cap xs.toArray W eg (fun m os dk hs x y => ?_) hH hlt (by simp; omega)
    · change Calls Try.prog 62 _ _ _ at hcon
      rw [show xs.toArray.size = n by simpa using hn] at hcon
      refine hcon.mono ?_
      rintro e w' ⟨rfl, d', m, os, hp, hs, rfl⟩
      have hds : d'.size = n := by have := hp.1; simp at this; omega
      refine ⟨rfl, d'.toList, ?_, by simpa using hs, ?_, ?_⟩
      · have := hp.2.2
        have e1 : d'.extract 0 n = d' := by rw [← hds]; simp
        have e2 : xs.toArray.extract 0 n = xs.toArray := by rw [← hn]; simp
        rw [e1, e2] at this
        simpa using this
      · unfold sortWorldK
        exact own_grow (own_putRowK hk (by decide) hown hds) os
      · unfold sortWorldK
        exact below_grow (below_putRow (enc := id) hB hge) (by simp [putRow, mapBlock, Sort.ahead]; have := hB.size; omega) os
    · exact hcmp _ (by
        unfold sortWorldK
        exact below_grow (below_putRow (enc := id) hB hge) (by simp [putRow, mapBlock, Sort.ahead]; have := hB.size; omega) os) x y
  have HC := Lib.hid hc
  have HN := Lib.hid hn
  have HFL := Lib.hid hfl
  have HCMP := Lib.hid hcmp
  clear hc hn hfl hcmp hz0 hz1 hz2 hi
  go_enter Try.func36, Try.ntmps36
  go_wp2_with fail
  refine hcl.mono ?_
  rintro e w1 ⟨v', rfl, hown, hne, hB⟩
  obtain ⟨blk, cap, rfl, hge, hlt, _, _, hH⟩ := holdsK_of_own hk (by decide) hown hne
  have hs2 := hsf blk cap w1 hown hH hge hlt hB
  clear hsf hcl
  go_wp2_with fail
  refine hs2.mono ?_
  rintro e w2 ⟨rfl, ys, hp, hs, hown2, hB2⟩
  go_wp2_with fail
  go_ret
  exact ⟨_, ys, rfl, hp, hs, hown2, hB2⟩
end
end Go.Proofs.Ytcgimjoebkeifaa.Ord

/- slices.BinarySearchFunc and slices.Insert at []api.DigestNode, as qdigest.Add calls them. -/
namespace Go.Proofs.Ytcgimjoebkeifaa.QAdd
set_option linter.unusedSimpArgs false
set_option linter.unusedVariables false
open Go.RowKit Go.Proofs.YtcgimjoebkeifaaW.PrintWords Go.Proofs.Ytcgimjoebkeifaa.PQ
set_option maxHeartbeats 1000000
theorem idcmp_calls (x y z : Int) (W : World) : Calls Try.prog 64 #[.agg #[.int .i64 x, .int .i64 y], .int .i64 z] W fun e w' => e = .returned (.int .i64 (wrap64 (x - z))) ∧ Below W.heap.size W w' := by
  go_enter Try.func64, Try.ntmps64
  go_wp2
  go_ret
  exact ⟨rfl, (Below.refl _ _).alloc (Nat.le_refl _) _⟩
/-- How many nodes lie before an id. -/
def pos (xs : List S63) (id : Int) : Nat := (xs.takeWhile (fun x => decide (x.f0 < id))).length
def Asc (xs : List S63) : Prop := xs.Pairwise (fun a b => a.f0 < b.f0)
theorem pos_le (xs : List S63) (id : Int) : pos xs id ≤ xs.length := (List.takeWhile_sublist _).length_le
theorem lt_pos : ∀ (xs : List S63) (id : Int), Asc xs → ∀ h, h < xs.length → ((rd_T63 xs h).f0 < id ↔ h < pos xs id)
  | [], _, _, h, hh => by simp at hh
  | x :: xs, id, ha, h, hh => by
    have ha' := List.pairwise_cons.1 ha
    unfold pos
    rw [List.takeWhile_cons]
    cases h with
    | zero =>
      by_cases hx : x.f0 < id
      · simp [hx, rd_T63]
      · simp [hx, rd_T63]
    | succ h =>
      have ih := lt_pos xs id ha'.2 h (by simpa using hh)
      have e1 : rd_T63 (x :: xs) ((h + 1 : Nat) : Int) = rd_T63 xs h := by simp [rd_T63]
      rw [e1]
      by_cases hx : x.f0 < id
      · simp only [hx, decide_true, if_true, List.length_cons]
        rw [ih]; unfold pos; omega
      · simp only [hx, decide_false, List.length_nil]
        have hh' : h < xs.length := by simpa using hh
        have h3 : rd_T63 xs h ∈ xs := by simp [rd_T63, List.getD_eq_getElem?_getD, hh']
        have := ha'.1 _ h3
        simp; omega
def found (xs : List S63) (id : Int) : Bool := decide (pos xs id < xs.length) && decide ((rd_T63 xs (pos xs id)).f0 = id)
set_option maxRecDepth 100000 in
theorem search_calls (w : World) (A : Option Addr) (c : Nat) (xs : List S63) (id : Int) (hr : Kd.C k63 w A xs.length xs) (ha : Asc xs) (hb : ∀ x ∈ xs, 0 ≤ x.f0 ∧ x.f0 ≤ 1099511627776) (hl : xs.length ≤ 1000000) (hid : 0 ≤ id ∧ id ≤ 1099511627776) :
    Calls Try.prog 63 #[.slice A xs.length c, .int .i64 id, .func (.func 64) #[] #[]] w fun e w' => e = .returned (.tuple #[.int .i64 (pos xs id), .bool (found xs id)]) ∧ Below w.heap.size w w' := by
  have hlp := lt_pos xs id ha
  have hpl := pos_le xs id
  have hrd : ∀ (h : Int), 0 ≤ h → h < xs.length → 0 ≤ (rd_T63 xs h).f0 ∧ (rd_T63 xs h).f0 ≤ 1099511627776 := fun h h0 h1 => by
    refine hb _ ?_
    have : h.toNat < xs.length := by omega
    simp [rd_T63, List.getD_eq_getElem?_getD, this]
  obtain ⟨hi0, hi1⟩ := hid
  have HR := Lib.hid hr
  have HLP := Lib.hid hlp
  have HRD := Lib.hid hrd
  clear hr hlp hrd hb ha
  unfold found
  generalize hn : xs.length = n at *
  generalize hp : pos xs id = p at *
  clear hn hp
  go_enter Try.func63, Try.ntmps63
  go_wp2_with fail
  go_loopg [9, 10] n (fun gk s9 s10 wr => ∃ (i j : Nat), s9 = .int .i64 i ∧ s10 = .int .i64 j ∧ Below w.heap.size w wr ∧ i ≤ p ∧ p ≤ j ∧ j ≤ n ∧ gk = j - i)
  case atStart => exact ⟨0, n, rfl, rfl, Below.refl _ _, by omega, by omega, by omega, by omega⟩
  case round =>
    obtain ⟨i, j, rfl, rfl, hB, h1, h2, h3, hgk⟩ := hrel
    by_cases hij : i < j
    · have hlt : (i : Int) < j := by omega
      have hm0 : 0 ≤ ((i : Int) + j) / 2 ∧ ((i : Int) + j) / 2 < n := by omega
      have hw1 : IntKind.u64.wrap ((i : Int) + j) = (i : Int) + j := by
        rw [show IntKind.u64.wrap ((i : Int) + j) = ((i : Int) + j) % 18446744073709551616 from by simp [IntKind.wrap, IntKind.signed, IntKind.bits]]
        omega
      obtain ⟨ad, rfl, hx0, hx1⟩ := at_T63 (Kd.C_below HR.out hB) (((i + j) / 2 : Nat) : Int) (by omega) (by omega)
      simp only [Int.toNat_natCast] at hx0 hx1
      have hcm := fun W => idcmp_calls (rd_T63 xs (((i + j) / 2 : Nat) : Int)).f0 (rd_T63 xs (((i + j) / 2 : Nat) : Int)).f1 id W
      have hv := HRD.out (((i + j) / 2 : Nat) : Int) (by omega) (by omega)
      have hiff := HLP.out ((i + j) / 2) (by omega)
      have hmid : i ≤ (i + j) / 2 ∧ (i + j) / 2 < j := by omega
      have hcast : ((i : Int) + j) / 2 = (((i + j) / 2 : Nat) : Int) := by omega
      generalize (rd_T63 xs (((i + j) / 2 : Nat) : Int)).f0 = y at *
      generalize (rd_T63 xs (((i + j) / 2 : Nat) : Int)).f1 = y1 at *
      have HIFF := Lib.hid hiff
      have HV := Lib.hid hv
      have HM := Lib.hid hmid
      have HC := Lib.hid hcast
      clear hiff hv hmid hcast
      have hy := HV.out
      go_wp2_with fail
      refine (hcm _).mono ?_
      rintro e w2 ⟨rfl, hB2⟩
      have hwr : wrap64 (y - id) = y - id := by unfold wrap64; omega
      rw [hwr]
      by_cases hc : y < id
      · have hc1 : y - id < 0 := by omega
        go_wp2_with fail
        have h4 := HIFF.out.1 hc
        go_roundg (j - ((i + j) / 2 + 1))
        case rel => exact ⟨(i + j) / 2 + 1, j, by rw [HC.out]; go_num, rfl, hB.trans (hB2.mono hB.size), by have := HM.out; omega, h2, h3, rfl⟩
        case measure => have := HM.out; omega
      · have hc1 : ¬ (y - id < 0) := by omega
        go_wp2_with fail
        have h4 : ¬ ((i + j) / 2 < p) := fun h => by have := HIFF.out.2 h; omega
        go_roundg ((i + j) / 2 - i)
        case rel => exact ⟨i, (i + j) / 2, rfl, by rw [HC.out], hB.trans (hB2.mono hB.size), h1, by omega, by have := HM.out; omega, rfl⟩
        case measure => have := HM.out; omega
    · obtain rfl : i = j := by omega
      obtain rfl : i = p := by omega
      by_cases hin : i < n
      · obtain ⟨ad, rfl, hx0, hx1⟩ := at_T63 (Kd.C_below HR.out hB) (i : Int) (by omega) (by omega)
        simp only [Int.toNat_natCast] at hx0 hx1
        have hcm := fun W => idcmp_calls (rd_T63 xs (i : Int)).f0 (rd_T63 xs (i : Int)).f1 id W
        have hv := HRD.out (i : Int) (by omega) (by omega)
        generalize hye : (rd_T63 xs (i : Int)).f0 = y at *
        have HYE := Lib.hid hye
        clear hye
        generalize (rd_T63 xs (i : Int)).f1 = y1 at *
        have hini : (i : Int) < n := by omega
        have hwr : wrap64 (y - id) = y - id := by unfold wrap64; omega
        go_wp2_with (go_at_call 64; refine (hcm _).mono ?_; rintro e w2 ⟨rfl, hB2⟩; rw [hwr])
        go_ret2
        refine ⟨?_, hB.trans (hB2.mono hB.size)⟩
        have hd1 : decide (i < n) = true := decide_eq_true hin
        rw [hd1, Bool.true_and, HYE.out]
        by_cases hq : y = id
        · have h5 : y - id = 0 := by omega
          simp [hq]
        · have h5 : ¬ (y - id = 0) := by omega
          simp [hq, h5]
      · go_wp2_with fail
        go_ret2
        refine ⟨?_, hB⟩
        simp [hin]
end Go.Proofs.Ytcgimjoebkeifaa.QAdd

/- slices.Insert at []api.DigestNode, one node, in a row that has room for it. -/
namespace Go.Proofs.Ytcgimjoebkeifaa.QAdd
set_option linter.unusedSimpArgs false
set_option linter.unusedVariables false
open Go.RowKit Go.Proofs.YtcgimjoebkeifaaW.PrintWords Go.Proofs.Ytcgimjoebkeifaa.PQ
set_option maxHeartbeats 1000000
/-- copy at elements of k cells. -/
theorem run_copy_k {P : Program} (w : World) (dT sT ty elem : TypeId) (k g o dLen dCap : Nat) (a : Addr) (sLen sCap : Nat) (cur : Array Value) (t : TypeId) (cs : List Value)
    (hu : P.underlying dT = some (.slice elem)) (hs : (P.info? elem).map (·.size) = some k)
    (hg : w.heap[g]? = some (.cells cur t (0, 0))) (hn : cs.length = Nat.min sLen dLen * k)
    (hsrc : ∀ j v, cs[j]? = some v → w.cell? (a.add j) = some v) (hfit : o + cs.length ≤ cur.size) (h1 : ∀ v ∈ cs, v.oneCell' = true) :
    (Builtin.copy_ #[dT, sT] ty #[.slice (some ⟨g, o, none⟩) dLen dCap, .slice (some a) sLen sCap]).run P w =
      .ok (goInt (Nat.min sLen dLen : Nat)) (w.setRow g (cur.toList.take o ++ cs ++ cur.toList.drop (o + cs.length)).toArray) := by
  have hl := run_loadCells_list (P := P) w a cs hsrc
  have hst := run_storeCells_at P g o t cs 0 cur w hg (by simpa using hfit) h1
  cases hq : P.info? elem with
  | none => simp [hq] at hs
  | some i =>
    have hi : i.size = k := by simpa [hq] using hs
    simp [Builtin.copy_, run_underlying hu, Builtin.lenOf, Builtin.firstCells, sizeOf, typeInfo, hq, hi, ← hn, hl, hst]
theorem wpList_copy_run {P : Program} (w : World) {ops : Array Oper} {rest : List Oper} {o : Oper} {a : Act} {Q : Exit → Act → World → Prop} (hgd : o.guard = none) (d s : Operand) (t t' : TypeId)
    (ho : o.op = .call { callee := .builtin .copy, args := #[d, s], argTypes := #[t, t'] }) (v u : Value) (hd : a.eval d = v) (hs : a.eval s = u) {v' : Value} {w' : World}
    (hr : (Builtin.copy_ #[t, t'] o.type #[v, u]).run P w = .ok v' w') (h : wpList P ops Q rest (a.put o.dst v') w') : wpList P ops Q (o :: rest) a w :=
  wpList_plain hgd fun _ hK => by
    unfold Oper.wp execOp
    simp only [ho, resolve, invoke, builtin, Sem.run_bind, Sem.run_pure, Result.andThen_ok, List.map_toArray, List.map_cons, List.map_nil, hd, hs, hr]
    exact hK _ _ h
theorem step_copy_run {P : Program} {ops : Array Oper} {o : Oper} {a : Act} {w : World} {K : Act → World → Prop} {Q : Exit → Act → World → Prop} {E : Prop}
    (hg : o.guard = none) (d x : Operand) (dT sT : TypeId) (hop : o.op = Op.call { callee := Callee.builtin Builtin.copy, args := #[d, x], argTypes := #[dT, sT] })
    (v u : Value) (hd : a.eval d = v) (hx : a.eval x = u) {v' : Value} {w' : World} (hr : (Builtin.copy_ #[dT, sT] o.type #[v, u]).run P w = .ok v' w') (hK : K (a.put o.dst v') w') :
    if Region.wanted o (yielded ops a.tmps) = true then Oper.wp P o a w K Q else E := by
  have hw : Region.wanted o (yielded ops a.tmps) = true := by simp [Region.wanted, hg]
  rw [if_pos hw]
  unfold Oper.wp
  simp [execOp, hop, resolve, invoke, builtin, hd, hx, hr, Result.andThen]
  exact hK
theorem size63 : (Try.prog.info? 63).map (·.size) = some 2 := by kernel_rfl
/-- The row behind Insert. -/
def insRow (xs : List Value) (i : Nat) (x y : Value) : List Value := xs.take (2 * i) ++ ([x, y] ++ xs.drop (2 * i))
theorem ins_mid (cur xs : List Value) (n i : Nat) (x y : Value) (hi : i < n) (hl : cur.length = (n + 1) * 2) (ht : cur.take (n * 2) = xs) :
    let c2 := cur.take ((i + 1) * 2) ++ xs.drop (2 * i) ++ cur.drop ((i + 1) * 2 + (xs.drop (2 * i)).length)
    c2.take (i * 2) ++ x :: y :: c2.drop (i * 2 + 2) = insRow xs i x y := by
  intro c2
  have hxl : xs.length = n * 2 := by rw [← ht, List.length_take]; omega
  have hdl : (xs.drop (2 * i)).length = (n - i) * 2 := by rw [List.length_drop, hxl]; omega
  have h1 : (cur.take ((i + 1) * 2)).length = i * 2 + 2 := by rw [List.length_take]; omega
  have e0 : cur.drop ((i + 1) * 2 + (xs.drop (2 * i)).length) = [] := List.drop_eq_nil_of_le (by rw [hdl]; omega)
  have e1 : c2 = cur.take ((i + 1) * 2) ++ xs.drop (2 * i) := by
    show cur.take ((i + 1) * 2) ++ xs.drop (2 * i) ++ cur.drop ((i + 1) * 2 + (xs.drop (2 * i)).length) = _
    rw [e0, List.append_nil]
  have e2 : c2.take (i * 2) = xs.take (2 * i) := by
    rw [e1, List.take_append_of_le_length (by omega), List.take_take, ← ht, List.take_take]
    congr 1; omega
  have e3 : c2.drop (i * 2 + 2) = xs.drop (2 * i) := by
    rw [e1, ← h1, List.drop_left]
  rw [e2, e3]
  rfl
theorem ins_end (xs : List Value) (n : Nat) (x y : Value) (h : xs.length = n * 2) : xs ++ [x, y] = insRow xs n x y := by
  unfold insRow
  rw [List.take_of_length_le (by omega), List.drop_eq_nil_of_le (by omega), List.append_nil]
set_option maxRecDepth 100000 in
theorem insert_calls (w : World) (B g n i vb : Nat) (xs : List Value) (x y : Value) (hown : w.ownsRow B 63 2 (.slice (some ⟨g, 0, none⟩) n (n + 1)) n xs) (hi : i ≤ n) (hn : n ≤ 1000000)
    (hv : w.heap[vb]? = some (.cells #[x, y] 63 (0, 0))) (hvb : vb ≠ g) (hx : x.oneCell' = true) (hy : y.oneCell' = true) (h1 : ∀ v ∈ xs, v.oneCell' = true) :
    Calls Try.prog 65 #[.slice (some ⟨g, 0, none⟩) n (n + 1), .int .i64 i, .slice (some ⟨vb, 0, none⟩) 1 1] w fun e w' =>
      e = .returned (.slice (some ⟨g, 0, none⟩) (n + 1) (n + 1)) ∧ w'.ownsRow B 63 2 (.slice (some ⟨g, 0, none⟩) (n + 1) (n + 1)) (n + 1) (insRow xs i x y) ∧ w.grownBy w' (some g) := by
  have hxl := hown.1
  have hvc : ∀ j u, [x, y][j]? = some u → w.cell? ((⟨vb, 0, none⟩ : Addr).add j) = some u := fun j u hj => by
    match j, hj with
    | 0, hj => simp at hj; subst hj; simp [Addr.add, World.cell?, hv]
    | 1, hj => simp at hj; subst hj; simp [Addr.add, World.cell?, hv]
  by_cases hin : i = n
  · subst hin
    obtain ⟨i0, hi, hz0, hz1, hz2⟩ := info_parts Ord.info63
    have HO := Lib.hid hown
    have HVC := Lib.hid hvc
    have HXL := Lib.hid hxl
    clear hown hvc hv hxl
    go_enter Try.func65, Try.ntmps65
    go_wp2_with (at_builtin; refine wpList_append_own_spare _ rfl _ _ 22 rfl B 63 i0 2 Try.underlying22 hi hz1 g i (i + 1) xs rfl HO.out ⟨vb, 0, none⟩ 1 1 [x, y] rfl rfl HVC.out (fun u hu => by simp at hu; rcases hu with rfl | rfl <;> assumption) (Nat.le_refl _) ?_; intro w1 hown1 hgrow1)
    go_ret
    refine ⟨rfl, ?_, hgrow1⟩
    rw [← ins_end xs i x y HXL.out]
    exact hown1
  · have hilt : i < n := by omega
    rcases hown.2 with ⟨h0, _⟩ | ⟨g', cap', cur, hvv, hbg, hg, hnc, hcm, hcs, htake⟩
    · cases h0
    cases hvv
    have hk := hcm
    have hov : ∀ lb cb, (callFunc 93 #[.slice (some ⟨vb, 0, none⟩) 1 1, .slice (some ⟨g, (i + 1) * 2, none⟩) lb cb]).run Try.prog w = .ok (.value (.bool false)) w := fun lb cb => by
      rw [run_callFunc_extern Try.func93 (by kernel_rfl) (by kernel_rfl) (by kernel_rfl) (e := Extern.SlicesOverlaps.overlaps #[22, 22] #[4]) (by kernel_rfl),
        Lib.run_overlaps_apart w 22 4 63 Try.underlying22 2 Try.sizeOf63 ⟨vb, 0, none⟩ ⟨g, (i + 1) * 2, none⟩ 1 1 lb cb hvb 63 63 2 cur.size (by simp [World.shape?, hv]) (by simp [World.shape?, hg]) (by omega) (by simp [World.frozen?, hv]) (by simp [World.frozen?, hv])]
      rfl
    have hdl : (xs.drop (2 * i)).length = (n - i) * 2 := by rw [List.length_drop, hxl]; omega
    have hcur : ∀ j u, xs[j]? = some u → cur[j]? = some u := fun j u hj => by
      have hj' : j < n * 2 := by rw [← hxl]; exact (List.getElem?_eq_some_iff.1 hj).1
      have e1 : (cur.toList.take (n * 2))[j]? = xs[j]? := by rw [htake]
      rw [List.getElem?_take, if_pos hj', Array.getElem?_toList, hj] at e1
      exact e1
    have hcp1 : ∀ (W : World), W.heap[g]? = some (.cells cur 63 (0, 0)) → ∀ ty dc sc, (Builtin.copy_ #[22, 22] ty #[.slice (some ⟨g, (i + 1) * 2, none⟩) (n - i) dc, .slice (some ⟨g, i * 2, none⟩) (n + 1 - i) sc]).run Try.prog W = .ok (goInt (Nat.min (n + 1 - i) (n - i) : Nat)) (W.setRow g (cur.toList.take ((i + 1) * 2) ++ xs.drop (2 * i) ++ cur.toList.drop ((i + 1) * 2 + (xs.drop (2 * i)).length)).toArray) := fun W hW ty dc sc =>
      run_copy_k W 22 22 ty 63 2 g ((i + 1) * 2) (n - i) dc ⟨g, i * 2, none⟩ (n + 1 - i) sc cur 63 (xs.drop (2 * i)) Try.underlying22 size63 hW (by rw [hdl]; simp only [Nat.min_def]; split <;> omega)
        (fun j v hj => by
          rw [List.getElem?_drop] at hj
          have := hcur _ _ hj
          rw [Addr.add_lit]
          simp [World.cell?, hW, Nat.mul_comm i 2, this])
        (by rw [hdl, hcs]; omega) (fun v hv => h1 v (List.mem_of_mem_drop hv))
    have hi1 : (i : Int) ≤ n := by omega
    have hi2 : ¬ ((i : Int) = n) := by omega
    have hi3 : (i : Int) + 1 ≤ n + 1 := by omega
    have hi4 : (i : Int) ≤ n + 1 := by omega
    clear hown
    go_enter Try.func65, Try.ntmps65
    go_wp2_with (simp only [hov])
    obtain ⟨cur2, hc2⟩ : ∃ c2, c2 = (cur.toList.take ((i + 1) * 2) ++ xs.drop (2 * i) ++ cur.toList.drop ((i + 1) * 2 + (xs.drop (2 * i)).length)).toArray := ⟨_, rfl⟩
    rw [← hc2] at hcp1
    have hs2 : cur2.size = (n + 1) * 2 := by
      rw [hc2, hdl]; simp [hcs, hdl, hxl]; omega
    have hcp2 : ∀ (W : World), W.heap[g]? = some (.cells cur2 63 (0, 0)) → W.heap[vb]? = some (.cells #[x, y] 63 (0, 0)) → ∀ ty dc, (Builtin.copy_ #[22, 22] ty #[.slice (some ⟨g, i * 2, none⟩) (n + 1 - i) dc, .slice (some ⟨vb, 0, none⟩) 1 1]).run Try.prog W = .ok (goInt (Nat.min 1 (n + 1 - i) : Nat)) (W.setRow g (cur2.toList.take (i * 2) ++ [x, y] ++ cur2.toList.drop (i * 2 + 2)).toArray) := fun W hW hV ty dc =>
      run_copy_k W 22 22 ty 63 2 g (i * 2) (n + 1 - i) dc ⟨vb, 0, none⟩ 1 1 cur2 63 [x, y] Try.underlying22 size63 hW (by simp only [Nat.min_def, List.length_cons, List.length_nil]; split <;> omega)
        (fun j u hj => by
          match j, hj with
          | 0, hj => simp at hj; subst hj; simp [Addr.add, World.cell?, hV]
          | 1, hj => simp at hj; subst hj; simp [Addr.add, World.cell?, hV])
        (by simp only [List.length_cons, List.length_nil]; omega) (fun u hu => by simp at hu; rcases hu with rfl | rfl <;> assumption)
    have HG := Lib.hid hg
    have HV := Lib.hid hv
    have hmid := ins_mid cur.toList xs n i x y hilt (by simpa using hcs) htake
    rw [show cur.toList.take ((i + 1) * 2) ++ xs.drop (2 * i) ++ cur.toList.drop ((i + 1) * 2 + (xs.drop (2 * i)).length) = cur2.toList from by rw [hc2]] at hmid
    have HMID := Lib.hid hmid
    clear hcur hc2 htake hcs hvc h1 hdl hg hv hmid
    have mixed : Try.prog.follows Departure.mixedOrders = true := by kernel_rfl
    have hw1 : IntKind.i64.wrap ((i : Int) + 1) = (i : Int) + 1 := by rw [IntKind.wrap_i64]; omega
    have hb1 : (0 : Int) ≤ (i : Int) + 1 := by omega
    have htn : ((i : Int) + 1).toNat = i + 1 := by omega
    have hb2 : ¬ (n = i) := by omega
    have hb5 : ¬ (n + 1 = i) := by omega
    have hC1 := hcp1 w.drew HG.out 3 (n - i) (n + 1 - i)
    go_region_law_o (refine step_copy_run rfl (.tmp 73) (.tmp 76) 22 22 rfl (.slice (some ⟨g, (i + 1) * 2, none⟩) (n - i) (n - i)) (.slice (some ⟨g, i * 2, none⟩) (n + 1 - i) (n + 1 - i)) (by simp [Act.eval, Act.put]) (by simp [Act.eval, Act.put]) hC1 ?_)
    have hW1g : (w.drew.setRow g cur2).heap[g]? = some (.cells cur2 63 (0, 0)) := setRow_heap w.drew g cur cur2 63 _ HG.out
    have hW1v : (w.drew.setRow g cur2).heap[vb]? = some (.cells #[x, y] 63 (0, 0)) := (setRow_other w.drew g vb cur2 hvb).trans HV.out
    have hC2 := hcp2 _ hW1g hW1v 3 (n + 1 - i)
    clear hcp1 hcp2 hC1
    go_wp2_with (at_builtin; refine wpList_copy_run _ rfl _ _ 22 22 rfl (.slice (some ⟨g, i * 2, none⟩) (n + 1 - i) (n + 1 - i)) (.slice (some ⟨vb, 0, none⟩) 1 1) rfl rfl hC2 ?_)
    go_ret
    have hil : (insRow xs i x y).length = (n + 1) * 2 := by unfold insRow; simp; omega
    refine ⟨rfl, ⟨hil, .inr ⟨g, n + 1, _, rfl, hbg, setRow_heap _ g _ _ 63 _ hW1g, Nat.le_refl _, hcm, ?_, ?_⟩⟩, ⟨rfl, rfl, rfl, by simp [World.setRow], fun k _ hk => ?_⟩⟩
    · simp; omega
    · have hm : cur2.toList.take (i * 2) ++ x :: y :: cur2.toList.drop (i * 2 + 2) = insRow xs i x y := HMID.out
      rw [hm, List.take_of_length_le (by simp [hil])]
    · have hkg : k ≠ g := fun e => hk (by rw [e])
      rw [setRow_other _ g k _ hkg, setRow_other _ g k _ hkg]
      rfl
end Go.Proofs.Ytcgimjoebkeifaa.QAdd

/- qdigest.Compress as a plain function: a map as a list of pairs, the heap as a list, a number of rounds; no program in sight. No conditions. -/
namespace Go.Proofs.QComp
open Go.Proofs.QHeap
abbrev Cs := List (Int × Int)
def get (cs : Cs) (k : Int) : Int := (cs.lookup k).getD 0
def del (cs : Cs) (k : Int) : Cs := cs.filter (fun p => p.1 != k)
def put (cs : Cs) (k v : Int) : Cs := (k, v) :: del cs k

theorem lookup_del_same (cs : Cs) (k : Int) : (del cs k).lookup k = none := by
  induction cs with
  | nil => rfl
  | cons p cs ih =>
    unfold del at ih ⊢
    rw [List.filter_cons]
    by_cases h : p.1 = k
    · rw [if_neg (by simp [h])]; exact ih
    · rw [if_pos (by simpa using h)]
      obtain ⟨a, b⟩ := p
      rw [List.lookup_cons]
      have : (k == a) = false := by simpa using fun e => h e.symm
      rw [this]
      exact ih
theorem lookup_del_other (cs : Cs) (k j : Int) (hne : j ≠ k) : (del cs k).lookup j = cs.lookup j := by
  induction cs with
  | nil => rfl
  | cons p cs ih =>
    unfold del at ih ⊢
    obtain ⟨a, b⟩ := p
    rw [List.filter_cons]
    by_cases h : a = k
    · rw [if_neg (by simp [h]), List.lookup_cons]
      have : (j == a) = false := by simpa using fun e => hne (e.trans h)
      rw [this]
      exact ih
    · rw [if_pos (by simpa using h), List.lookup_cons, List.lookup_cons, ih]
theorem lookup_put_same (cs : Cs) (k v : Int) : (put cs k v).lookup k = some v := by simp [put]
theorem lookup_put_other (cs : Cs) (k v j : Int) (hne : j ≠ k) : (put cs k v).lookup j = cs.lookup j := by
  unfold put
  rw [List.lookup_cons]
  have : (j == k) = false := by simpa using hne
  rw [this]
  exact lookup_del_other cs k j hne
theorem mem_del {cs : Cs} {k : Int} {p : Int × Int} : p ∈ del cs k ↔ p ∈ cs ∧ p.1 ≠ k := by simp [del]
def keys (cs : Cs) : List Int := cs.map (·.1)
theorem keys_del_sub (cs : Cs) (k : Int) : (keys (del cs k)).Sublist (keys cs) := by
  unfold keys del
  exact List.Sublist.map _ List.filter_sublist
theorem nodup_del {cs : Cs} (h : (keys cs).Nodup) (k : Int) : (keys (del cs k)).Nodup := h.sublist (keys_del_sub cs k)
theorem nodup_put {cs : Cs} (h : (keys cs).Nodup) (k v : Int) : (keys (put cs k v)).Nodup := by
  unfold put keys
  rw [List.map_cons, List.nodup_cons]
  refine ⟨?_, nodup_del h k⟩
  intro hm
  obtain ⟨p, hp, he⟩ := List.mem_map.1 hm
  exact (mem_del.1 hp).2 he
theorem lookup_mem {cs : Cs} (h : (keys cs).Nodup) {k v : Int} : cs.lookup k = some v ↔ (k, v) ∈ cs := by
  induction cs with
  | nil => simp
  | cons p cs ih =>
    obtain ⟨a, b⟩ := p
    unfold keys at h ih
    rw [List.map_cons, List.nodup_cons] at h
    rw [List.lookup_cons, List.mem_cons]
    by_cases e : k = a
    · subst e
      simp only [beq_self_eq_true]
      constructor
      · intro hh; injection hh with hh; subst hh; exact .inl rfl
      · rintro (hh | hh)
        · injection hh with _ hh; rw [hh]
        · exact absurd (List.mem_map.2 ⟨_, hh, rfl⟩) h.1
    · have : (k == a) = false := by simpa using e
      rw [this]
      show List.lookup k cs = some v ↔ _
      rw [ih h.2]
      constructor
      · exact .inr
      · rintro (hh | hh)
        · injection hh with hh _; exact absurd hh e
        · exact hh
theorem lookup_isSome_iff {cs : Cs} {k : Int} : (cs.lookup k).isSome = true ↔ k ∈ keys cs := by
  induction cs with
  | nil => simp [keys]
  | cons p cs ih =>
    obtain ⟨a, b⟩ := p
    unfold keys at ih ⊢
    rw [List.lookup_cons, List.map_cons, List.mem_cons]
    by_cases e : k = a
    · subst e; simp
    · have : (k == a) = false := by simpa using e
      rw [this]
      simp only [e, false_or]
      exact ih

/-- The nodes into the map, their parents into the heap's list. -/
def fillS : List (Int × Int) → Cs → List Int → Cs × List Int
  | [], cs, td => (cs, td)
  | p :: xs, cs, td => fillS xs (put cs p.1 p.2) (if 1 < p.1 then td ++ [p.1 / 2] else td)
theorem fillS_append (xs ys : List (Int × Int)) (cs : Cs) (td : List Int) : fillS (xs ++ ys) cs td = fillS ys (fillS xs cs td).1 (fillS xs cs td).2 := by
  induction xs generalizing cs td with
  | nil => rfl
  | cons p xs ih => simp only [List.cons_append, fillS, ih]
theorem fillS_td_len (xs : List (Int × Int)) (cs : Cs) (td : List Int) : (fillS xs cs td).2.length ≤ td.length + xs.length := by
  induction xs generalizing cs td with
  | nil => simp [fillS]
  | cons p xs ih =>
    unfold fillS
    refine Nat.le_trans (ih _ _) ?_
    split <;> simp <;> omega
theorem fillS_cs_len (xs : List (Int × Int)) (cs : Cs) (td : List Int) : (fillS xs cs td).1.length ≤ cs.length + xs.length := by
  induction xs generalizing cs td with
  | nil => simp [fillS]
  | cons p xs ih =>
    unfold fillS
    refine Nat.le_trans (ih _ _) ?_
    have : (put cs p.1 p.2).length ≤ cs.length + 1 := by
      unfold put del
      have := List.length_filter_le (fun q : Int × Int => q.1 != p.1) cs
      simp only [List.length_cons]
      omega
    simp only [List.length_cons]
    omega

/-- A number that is a small key, and what its triple counts. -/
def Fine (cs : Cs) (m : Int) : Prop := (0 ≤ m ∧ m ≤ 1099511627776) ∧ (0 ≤ get cs m ∧ get cs m ≤ 1125899906842624) ∧ (0 ≤ get cs (2 * m) ∧ get cs (2 * m) ≤ 1125899906842624) ∧ (0 ≤ get cs (2 * m + 1) ∧ get cs (2 * m + 1) ≤ 1125899906842624)
instance (cs : Cs) (m : Int) : Decidable (Fine cs m) := by unfold Fine; exact inferInstance
def Small (cs : Cs) (td : List Int) : Prop := td.length ≤ 1073741824 ∧ cs.length ≤ 1073741824
instance (cs : Cs) (td : List Int) : Decidable (Small cs td) := by unfold Small; exact inferInstance

def kids (cs : Cs) (m : Int) : Int := get cs (2 * m) + get cs (2 * m + 1)
/-- The triple's counts go into the node m. -/
def merged (cs : Cs) (m : Int) : Cs := del (del (put cs m (get cs m + kids cs m)) (2 * m)) (2 * m + 1)
def todo (lim m : Int) (td : List Int) : List Int :=
  let t1 := if 2 * m < lim then pushL (pushL td (2 * m)) (2 * m + 1) else td
  if 1 < m then pushL t1 (m / 2) else t1
def loop (thr lim : Int) : Nat → Cs → List Int → Option Cs
  | 0, _, _ => none
  | k + 1, cs, td =>
    if td.length = 0 then some cs
    else if Small cs td ∧ Fine cs (popV td) then
      (if kids cs (popV td) = 0 ∨ thr < get cs (popV td) + kids cs (popV td) then loop thr lim k cs (popR td)
       else loop thr lim k (merged cs (popV td)) (todo lim (popV td) (popR td)))
    else none
theorem loop_mono (thr lim : Int) : ∀ (k : Nat) (cs : Cs) (td : List Int) (r : Cs), loop thr lim k cs td = some r → loop thr lim (k + 1) cs td = some r
  | 0, _, _, _, h => by simp [loop] at h
  | k + 1, cs, td, r, h => by
    unfold loop at h ⊢
    by_cases h0 : td.length = 0
    · rw [if_pos h0] at h ⊢; exact h
    · rw [if_neg h0] at h ⊢
      by_cases h1 : Small cs td ∧ Fine cs (popV td)
      · rw [if_pos h1] at h ⊢
        by_cases h2 : kids cs (popV td) = 0 ∨ thr < get cs (popV td) + kids cs (popV td)
        · rw [if_pos h2] at h ⊢; exact loop_mono thr lim k _ _ _ h
        · rw [if_neg h2] at h ⊢; exact loop_mono thr lim k _ _ _ h
      · rw [if_neg h1] at h; cases h

/-- In the order of the ids. -/
def sorted (cs : Cs) : Cs := cs.mergeSort (fun x y => decide (x.1 ≤ y.1))
/-- The nodes are such that the walk's bounds hold. -/
def Okay (xs : List (Int × Int)) : Prop := xs.length ≤ 1073741824 ∧ ∀ p ∈ xs, (0 ≤ p.1 ∧ p.1 ≤ 1099511627776) ∧ (0 ≤ p.2 ∧ p.2 ≤ 1125899906842624)
instance (xs : List (Int × Int)) : Decidable (Okay xs) := by unfold Okay; exact inferInstance
def Keyed (cs : Cs) : Prop := ∀ p ∈ cs, (0 ≤ p.1 ∧ p.1 ≤ 1099511627776) ∧ (0 ≤ p.2 ∧ p.2 ≤ 1125899906842624)
instance (cs : Cs) : Decidable (Keyed cs) := by unfold Keyed; exact inferInstance
/-- The compressed nodes. -/
def comp (k : Nat) (bits K count : Int) (xs : List (Int × Int)) : Option Cs :=
  if (1 ≤ bits ∧ bits ≤ 40) ∧ (1 ≤ K ∧ K ≤ 1099511627776) ∧ (0 ≤ count ∧ count ≤ 1125899906842624) ∧ Okay xs then
    (loop (count / K) (2 ^ bits.toNat) k (fillS xs [] []).1 (heapInit (fillS xs [] []).2)).bind fun cs => if Keyed cs ∧ cs.length ≤ 1000000 then some (sorted cs) else none
  else none
theorem comp_mono (k : Nat) (bits K count : Int) (xs : List (Int × Int)) (r : Cs) (h : comp k bits K count xs = some r) : comp (k + 1) bits K count xs = some r := by
  unfold comp at h ⊢
  by_cases h0 : (1 ≤ bits ∧ bits ≤ 40) ∧ (1 ≤ K ∧ K ≤ 1099511627776) ∧ (0 ≤ count ∧ count ≤ 1125899906842624) ∧ Okay xs
  · rw [if_pos h0] at h ⊢
    obtain ⟨cs, h1, h2⟩ := Option.bind_eq_some_iff.1 h
    rw [loop_mono _ _ _ _ _ _ h1]
    exact h2
  · rw [if_neg h0] at h; cases h
end Go.Proofs.QComp

/- container/heap's up and down over *qdigest.greatest. -/
namespace Go.Proofs.Ytcgimjoebkeifaa.QHeap
open Go.RowKit Go.Proofs.YtcgimjoebkeifaaW.PrintWords Go.Proofs.QHeap
set_option maxHeartbeats 1000000
/-- What a heap's step leaves. -/
def After (B g r cap : Nat) (R : List Int) (w : World) (e : Ending) (w' : World) : Prop := e = .returned (.tuple #[]) ∧ Hp w' B g r cap R ∧ Fr (fun k => k = r) w w'
theorem LessI {w : World} {B g r cap : Nat} {L : List Int} (h : Hp w B g r cap L) (n : Nat) (hn : L.length = n) (i j : Int) (hi0 : 0 ≤ i) (hi : i < n) (hj0 : 0 ≤ j) (hj : j < n) :
    Calls Try.prog 138 #[.slice (some ⟨r, 0, none⟩) n cap, .int .i64 i, .int .i64 j] w fun e w' => e = .returned (.bool (decide (L.getD j.toNat 0 < L.getD i.toNat 0))) ∧ ∃ m, w' = w.drewN m := by
  subst hn
  obtain ⟨i, rfl⟩ := Int.eq_ofNat_of_zero_le hi0
  obtain ⟨j, rfl⟩ := Int.eq_ofNat_of_zero_le hj0
  exact Less_calls h i j (by omega) (by omega)
theorem SwapI {w : World} {B g r cap : Nat} {L : List Int} (h : Hp w B g r cap L) (n : Nat) (hn : L.length = n) (i j : Int) (hi0 : 0 ≤ i) (hi : i < n) (hj0 : 0 ≤ j) (hj : j < n) :
    Calls Try.prog 139 #[.slice (some ⟨r, 0, none⟩) n cap, .int .i64 i, .int .i64 j] w fun e w' => e = .returned (.tuple #[]) ∧ Hp w' B g r cap (swapL L i.toNat j.toNat) ∧ Fr (fun k => k = r) w w' := by
  subst hn
  obtain ⟨i, rfl⟩ := Int.eq_ofNat_of_zero_le hi0
  obtain ⟨j, rfl⟩ := Int.eq_ofNat_of_zero_le hj0
  exact Swap_calls h i j (by omega) (by omega)
theorem Hp.cellN {w : World} {B g r cap : Nat} {L : List Int} (h : Hp w B g r cap L) (n : Nat) (hn : L.length = n) : w.cell? ⟨g, 0, none⟩ = some (.slice (some ⟨r, 0, none⟩) n cap) := by subst hn; exact h.cell
set_option maxRecDepth 100000 in
theorem up_calls (w : World) (B g r cap n : Nat) (L : List Int) (h : Hp w B g r cap L) (j : Nat) (hn : L.length = n) (hj : j < n) (hm : n ≤ 9223372036854775807) :
    Calls Try.prog 60 #[.iface 70 (.pointer (some ⟨g, 0, none⟩)), .int .i64 j] w (After B g r cap (upF L j) w) := by
  have HN := Lib.hid hn
  clear hn
  generalize hF : upF L j = F
  have HF := Lib.hid hF
  clear hF
  go_enter Try.func60, Try.ntmps60
  go_wp2
  go_loopw [1] (fun s1 wr => ∃ (L' : List Int) (j' : Nat), s1 = .int .i64 j' ∧ Hp wr B g r cap L' ∧ Fr (fun k => k = r) w wr ∧ L'.length = n ∧ j' < n ∧ upF L' j' = F) (fun s1 _ => (intOf s1).toNat)
  case atStart => exact ⟨L, j, rfl, h, Fr.refl _ _, HN.out, hj, HF.out⟩
  case round =>
    obtain ⟨L', j', rfl, hp, hf, hl, hj', hu⟩ := hrel
    have HU := Lib.hid hu
    have HL := Lib.hid hl
    clear hu hl
    by_cases hz : j' = 0
    · subst hz
      go_wp2
      go_end0
      refine ⟨rfl, ?_, hf⟩
      rw [← HU.out, upF_top _ _ rfl]
      exact hp
    · have h0 : 0 ≤ (j' : Int) - 1 := by omega
      have h1 : (((j' : Int) - 1) / 2 == (j' : Int)) = false := beq_eq_false_iff_ne.2 (by omega)
      have e1 : (((j' : Int) - 1) / 2).toNat = (j' - 1) / 2 := by omega
      have hm := meth_Less g wr _ (hp.cellN n HL.out)
      have hms := fun m => meth_Swap g (wr.drewN m) _ ((hp.drewN m).cellN n HL.out)
      have hless := LessI hp n HL.out (j' : Int) (((j' : Int) - 1) / 2) (by omega) (by omega) (by omega) (by omega)
      have hswap := fun m => SwapI (hp.drewN m) n HL.out (((j' : Int) - 1) / 2) (j' : Int) (by omega) (by omega) (by omega) (by omega)
      rw [e1] at hless hswap
      simp only [Int.toNat_natCast] at hless hswap
      have E1 := Lib.hid e1
      clear e1
      by_cases hlt : L'.getD ((j' - 1) / 2) 0 < L'.getD j' 0
      · rw [decide_eq_true hlt] at hless
        have hg := upF_go L' j' (by omega) hlt
        rw [HU.out] at hg
        have hsl := (swapL_length L' ((j' - 1) / 2) j').trans HL.out
        have HG := Lib.hid hg
        have HSL := Lib.hid hsl
        clear hg hsl
        generalize swapL L' ((j' - 1) / 2) j' = L2 at HG HSL hswap
        go_wp2_with (first | (go_at_call 138; refine hless.mono ?_; rintro e w' ⟨rfl, m, rfl⟩) | (go_at_call 139; refine (hswap _).mono ?_; rintro e w' ⟨rfl, hp2, hf2⟩))
        go_roundw
        case rel => exact ⟨L2, (j' - 1) / 2, by congr 1; omega, hp2, hf.trans ((Fr.drewN _ _ _).trans hf2), HSL.out, by omega, HG.out.symm⟩
        case measure => simp [intOf]; omega
      · rw [decide_eq_false hlt] at hless
        go_wp2_with (go_at_call 138; refine hless.mono ?_; rintro e w' ⟨rfl, m, rfl⟩)
        go_end0
        refine ⟨rfl, ?_, hf.trans (Fr.drewN _ _ _)⟩
        rw [← HU.out, upF_stay _ _ (by omega)]
        exact hp.drewN _
end Go.Proofs.Ytcgimjoebkeifaa.QHeap

/- container/heap's down over *qdigest.greatest. -/
namespace Go.Proofs.Ytcgimjoebkeifaa.QHeap
open Go.RowKit Go.Proofs.YtcgimjoebkeifaaW.PrintWords Go.Proofs.QHeap
set_option maxHeartbeats 2000000
/-- What 'down' leaves: some bool, and the list. -/
def AfterB (B g r cap : Nat) (R : List Int) (w : World) (e : Ending) (w' : World) : Prop := (∃ b : Bool, e = .returned (.bool b)) ∧ Hp w' B g r cap R ∧ Fr (fun k => k = r) w w'
set_option maxRecDepth 100000 in
theorem down_calls (w : World) (B g r cap len : Nat) (L : List Int) (h : Hp w B g r cap L) (i0 n : Nat) (hn : L.length = len) (hi : i0 < len) (hnl : n ≤ len) (hm : len ≤ 4611686018427387903) :
    Calls Try.prog 59 #[.iface 70 (.pointer (some ⟨g, 0, none⟩)), .int .i64 i0, .int .i64 n] w (AfterB B g r cap (dnF L i0 n) w) := by
  have HN := Lib.hid hn
  clear hn
  generalize hF : dnF L i0 n = F
  have HF := Lib.hid hF
  clear hF
  go_enter Try.func59, Try.ntmps59
  go_wp2
  go_loopw [7] (fun s7 wr => ∃ (L' : List Int) (i : Nat), s7 = .int .i64 i ∧ Hp wr B g r cap L' ∧ Fr (fun k => k = r) w wr ∧ L'.length = len ∧ i < len ∧ dnF L' i n = F) (fun s7 _ => len - (intOf s7).toNat)
  case atStart => exact ⟨L, i0, rfl, h, Fr.refl _ _, HN.out, hi, HF.out⟩
  case round =>
    obtain ⟨L', i, rfl, hp, hf, hl, hi', hu⟩ := hrel
    have HU := Lib.hid hu
    have HL := Lib.hid hl
    clear hu hl
    by_cases hz : n ≤ 2 * i + 1
    · have hz' : (n : Int) ≤ 2 * (i : Int) + 1 := by omega
      go_wp2
      go_ret
      refine ⟨⟨_, rfl⟩, ?_, hf⟩
      rw [← HU.out, dnF_leaf _ _ _ hz]
      exact hp
    · have h1 : ¬ ((n : Int) ≤ 2 * (i : Int) + 1) := by omega
      have h1a : decide ((n : Int) ≤ 2 * (i : Int) + 1) = false := decide_eq_false h1
      have h2 : (2 * (i : Int) + 1 < n) := by omega
      have h2a : decide (2 * (i : Int) + 1 < 0) = false := decide_eq_false (by omega)
      by_cases hz2 : 2 * i + 2 < n
      · have h3 : 2 * (i : Int) + 1 + 1 < n := by omega
        have hless1 := LessI hp len HL.out (2 * (i : Int) + 1 + 1) (2 * (i : Int) + 1) (by omega) (by omega) (by omega) (by omega)
        rw [show (2 * (i : Int) + 1 + 1).toNat = 2 * i + 2 from by omega, show (2 * (i : Int) + 1).toNat = 2 * i + 1 from by omega] at hless1
        by_cases hk : L'.getD (2 * i + 1) 0 < L'.getD (2 * i + 2) 0
        · rw [decide_eq_true hk] at hless1
          have hkid : kid L' i n = 2 * i + 2 := by unfold kid; rw [if_pos ⟨hz2, hk⟩]
          have hk1 : i < 2 * i + 2 ∧ 2 * i + 2 < n := by omega
          have ej : (2 * (i : Int) + 1 + 1).toNat = 2 * i + 2 := by omega
          have hless2 := fun m => LessI (hp.drewN m) len HL.out (2 * (i : Int) + 1 + 1) (i : Int) (by omega) (by omega) (by omega) (by omega)
          have hless20 := LessI hp len HL.out (2 * (i : Int) + 1 + 1) (i : Int) (by omega) (by omega) (by omega) (by omega)
          have hswap := fun m => SwapI (hp.drewN m) len HL.out (i : Int) (2 * (i : Int) + 1 + 1) (by omega) (by omega) (by omega) (by omega)
          rw [ej] at hless2 hless20 hswap
          simp only [Int.toNat_natCast] at hless2 hless20 hswap
          clear ej
          have hm0 := meth_Less g wr _ (hp.cellN len HL.out)
          have hm1 := fun m => meth_Less g (wr.drewN m) _ ((hp.drewN m).cellN len HL.out)
          have hms := fun m => meth_Swap g (wr.drewN m) _ ((hp.drewN m).cellN len HL.out)
          by_cases hlt : L'.getD i 0 < L'.getD (2 * i + 2) 0
          · rw [decide_eq_true hlt] at hless2 hless20
            have hg := dnF_go L' i n (by omega) (by rw [hkid]; exact hlt)
            rw [HU.out, hkid] at hg
            have hsl := (swapL_length L' i (2 * i + 2)).trans HL.out
            have HG := Lib.hid hg
            have HSL := Lib.hid hsl
            have HK := Lib.hid hkid
            clear hg hsl hkid
            generalize swapL L' i (2 * i + 2) = L2 at HG HSL hswap
            go_wp2_with fail
            refine hless1.mono ?_
            rintro e w' ⟨rfl, m1, rfl⟩
            go_wp2_with fail
            refine (hless2 _).mono ?_
            rintro e w' ⟨rfl, m, rfl⟩
            go_wp2_with fail
            refine (hswap _).mono ?_
            rintro e w' ⟨rfl, hp2, hf2⟩
            go_wp2_with fail
            go_roundw
            case rel => exact ⟨L2, 2 * i + 2, by go_num, hp2, hf.trans ((Fr.drewN _ _ _).trans hf2), HSL.out, by omega, HG.out.symm⟩
            case measure => simp [intOf]; omega
          · rw [decide_eq_false hlt] at hless2 hless20
            have HK := Lib.hid hkid
            clear hkid
            go_wp2_with fail
            refine hless1.mono ?_
            rintro e w' ⟨rfl, m1, rfl⟩
            go_wp2_with fail
            refine (hless2 _).mono ?_
            rintro e w' ⟨rfl, m, rfl⟩
            go_wp2_with fail
            go_ret
            refine ⟨⟨_, rfl⟩, ?_, hf.trans (Fr.drewN _ _ _)⟩
            rw [← HU.out, dnF_stay _ _ _ (by rw [HK.out]; omega)]
            exact hp.drewN _
        · rw [decide_eq_false hk] at hless1
          have hkid : kid L' i n = 2 * i + 1 := by unfold kid; rw [if_neg (fun h => hk h.2)]
          have hk1 : i < 2 * i + 1 ∧ 2 * i + 1 < n := by omega
          have ej : (2 * (i : Int) + 1).toNat = 2 * i + 1 := by omega
          have hless2 := fun m => LessI (hp.drewN m) len HL.out (2 * (i : Int) + 1) (i : Int) (by omega) (by omega) (by omega) (by omega)
          have hless20 := LessI hp len HL.out (2 * (i : Int) + 1) (i : Int) (by omega) (by omega) (by omega) (by omega)
          have hswap := fun m => SwapI (hp.drewN m) len HL.out (i : Int) (2 * (i : Int) + 1) (by omega) (by omega) (by omega) (by omega)
          rw [ej] at hless2 hless20 hswap
          simp only [Int.toNat_natCast] at hless2 hless20 hswap
          clear ej
          have hm0 := meth_Less g wr _ (hp.cellN len HL.out)
          have hm1 := fun m => meth_Less g (wr.drewN m) _ ((hp.drewN m).cellN len HL.out)
          have hms := fun m => meth_Swap g (wr.drewN m) _ ((hp.drewN m).cellN len HL.out)
          by_cases hlt : L'.getD i 0 < L'.getD (2 * i + 1) 0
          · rw [decide_eq_true hlt] at hless2 hless20
            have hg := dnF_go L' i n (by omega) (by rw [hkid]; exact hlt)
            rw [HU.out, hkid] at hg
            have hsl := (swapL_length L' i (2 * i + 1)).trans HL.out
            have HG := Lib.hid hg
            have HSL := Lib.hid hsl
            have HK := Lib.hid hkid
            clear hg hsl hkid
            generalize swapL L' i (2 * i + 1) = L2 at HG HSL hswap
            go_wp2_with fail
            refine hless1.mono ?_
            rintro e w' ⟨rfl, m1, rfl⟩
            go_wp2_with fail
            refine (hless2 _).mono ?_
            rintro e w' ⟨rfl, m, rfl⟩
            go_wp2_with fail
            refine (hswap _).mono ?_
            rintro e w' ⟨rfl, hp2, hf2⟩
            go_wp2_with fail
            go_roundw
            case rel => exact ⟨L2, 2 * i + 1, by go_num, hp2, hf.trans ((Fr.drewN _ _ _).trans hf2), HSL.out, by omega, HG.out.symm⟩
            case measure => simp [intOf]; omega
          · rw [decide_eq_false hlt] at hless2 hless20
            have HK := Lib.hid hkid
            clear hkid
            go_wp2_with fail
            refine hless1.mono ?_
            rintro e w' ⟨rfl, m1, rfl⟩
            go_wp2_with fail
            refine (hless2 _).mono ?_
            rintro e w' ⟨rfl, m, rfl⟩
            go_wp2_with fail
            go_ret
            refine ⟨⟨_, rfl⟩, ?_, hf.trans (Fr.drewN _ _ _)⟩
            rw [← HU.out, dnF_stay _ _ _ (by rw [HK.out]; omega)]
            exact hp.drewN _
      · have h3 : ¬ (2 * (i : Int) + 1 + 1 < n) := by omega
        have h3a : decide (2 * (i : Int) + 1 + 1 < n) = false := decide_eq_false h3
        have hkid : kid L' i n = 2 * i + 1 := by unfold kid; rw [if_neg (fun h => hz2 h.1)]
        have hk1 : i < 2 * i + 1 ∧ 2 * i + 1 < n := by omega
        have ej : (2 * (i : Int) + 1).toNat = 2 * i + 1 := by omega
        have hless2 := fun m => LessI (hp.drewN m) len HL.out (2 * (i : Int) + 1) (i : Int) (by omega) (by omega) (by omega) (by omega)
        have hless20 := LessI hp len HL.out (2 * (i : Int) + 1) (i : Int) (by omega) (by omega) (by omega) (by omega)
        have hswap := fun m => SwapI (hp.drewN m) len HL.out (i : Int) (2 * (i : Int) + 1) (by omega) (by omega) (by omega) (by omega)
        rw [ej] at hless2 hless20 hswap
        simp only [Int.toNat_natCast] at hless2 hless20 hswap
        clear ej
        have hm0 := meth_Less g wr _ (hp.cellN len HL.out)
        have hm1 := fun m => meth_Less g (wr.drewN m) _ ((hp.drewN m).cellN len HL.out)
        have hms := fun m => meth_Swap g (wr.drewN m) _ ((hp.drewN m).cellN len HL.out)
        by_cases hlt : L'.getD i 0 < L'.getD (2 * i + 1) 0
        · rw [decide_eq_true hlt] at hless2 hless20
          have hg := dnF_go L' i n (by omega) (by rw [hkid]; exact hlt)
          rw [HU.out, hkid] at hg
          have hsl := (swapL_length L' i (2 * i + 1)).trans HL.out
          have HG := Lib.hid hg
          have HSL := Lib.hid hsl
          have HK := Lib.hid hkid
          clear hg hsl hkid
          generalize swapL L' i (2 * i + 1) = L2 at HG HSL hswap
          go_wp2_with fail
          refine (hless20).mono ?_
          rintro e w' ⟨rfl, m, rfl⟩
          go_wp2_with fail
          refine (hswap _).mono ?_
          rintro e w' ⟨rfl, hp2, hf2⟩
          go_wp2_with fail
          go_roundw
          case rel => exact ⟨L2, 2 * i + 1, by go_num, hp2, hf.trans ((Fr.drewN _ _ _).trans hf2), HSL.out, by omega, HG.out.symm⟩
          case measure => simp [intOf]; omega
        · rw [decide_eq_false hlt] at hless2 hless20
          have HK := Lib.hid hkid
          clear hkid
          go_wp2_with fail
          refine (hless20).mono ?_
          rintro e w' ⟨rfl, m, rfl⟩
          go_wp2_with fail
          go_ret
          refine ⟨⟨_, rfl⟩, ?_, hf.trans (Fr.drewN _ _ _)⟩
          rw [← HU.out, dnF_stay _ _ _ (by rw [HK.out]; omega)]
          exact hp.drewN _
end Go.Proofs.Ytcgimjoebkeifaa.QHeap

/- The methods Len, Pop, Push of *qdigest.greatest. -/
namespace Go.Proofs.Ytcgimjoebkeifaa.QHeap
open Go.RowKit Go.Proofs.YtcgimjoebkeifaaW.PrintWords Go.Proofs.QHeap
set_option maxHeartbeats 2000000
set_option maxRecDepth 100000 in
theorem Len_calls (w : World) (a : Option Addr) (n cap : Nat) :
    Calls Try.prog 33 #[.slice a n cap] w fun e w' => e = .returned (.int .i64 n) ∧ w = w' := by
  go_enter Try.func33, Try.ntmps33
  go_wp2
  go_ret
  exact ⟨rfl, rfl⟩
set_option maxRecDepth 100000 in
theorem PopM_calls (w : World) (B g r cap n : Nat) (L : List Int) (h : Hp w B g r cap L) (hn : L.length = n + 1) :
    Calls Try.prog 140 #[.pointer (some ⟨g, 0, none⟩)] w fun e w' => e = .returned (.iface 3 (.int .i64 (L.getD n 0))) ∧ Hp w' B g r cap (L.take n) ∧ Fr (fun k => k = g) w w' := by
  have hcap := h.cap_le
  have hm := hcap.2
  unfold maxLen at hm
  have hc := h.cellN (n + 1) hn
  have hx := h.at_ n (by omega)
  have hf := h.free
  have hle : n + 1 ≤ 9223372036854775807 := by omega
  have hle2 : n + 1 ≤ cap := by omega
  have HN := Lib.hid hn
  clear hn
  generalize hv : L.getD n 0 = x at hx ⊢
  have HV := Lib.hid hv
  clear hv
  go_enter Try.func140, Try.ntmps140
  go_wp2
  go_ret
  refine ⟨rfl, ⟨h.ge, ?_, ?_⟩, ?_⟩
  · rw [List.length_take, HN.out, Nat.min_eq_left (by omega)]
    exact one_setCell h.box
  · rw [List.length_take, HN.out, Nat.min_eq_left (by omega)]
    refine ownsRow_setCell_other ?_ (by simpa [Value.ownBlock] using h.ne.symm) _
    have hr := h.row
    rw [HN.out] at hr
    obtain ⟨h1, h2⟩ := hr
    refine ⟨by simp [nums, HN.out], .inr ?_⟩
    rcases h2 with ⟨h2, _⟩ | ⟨r', cap', cur, h2, h3, h4, h5, h6, h7, h8⟩
    · simp at h2
    · simp at h2
      obtain ⟨rfl, rfl⟩ := h2
      refine ⟨_, _, cur, rfl, h3, h4, by omega, h6, h7, ?_⟩
      have e8 : nums .i64 (L.take n) = (nums .i64 L).take n := by simp [nums, List.map_take]
      rw [e8, ← h8, List.take_take]
      congr 1
      omega
  · exact ⟨rfl, rfl, rfl, by simp [World.setCell], fun k hk hn => Below.heap_setCell _ _ _ _ (by simpa using hn)⟩

theorem assert3 (x : Int) (w : World) : (Instr.typeAssert (.iface 3 (.int .i64 x)) 20 3 true).run Try.prog w = .ok (.tuple #[.int .i64 x, .bool true]) w := by kernel_rfl
theorem info3 : (Try.prog.info? 3).map (fun i => (i.zero, i.size, i.bytes)) = some (some (.int .i64 0), 1, 8) := by kernel_rfl
set_option maxRecDepth 100000 in
theorem PushM_calls (w : World) (B g r cap n : Nat) (L : List Int) (x : Int) (h : Hp w B g r cap L) (hn : L.length = n) (hlim : n < 17592186044416) :
    Calls Try.prog 141 #[.pointer (some ⟨g, 0, none⟩), .iface 3 (.int .i64 x)] w fun e w' => e = .returned (.tuple #[]) ∧ ∃ r' cap', Hp w' B g r' cap' (L ++ [x]) ∧ Fr (fun k => k = g ∨ k = r) w w' ∧ (r' = r ∨ w.heap.size ≤ r') := by
  have hc := h.cellN n hn
  have hf := h.free
  have hrow := h.row
  rw [hn] at hrow
  have hgl := h.lt
  have hrl := h.row_ge
  have hne := h.ne
  have hge := h.ge
  have HBOX := Lib.hid h.box
  have HN := Lib.hid hn
  clear hn h
  obtain ⟨i0, hi, hz0, hz1, hz2⟩ := info_parts info3
  have has := assert3 x w
  go_enter Try.func141, Try.ntmps141
  go_wp2_with (at_builtin; refine wpList_append_own_at _ rfl _ _ 68 rfl B 3 i0 (.int .i64 0) 1 8 Try.underlying68 hi hz0 hz1 hz2 rfl (by decide) _ _ _ rfl (hrow.alloc _) ⟨w.heap.size, 0, none⟩ 1 1 [.int .i64 x] rfl rfl (cell_one_new _ _ _) (by simp [Value.oneCell']) (by unfold maxLen; omega) (by omega) (by simp; omega) ?_; intro v' w1 hown' hgrow _ hat; obtain ⟨r', cap', rfl, hle', hm'⟩ := hown'.form (by omega); have hb1 := (hgrow.block g (by simp; omega) (fun e => hne (Option.some.inj e))).trans ((Below.heap_alloc w _ g hgl).trans HBOX.out); have hc1 := cell_of_one hb1; have hf1 := free_of_one hb1; clear hc hf; have HB1 := Lib.hid hb1; clear hb1)
  go_end0
  have hg2 : (w.alloc (Obj.cells #[Value.int IntKind.i64 x] 3)).grownBy w1 (some r) := hgrow
  have hne' : g ≠ r' := by
    rintro rfl
    rcases hown'.2 with ⟨h1, _⟩ | ⟨g', c', cur, h1, _, h2, _⟩
    · simp at h1
    · simp at h1
      obtain ⟨rfl, _⟩ := h1
      rw [HB1.out] at h2
      simp at h2
  refine ⟨rfl, r', cap', ⟨hge, ?_, ?_⟩, ⟨?_, ?_, ?_, ?_, ?_⟩, ?_⟩
  · rw [List.length_append, HN.out]
    exact one_setCell HB1.out
  · rw [List.length_append, HN.out]
    have e8 : nums .i64 (L ++ [x]) = nums .i64 L ++ [.int .i64 x] := by simp [nums]
    rw [e8]
    exact ownsRow_setCell_other hown' (fun e => hne' (Option.some.inj e).symm) _
  · exact hg2.os
  · exact hg2.tape
  · exact hg2.output
  · have := hg2.size
    simp [World.setCell] at this ⊢
    omega
  · intro k hk hn
    rw [Below.heap_setCell _ _ _ _ (by simp; omega), hg2.block k (by simp; omega) (fun e => hn (.inr (Option.some.inj e))), Below.heap_alloc w _ k hk]
  · rcases hat with h1 | h1
    · exact .inl (Option.some.inj h1)
    · have : r' = (w.alloc (Obj.cells #[Value.int IntKind.i64 x] 3)).heap.size := Option.some.inj h1
      simp at this
      omega
end Go.Proofs.Ytcgimjoebkeifaa.QHeap

/- container/heap's Init, Pop and Push over *qdigest.greatest. -/
namespace Go.Proofs.Ytcgimjoebkeifaa.QHeap
open Go.RowKit Go.Proofs.YtcgimjoebkeifaaW.PrintWords Go.Proofs.QHeap
set_option maxHeartbeats 2000000
set_option maxRecDepth 100000 in
theorem Init_calls (w : World) (B g r cap n : Nat) (L : List Int) (h : Hp w B g r cap L) (hn : L.length = n) (hm : n ≤ 4611686018427387903) :
    Calls Try.prog 32 #[.iface 70 (.pointer (some ⟨g, 0, none⟩))] w (After B g r cap (heapInit L) w) := by
  have hF : initL n (n / 2) L = heapInit L := by unfold heapInit; rw [hn]
  have hmL := meth_Len g w _ (h.cellN n hn)
  have HN := Lib.hid hn
  clear hn
  generalize heapInit L = F at hF ⊢
  have HF := Lib.hid hF
  clear hF
  have h0 : (0 : Int) ≤ n := by omega
  go_enter Try.func32, Try.ntmps32
  go_wp2_with (go_at_call 33; refine (Len_calls _ _ _ _).mono ?_; rintro e w' ⟨rfl, rfl⟩)
  go_loopw [3] (fun s3 wr => ∃ (L' : List Int) (k : Nat), s3 = .int .i64 ((k : Int) - 1) ∧ Hp wr B g r cap L' ∧ Fr (fun k => k = r) w wr ∧ L'.length = n ∧ k ≤ n / 2 ∧ initL n k L' = F) (fun s3 _ => (intOf s3 + 1).toNat)
  case atStart => exact ⟨L, n / 2, by first | rfl | (congr 1; omega), h, Fr.refl _ _, HN.out, Nat.le_refl _, HF.out⟩
  case round =>
    obtain ⟨L', k, rfl, hp, hf, hl, hk, hu⟩ := hrel
    have HU := Lib.hid hu
    have HL := Lib.hid hl
    clear hu hl
    cases k with
    | zero =>
      have hz : decide ((0 : Int) ≤ ((0 : Nat) : Int) - 1) = false := by decide
      go_wp2
      go_end0
      refine ⟨rfl, ?_, hf⟩
      rw [← HU.out]
      exact hp
    | succ k =>
      have e1 : ((k + 1 : Nat) : Int) - 1 = (k : Int) := by omega
      rw [e1]
      clear e1
      have hk0 : (0 : Int) ≤ k := by omega
      have hd := down_calls wr B g r cap n L' hp k n HL.out (by omega) (Nat.le_refl _) hm
      go_wp2_with (go_at_call 59; refine hd.mono ?_; rintro e w' ⟨⟨b, rfl⟩, hp2, hf2⟩)
      go_roundw
      case rel => exact ⟨dnF L' k n, k, rfl, hp2, hf.trans hf2, (dnF_length _ _ _).trans HL.out, by omega, HU.out⟩
      case measure => simp [intOf] <;> omega

theorem popR_of {L : List Int} {n : Nat} (hn : L.length = n + 1) : popR L = (dnF (swapL L 0 n) 0 n).take n ∧ popV L = (dnF (swapL L 0 n) 0 n).getD n 0 := by
  unfold popR popV popL
  rw [hn]
  exact ⟨rfl, rfl⟩
set_option maxRecDepth 100000 in
theorem Pop_calls (w : World) (B g r cap n : Nat) (L : List Int) (h : Hp w B g r cap L) (hn : L.length = n + 1) (hm : n + 1 ≤ 4611686018427387903) :
    Calls Try.prog 34 #[.iface 70 (.pointer (some ⟨g, 0, none⟩))] w fun e w' => e = .returned (.iface 3 (.int .i64 (popV L))) ∧ Hp w' B g r cap (popR L) ∧ Fr (fun k => k = g ∨ k = r) w w' := by
  have hpo := popR_of hn
  rw [hpo.1, hpo.2]
  clear hpo
  have hmL := meth_Len g w _ (h.cellN (n + 1) hn)
  have hmS := meth_Swap g w _ (h.cellN (n + 1) hn)
  have hmP := fun W => meth_Pop g W
  have hsw := SwapI h (n + 1) hn 0 n (by omega) (by omega) (by omega) (by omega)
  simp only [Int.toNat_natCast] at hsw
  have hsl := (swapL_length L 0 n).trans hn
  have HSL := Lib.hid hsl
  have HN := Lib.hid hn
  clear hn hsl
  rw [show (0 : Int).toNat = 0 from rfl] at hsw
  generalize swapL L 0 n = L1 at hsw HSL ⊢
  have hd := fun W (hW : Hp W B g r cap L1) => down_calls W B g r cap (n + 1) L1 hW 0 n HSL.out (by omega) (by omega) hm
  have hdl := (dnF_length L1 0 n).trans HSL.out
  have HDL := Lib.hid hdl
  clear hdl
  generalize dnF L1 0 n = L2 at hd HDL ⊢
  go_enter Try.func34, Try.ntmps34
  go_wp2_with (go_at_call 33; refine (Len_calls _ _ _ _).mono ?_; rintro e w' ⟨rfl, rfl⟩)
  refine hsw.mono ?_
  rintro e w1 ⟨rfl, hp1, hf1⟩
  go_wp2_with fail
  refine (hd _ hp1).mono ?_
  rintro e w2 ⟨⟨b, rfl⟩, hp2, hf2⟩
  go_wp2_with fail
  refine (PopM_calls _ B g r cap n L2 hp2 HDL.out).mono ?_
  rintro e w3 ⟨rfl, hp3, hf3⟩
  go_wp2_with fail
  go_ret
  exact ⟨rfl, hp3, (hf1.mono (fun k _ hk => .inr hk)).trans ((hf2.mono (fun k _ hk => .inr hk)).trans (hf3.mono (fun k _ hk => .inl hk)))⟩

set_option maxRecDepth 100000 in
theorem Push_calls (w : World) (B g r cap n : Nat) (L : List Int) (x : Int) (h : Hp w B g r cap L) (hn : L.length = n) (hlim : n < 17592186044416) :
    Calls Try.prog 35 #[.iface 70 (.pointer (some ⟨g, 0, none⟩)), .iface 3 (.int .i64 x)] w fun e w' => e = .returned (.tuple #[]) ∧ ∃ r' cap', Hp w' B g r' cap' (pushL L x) ∧ Fr (fun k => k = g ∨ k = r) w w' ∧ (r' = r ∨ w.heap.size ≤ r') := by
  have hpl : pushL L x = upF (L ++ [x]) n := by unfold pushL; rw [hn]
  rw [hpl]
  clear hpl
  have hl2 : (L ++ [x]).length = n + 1 := by rw [List.length_append, hn]; rfl
  have hpu := PushM_calls w B g r cap n L x h hn hlim
  have hmP := meth_Push g w
  have hB := h.row_ge
  have HB := Lib.hid hl2
  have HN := Lib.hid hn
  clear hn hl2
  generalize L ++ [x] = L1 at hpu HB ⊢
  have h0 : (0 : Int) ≤ (n : Int) + 1 - 1 := by omega
  go_enter Try.func35, Try.ntmps35
  go_wp2_with fail
  refine hpu.mono ?_
  rintro e w1 ⟨rfl, r', cap', hp1, hf1, hat⟩
  have hmL := meth_Len g w1 _ (hp1.cellN (n + 1) HB.out)
  go_wp2_with (go_at_call 33; refine (Len_calls _ _ _ _).mono ?_; rintro e w' ⟨rfl, rfl⟩)
  refine (up_calls w1 B g r' cap' (n + 1) L1 hp1 n HB.out (by omega) (by omega)).mono ?_
  rintro e w2 ⟨rfl, hp2, hf2⟩
  go_wp2_with fail
  go_end0
  refine ⟨rfl, r', cap', hp2, ?_, hat⟩
  refine ⟨hf2.os.trans hf1.os, hf2.tape.trans hf1.tape, hf2.output.trans hf1.output, Nat.le_trans hf1.size hf2.size, fun k hk hn => ?_⟩
  rw [hf2.block k (Nat.lt_of_lt_of_le hk hf1.size) (by rintro rfl; rcases hat with h1 | h1; exact hn (.inr h1); omega), hf1.block k hk hn]
end Go.Proofs.Ytcgimjoebkeifaa.QHeap
