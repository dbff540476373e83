/- Parts of one proof, one behind the other (put together by wip/merge2.py out of: CompState, CompA, Hlen, Hspan, AddC, CompC, CompE, CompB, AddD, AddE, Hadd). No conditions beyond each theorem's own. -/
import Derived.Maps.OwnOps
import Derived.Maps.OwnSet
import Derived.Maps.RangeWalk
import Derived.Maps.Views
import Derived.Test.YtcgimjoebkeifaaPQxf13
import Derived.Deep.LoopGhost
import Derived.Laws.MakeOwn
import Derived.Test.YtcgimjoebkeifaaPQx0
import Derived.Test.YtcgimjoebkeifaaShelf
import Derived.WalkKit
import Derived.Lib.Hide
import Derived.Deep.QuietTactic
import Derived.BigQuiet
import Derived.Deep.RegionWith
import Derived.Deep.RegionHeld3
import Derived.Laws.OwnMore
import Derived.Lib.JoinLaws
import Derived.Test.YtcgimjoebkeifaaQE4
/- The state of qdigest.Compress in memory: its variables' blocks, the map that reads as a list of pairs, the heap. What each operation makes of it. Conditions: small numbers. -/
namespace Go.Proofs.Ytcgimjoebkeifaa.QComp
open Go.RowKit Go.Proofs.YtcgimjoebkeifaaW.PrintWords Go.Proofs.QHeap Go.Proofs.QComp Go.Proofs.Ytcgimjoebkeifaa.QHeap
set_option maxHeartbeats 1000000
abbrev L64 (k : Int) : Lit := .int .i64 k
/-- The map's datum reads as the list of pairs. -/
structure Rel (D : DataW Unit) (cs : Cs) : Prop where
  tidy : Maps.Tidy D
  at_ : ∀ k zd, D.atKey (L64 k) zd = match cs.lookup k with | some v => .lit (L64 v) | none => zd
  has : ∀ k, Maps.has D (L64 k) = (cs.lookup k).isSome
  nodup : (keys cs).Nodup
  size : Maps.size D = cs.length
theorem rel_nil : Rel (.map []) [] := ⟨Maps.tidy_empty, fun _ _ => rfl, fun _ => rfl, List.nodup_nil, rfl⟩
theorem isKey (k : Int) (h : (L64 k).wf = true) : WideAt.IsKeyLit (L64 k) := (Maps.int_keyed (P := Try.prog) Try.underlying3).key (Maps.keyOf_int_mk Try.underlying3 h)
theorem wf_of {k : Int} (h0 : -9223372036854775808 ≤ k) (h1 : k ≤ 9223372036854775807) : (L64 k).wf = true := by
  exact WalkArith.wf_i64 ⟨h0, h1⟩
theorem Rel.get {D : DataW Unit} {cs : Cs} (h : Rel D cs) (k : Int) : D.atKey (L64 k) (.lit (L64 0)) = .lit (L64 (get cs k)) := by
  rw [h.at_]
  unfold Go.Proofs.QComp.get
  cases cs.lookup k <;> rfl
theorem L64_ne {j k : Int} (h : j ≠ k) : L64 j ≠ L64 k := fun e => h (by injection e)
theorem length_put (cs : Cs) (k v : Int) : (put cs k v).length = (del cs k).length + 1 := rfl
theorem length_del_not {cs : Cs} {k : Int} (h : (cs.lookup k).isSome = false) : (del cs k) = cs := by
  unfold del
  rw [List.filter_eq_self]
  intro p hp
  have : ¬ k ∈ keys cs := by rw [← lookup_isSome_iff, h]; simp
  simp only [bne_iff_ne, ne_eq]
  intro e
  exact this (List.mem_map.2 ⟨p, hp, e⟩)
theorem length_del_in {cs : Cs} {k : Int} (hn : (keys cs).Nodup) (h : (cs.lookup k).isSome = true) : (del cs k).length + 1 = cs.length := by
  induction cs with
  | nil => simp at h
  | cons p cs ih =>
    obtain ⟨a, b⟩ := p
    unfold keys at hn ih
    rw [List.map_cons, List.nodup_cons] at hn
    by_cases e : k = a
    · subst e
      have hnot : (cs.lookup k).isSome = false := by
        cases hh : (cs.lookup k).isSome with
        | false => rfl
        | true => exact absurd (lookup_isSome_iff.1 hh) hn.1
      have hd : del ((k, b) :: cs) k = del cs k := by unfold del; rw [List.filter_cons, if_neg (by simp)]
      rw [hd, length_del_not hnot]
      rfl
    · have hd : del ((a, b) :: cs) k = (a, b) :: del cs k := by unfold del; rw [List.filter_cons, if_pos (by simpa using fun h => e h.symm)]
      rw [List.lookup_cons] at h
      have : (k == a) = false := by simpa using e
      rw [this] at h
      rw [hd, List.length_cons, List.length_cons, ih hn.2 h]
theorem Rel.put {D : DataW Unit} {cs : Cs} (h : Rel D cs) (k v : Int) (hk : (L64 k).wf = true) : Rel (D.put (L64 k) (.lit (L64 v))) (put cs k v) := by
  refine ⟨h.tidy.put (isKey k hk) _, fun j zd => ?_, fun j => ?_, nodup_put h.nodup k v, ?_⟩
  · by_cases e : j = k
    · subst e
      rw [Maps.atKey_put_same h.tidy.isMap (isKey j hk), lookup_put_same]
    · rw [Maps.atKey_put_other (L64_ne e), lookup_put_other _ _ _ _ e, h.at_]
  · by_cases e : j = k
    · subst e
      rw [Maps.has_put_same h.tidy.isMap (isKey j hk), lookup_put_same]
      rfl
    · rw [Maps.has_put_other (L64_ne e), lookup_put_other _ _ _ _ e, h.has]
  · rw [Maps.size_put h.tidy, h.has, length_put, h.size]
    cases hh : (cs.lookup k).isSome with
    | true => simp only [if_true]; rw [length_del_in h.nodup hh]
    | false => rw [if_neg (by simp), length_del_not hh]
theorem Rel.del {D : DataW Unit} {cs : Cs} (h : Rel D cs) (k : Int) : Rel (D.del (L64 k)) (del cs k) := by
  refine ⟨h.tidy.del _, fun j zd => ?_, fun j => ?_, nodup_del h.nodup k, ?_⟩
  · by_cases e : j = k
    · subst e
      rw [Maps.atKey_del_same, lookup_del_same]
    · rw [Maps.atKey_del_other (L64_ne e), lookup_del_other _ _ _ e, h.at_]
  · by_cases e : j = k
    · subst e
      rw [Maps.has_del_same, lookup_del_same]
      rfl
    · rw [Maps.has_del_other (L64_ne e), lookup_del_other _ _ _ e, h.has]
  · have hs := Maps.size_del (k := L64 k) h.tidy
    rw [h.has, h.size] at hs
    cases hh : (cs.lookup k).isSome with
    | true => rw [hh] at hs; simp only [if_true] at hs; have := length_del_in h.nodup hh; omega
    | false => rw [hh, if_neg (by simp)] at hs; rw [length_del_not hh]; omega
/-- Block b is a map that reads as cs. -/
def MapAt (w : World) (b : Nat) (cs : Cs) : Prop := ∃ D : DataW Unit, w.ownsMap Try.prog 3 (plainElem Try.prog 3) b cs.length D ∧ Rel D cs
theorem MapAt.mk_ {w : World} {b n : Nat} {cs : Cs} {D : DataW Unit} (h : w.ownsMap Try.prog 3 (plainElem Try.prog 3) b n D) (r : Rel D cs) : MapAt w b cs := by
  refine ⟨D, ?_, r⟩
  obtain ⟨es, clock, hb, F, hs, hD⟩ := h
  refine ⟨es, clock, hb, F, ?_, hD⟩
  have h1 := r.size
  rw [hD, Maps.size_eq, length_sorted] at h1
  simp at h1
  omega
theorem MapAt.block {w : World} {b : Nat} {cs : Cs} (h : MapAt w b cs) : ∃ es clock, w.heap[b]? = some (.map es clock) := by
  obtain ⟨D, ⟨es, clock, hb, _⟩, _⟩ := h
  exact ⟨es, clock, hb⟩
theorem MapAt.lt {w : World} {b : Nat} {cs : Cs} (h : MapAt w b cs) : b < w.heap.size := by
  obtain ⟨D, h, _⟩ := h
  exact h.lt
theorem MapAt.move {w w' : World} {b : Nat} {cs : Cs} (h : MapAt w b cs) (hb : w'.heap[b]? = w.heap[b]?) : MapAt w' b cs := by
  obtain ⟨D, ⟨es, clock, h1, F, hs, hD⟩, r⟩ := h
  exact ⟨D, ⟨es, clock, hb.trans h1, F, hs, hD⟩, r⟩
section
variable {w : World} {b : Nat} {cs : Cs}
theorem MapAt.look (h : MapAt w b cs) (k : Int) (hk : (L64 k).wf = true) : (Instr.lookup 67 (.map (some b)) (.int .i64 k) false).run Try.prog w = .ok (.int .i64 (get cs k)) w := by
  obtain ⟨D, hown, r⟩ := h
  obtain ⟨c, hrun, hat, _⟩ := hown.lookup_int (Maps.int_keyed Try.underlying3) Try.underlying67 Try.underlying3 (Try.zeroValue3 w) (Maps.keyOf_int_mk Try.underlying3 hk)
  rw [r.get] at hat
  have : get cs k = c := (Lit.int.inj (DataW.lit.inj hat)).2
  rw [this]
  exact hrun
set_option maxRecDepth 100000 in
theorem MapAt.set (h : MapAt w b cs) (k v : Int) (hk : (L64 k).wf = true) (hv : (L64 v).wf = true) (hl : cs.length ≤ 1073741824) :
    ∃ w', (Instr.mapUpdate 67 (.map (some b)) (.int .i64 k) (.int .i64 v)).run Try.prog w = .ok () w' ∧ MapAt w' b (put cs k v) ∧ w.grownBy w' (some b) := by
  obtain ⟨D, hown, r⟩ := h
  have hlt : cs.length < maxLen := by unfold maxLen; omega
  have hup := hown.update (Maps.int_keyed Try.underlying3) Try.underlying67 hlt (Maps.keyOf_int_mk Try.underlying3 hk) (plainElem_int Try.underlying3 hv)
  obtain ⟨w', hrun, h1, h2⟩ := hup
  exact ⟨w', hrun, MapAt.mk_ h1 (r.put k v hk), h2⟩
theorem MapAt.drop (h : MapAt w b cs) (k : Int) (hk : (L64 k).wf = true) (ty : TypeId) :
    ∃ w', (Builtin.delete_ #[67, 3] ty #[.map (some b), .int .i64 k]).run Try.prog w = .ok (.tuple #[]) w' ∧ MapAt w' b (del cs k) ∧ w.grownBy w' (some b) := by
  obtain ⟨D, hown, r⟩ := h
  obtain ⟨w', hrun, h1, h2⟩ := hown.drop (Maps.int_keyed Try.underlying3) Try.underlying67 (Maps.keyOf_int_mk Try.underlying3 hk) ty
  exact ⟨w', hrun, MapAt.mk_ h1 (r.del k), h2.grown⟩
theorem MapAt.made (w : World) : MapAt (w.alloc (.map #[] 0)) w.heap.size [] := ⟨.map [], World.ownsMap_made w _ _ _, rel_nil⟩
end

/-- Where Compress stands: the boxes of x and of the result at B and B + 1, the map at mb, the heap at g and r. -/
structure CSt (w wr : World) (B mb g r cap : Nat) (X Z : Array Value) (cs : Cs) (td : List Int) : Prop where
  bel : Below B w wr
  bx : wr.heap[B]? = some (.cells X 24 (0, 0))
  br : wr.heap[B + 1]? = some (.cells Z 24 (0, 0))
  mbge : B ≤ mb
  mp : MapAt wr mb cs
  hp : Hp wr B g r cap td
section
variable {w wr w' : World} {B mb g r cap : Nat} {X Z : Array Value} {cs : Cs} {td : List Int}
theorem CSt.g_box (h : CSt w wr B mb g r cap X Z cs td) : g ≠ B ∧ g ≠ B + 1 ∧ g ≠ mb := by
  have hb := h.hp.box
  refine ⟨?_, ?_, ?_⟩
  · rintro rfl; rw [h.bx] at hb; simp at hb
  · rintro rfl; rw [h.br] at hb; simp at hb
  · rintro rfl
    obtain ⟨es, clock, hm⟩ := h.mp.block
    rw [hm] at hb; simp at hb
theorem CSt.r_box (h : CSt w wr B mb g r cap X Z cs td) : r ≠ B ∧ r ≠ B + 1 ∧ r ≠ mb := by
  rcases h.hp.row.2 with ⟨h1, _⟩ | ⟨g', cap', cur, h1, _, hb, _⟩
  · simp at h1
  · simp at h1
    obtain ⟨rfl, _⟩ := h1
    refine ⟨?_, ?_, ?_⟩
    · rintro rfl; rw [h.bx] at hb; simp at hb
    · rintro rfl; rw [h.br] at hb; simp at hb
    · rintro rfl
      obtain ⟨es, clock, hm⟩ := h.mp.block
      rw [hm] at hb; simp at hb
theorem CSt.m_box (h : CSt w wr B mb g r cap X Z cs td) : mb ≠ B ∧ mb ≠ B + 1 := by
  obtain ⟨es, clock, hm⟩ := h.mp.block
  refine ⟨?_, ?_⟩
  · rintro rfl; rw [h.bx] at hm; simp at hm
  · rintro rfl; rw [h.br] at hm; simp at hm
theorem CSt.lt (h : CSt w wr B mb g r cap X Z cs td) : B + 1 < wr.heap.size := (Array.getElem?_eq_some_iff.1 h.br).1
/-- A step on the heap. -/
theorem CSt.heap (h : CSt w wr B mb g r cap X Z cs td) {g' r' cap' : Nat} {td' : List Int} (hp : Hp w' B g r' cap' td') (hf : Fr (fun k => k = g ∨ k = r) wr w') (_hg : g' = g) : CSt w w' B mb g r' cap' X Z cs td' := by
  have hg := h.g_box
  have hr := h.r_box
  have hl := h.lt
  have hml := h.mp.lt
  have h1 := h.hp.ge
  have h2 := h.hp.row_ge.1
  refine ⟨h.bel.trans (hf.below (by omega) (by rintro k (rfl | rfl) <;> omega)), ?_, ?_, h.mbge, h.mp.move ?_, hp⟩
  · rw [hf.block B (by omega) (by omega)]; exact h.bx
  · rw [hf.block (B + 1) (by omega) (by omega)]; exact h.br
  · exact hf.block mb hml (by omega)
theorem CSt.drewN (h : CSt w wr B mb g r cap X Z cs td) (n : Nat) : CSt w (wr.drewN n) B mb g r cap X Z cs td :=
  ⟨h.bel.trans ⟨rfl, rfl, rfl, Nat.le_refl _, fun _ _ => rfl⟩, h.bx, h.br, h.mbge, h.mp.move rfl, h.hp.drewN n⟩
theorem CSt.alloc (h : CSt w wr B mb g r cap X Z cs td) (o : Obj) : CSt w (wr.alloc o) B mb g r cap X Z cs td := by
  have hl := h.lt
  have hml := h.mp.lt
  have e : ∀ k, k < wr.heap.size → (wr.alloc o).heap[k]? = wr.heap[k]? := Below.heap_alloc wr o
  exact ⟨h.bel.alloc (by omega) o, (e B (by omega)).trans h.bx, (e (B + 1) hl).trans h.br, h.mbge, h.mp.move (e mb hml), ⟨h.hp.ge, (e g h.hp.lt).trans h.hp.box, h.hp.row.alloc o⟩⟩
/-- A step on the map. -/
theorem CSt.map (h : CSt w wr B mb g r cap X Z cs td) {cs' : Cs} (hm : MapAt w' mb cs') (hg : wr.grownBy w' (some mb)) : CSt w w' B mb g r cap X Z cs' td := by
  have hgb := h.g_box
  have hrb := h.r_box
  have hmb := h.m_box
  have hl := h.lt
  have e : ∀ k, k < wr.heap.size → k ≠ mb → w'.heap[k]? = wr.heap[k]? := fun k hk hn => hg.block k hk (fun e => hn (Option.some.inj e))
  refine ⟨h.bel.grown hg (by omega) (fun k hk => by injection hk with hk; have := h.mbge; omega), (e B (by omega) (by omega)).trans h.bx, (e (B + 1) hl (by omega)).trans h.br, h.mbge, hm, ⟨h.hp.ge, (e g h.hp.lt (by omega)).trans h.hp.box, ?_⟩⟩
  exact h.hp.row.kept hg (.inr (by intro e; have : r = mb := Option.some.inj e; omega))
theorem CSt.xcell (h : CSt w wr B mb g r cap X Z cs td) (j : Nat) : wr.cell? ⟨B, j, none⟩ = X[j]? := by simp [World.cell?, h.bx]
end
end Go.Proofs.Ytcgimjoebkeifaa.QComp

/- qdigest.Compress at an invalid digest: the call answers the zero digest and ErrArgument. -/
namespace Go.Proofs.Ytcgimjoebkeifaa.QComp
open Go.RowKit Go.Proofs.YtcgimjoebkeifaaW.PrintWords Go.Proofs.QHeap Go.Proofs.QComp Go.Proofs.Ytcgimjoebkeifaa.QHeap Go.Proofs.Ytcgimjoebkeifaa.PQ
set_option maxHeartbeats 4000000
def pair (x : S63) : Int × Int := (x.f0, x.f1)
def unpair (p : Int × Int) : S63 := ⟨p.1, p.2⟩
/-- What Compress answers: a digest whose nodes are a row of its own. -/
def CPost (r1 r2 r3 : Int) (r4 : List S63) (r5 : Int) (w : World) (e : Ending) (w' : World) : Prop :=
  ∃ v3_ : Value, e = .returned (.tuple #[.agg #[.int .i64 r1, .int .i64 r2, .int .i64 r3, v3_], .int .i64 r5]) ∧ Kd.R k63 63 w' w.heap.size (fun _ => True) v3_ r4 ∧ Below w.heap.size w w'
theorem two_new (w : World) (o1 o2 : Obj) : ((w.alloc o1).alloc o2).heap[w.heap.size]? = some o1 ∧ ((w.alloc o1).alloc o2).heap[w.heap.size + 1]? = some o2 := by
  refine ⟨blk_alloc (blk_new w o1) o2, ?_⟩
  have := blk_new (w.alloc o1) o2
  rwa [show (w.alloc o1).heap.size = w.heap.size + 1 from by simp] at this
/-- The world when Check is called. -/
def W2 (w : World) (X : Array Value) : World := (w.alloc (.cells X 24)).alloc (.cells #[.int .i64 0, .int .i64 0, .int .i64 0, .slice none 0 0] 24)
theorem W2_below (w : World) (X : Array Value) : Below w.heap.size w (W2 w X) := ((Below.refl _ _).alloc (Nat.le_refl _) _).alloc (by simp) _
theorem W2_blocks {w w1 : World} {X : Array Value} (hB : Below (W2 w X).heap.size (W2 w X) w1) :
    w1.heap[w.heap.size]? = some (.cells X 24 (0, 0)) ∧ w1.heap[w.heap.size + 1]? = some (.cells #[.int .i64 0, .int .i64 0, .int .i64 0, .slice none 0 0] 24 (0, 0)) ∧ Below w.heap.size w w1 := by
  have h := two_new w (.cells X 24) (.cells #[.int .i64 0, .int .i64 0, .int .i64 0, .slice none 0 0] 24)
  have hs : (W2 w X).heap.size = w.heap.size + 2 := by simp [W2]
  refine ⟨(hB.block _ (by omega)).trans h.1, (hB.block _ (by omega)).trans h.2, ?_⟩
  exact (W2_below w X).trans (hB.mono (by omega))
set_option maxRecDepth 100000 in
theorem comp_no (k : Nat) (a0 a1 a2 : Int) (A : Option Addr) (c : Nat) (xs : List S63) (t : Int) (w : World) (hr : Kd.C k63 w A xs.length xs) (hc : xs.length ≤ c) (h : qdigest_Check.f k a0 a1 a2 xs = some t) (ht : ¬ t = 0) :
    Calls Try.prog 11 #[.agg #[.int .i64 a0, .int .i64 a1, .int .i64 a2, .slice A xs.length c]] w (CPost 0 0 0 [] 1 w) := by
  have ht1 : (t != 0) = true := by simpa using ht
  have hch := qdigest_Check.calls k a0 a1 a2 A c xs t (W2 w #[.int .i64 a0, .int .i64 a1, .int .i64 a2, .slice A xs.length c]) (Kd.C_below hr (W2_below _ _)) hc h
  clear hr
  go_enter Try.func11, Try.ntmps11
  go_wp2_with fail
  refine hch.mono ?_
  rintro e w1 ⟨rfl, hB⟩
  obtain ⟨_, b1, hbb⟩ := W2_blocks hB
  have c0 := blk_cell b1 0
  have c1 := blk_cell b1 1
  have c2 := blk_cell b1 2
  have c3 := blk_cell b1 3
  have f0 := blk_frozen b1 0
  have f1 := blk_frozen b1 1
  have f2 := blk_frozen b1 2
  have f3 := blk_frozen b1 3
  have B1 := Lib.hid b1
  clear b1
  simp at c0 c1 c2 c3
  go_wp2_with fail
  refine bodyPost_ret (results_ct rfl _ _ (w.heap.size + 1) 24 #[.int .i64 0, .int .i64 0, .int .i64 0, .slice none 0 0] (0, 0) _ rfl (blk_put (cs := #[.int .i64 0, .int .i64 0, .int .i64 0, .slice none 0 0]) (blk_put (cs := #[.int .i64 0, .int .i64 0, .int .i64 0, .slice none 0 0]) (blk_put (cs := #[.int .i64 0, .int .i64 0, .int .i64 0, .slice none 0 0]) (blk_put (cs := #[.int .i64 0, .int .i64 0, .int .i64 0, .slice none 0 0]) B1.out 0 _ rfl) 1 _ rfl) 2 _ rfl) 3 _ rfl) Try.underlying24 rfl (by kernel_rfl)) rfl ?_
  refine ⟨_, rfl, Kd.R_nil _ _ _ _ _, ?_⟩
  exact (((hbb.setCell (by simp) _).setCell (by simp) _).setCell (by simp) _).setCell (by simp) _
end Go.Proofs.Ytcgimjoebkeifaa.QComp

/- math/bits.Len as a Lean function, with a proof that the call answers so. Conditions: the number is a uint. -/
namespace Go.Proofs.Ytcgimjoebkeifaa.PQ
open Go.RowKit Go.Proofs.YtcgimjoebkeifaaW.PrintWords
def bits_Len.f (a0 : Int) : Option Int := if 0 ≤ a0 then (if a0 ≤ 18446744073709551615 then some (Lib.bitLen a0.toNat : Int) else none) else none
theorem bits_Len.calls (a0 : Int) (r : Int) (w : World) (h : bits_Len.f a0 = some r) :
    Calls Try.prog 55 #[.int .u64 a0] w fun e w' => e = .returned (.int .i64 r) ∧ Drawn0 w w' := by
  unfold bits_Len.f at h
  by_cases h0 : 0 ≤ a0
  · rw [if_pos h0] at h
    by_cases h1 : a0 ≤ 18446744073709551615
    · rw [if_pos h1] at h
      have hc := Any.bits_Len Try.lays125 a0 w h0 h1
      change Calls Try.prog 55 _ _ _ at hc
      refine hc.mono ?_
      rintro e w' ⟨rfl, rfl⟩
      injection h with h
      exact ⟨by rw [h], Drawn0.refl _⟩
    · rw [if_neg h1] at h
      cases h
  · rw [if_neg h0] at h
    cases h
end Go.Proofs.Ytcgimjoebkeifaa.PQ

/- qdigest.span as a Lean function, with a proof that the call answers so. Conditions: small numbers. -/
namespace Go.Proofs.Ytcgimjoebkeifaa.PQ
open Go.RowKit Go.Proofs.YtcgimjoebkeifaaW.PrintWords
set_option maxHeartbeats 1000000
/-- The least and the greatest integer of the range of a node. -/
def spanLo (width id : Int) : Int := id * 2 ^ (width + 1 - (Lib.bitLen id.toNat : Int)).toNat - 2 ^ width.toNat
def spanHi (width id : Int) : Int := (id + 1) * 2 ^ (width + 1 - (Lib.bitLen id.toNat : Int)).toNat - 2 ^ width.toNat - 1
def SpanOk (width id : Int) : Prop := (1 ≤ width ∧ width ≤ 40) ∧ (0 ≤ id ∧ id ≤ 1099511627776) ∧ (Lib.bitLen id.toNat : Int) ≤ width + 1 ∧ (id + 1) * 2 ^ (width + 1 - (Lib.bitLen id.toNat : Int)).toNat ≤ 1152921504606846976
instance (a b : Int) : Decidable (SpanOk a b) := by unfold SpanOk; exact inferInstance
def qdigest_span.f (a0 : Int) (a1 : Int) : Option (Int × Int) := if SpanOk a0 a1 then some (spanLo a0 a1, spanHi a0 a1) else none
theorem pow_le_41 (n : Nat) (h : n ≤ 41) : (0 : Int) < 2 ^ n ∧ (2 : Int) ^ n ≤ 2199023255552 := by
  refine ⟨Int.pow_pos (by decide), ?_⟩
  have h1 : (2 : Nat) ^ n ≤ 2 ^ 41 := Nat.pow_le_pow_right (by decide) h
  have h2 : ((2 ^ n : Nat) : Int) ≤ ((2 ^ 41 : Nat) : Int) := Int.ofNat_le.2 h1
  simpa using h2
set_option maxRecDepth 100000 in
theorem qdigest_span.calls (a0 : Int) (a1 : Int) (r1 : Int) (r2 : Int) (w : World) (h : qdigest_span.f a0 a1 = some (r1, r2)) :
    Calls Try.prog 38 #[.int .i64 a0, .int .i64 a1] w fun e w' => e = .returned (.tuple #[.int .i64 r1, .int .i64 r2]) ∧ Drawn0 w w' := by
  unfold qdigest_span.f at h
  by_cases hk : SpanOk a0 a1
  case neg => rw [if_neg hk] at h; cases h
  rw [if_pos hk] at h
  simp only [Option.some.injEq, Prod.mk.injEq] at h
  obtain ⟨⟨h0, h1⟩, ⟨h2, h3⟩, h4, h5⟩ := hk
  have hlen := bits_Len.calls a1 (Lib.bitLen a1.toNat) 
  have hf : bits_Len.f a1 = some (Lib.bitLen a1.toNat : Int) := by
    unfold bits_Len.f
    rw [if_pos h2, if_pos (by omega)]
  have hl2 := fun W => hlen W hf
  have hu : IntKind.u64.wrap a1 = a1 := by
    rw [show IntKind.u64.wrap a1 = a1 % 18446744073709551616 from by simp [IntKind.wrap, IntKind.signed, IntKind.bits]]
    omega
  unfold spanLo spanHi at h
  generalize hb : Lib.bitLen a1.toNat = b at *
  have HH := Lib.hid h
  have HB := Lib.hid hb
  have hb0 : (0 : Int) ≤ b := by omega
  have hs0 : 0 ≤ a0 + 1 - (b : Int) := by omega
  have H5 := Lib.hid h5
  clear h hb hlen hf h5
  go_enter Try.func38, Try.ntmps38
  go_wp2_with (go_at_call 55; refine (hl2 _).mono ?_; rintro e w' ⟨rfl, hd⟩)
  go_quiet (fail)
  go_wp2
  go_ret2
  refine ⟨?_, hd.step _⟩
  obtain ⟨e1, e2⟩ := HH.out
  have h5 := H5.out
  have ee : (a0 + 1 - (b : Int)).toNat = (a0 + 1).toNat - b := by omega
  rw [ee] at e1 e2 h5
  have hP := Int.pow_pos (n := (2 : Int)) (m := (a0 + 1).toNat - b) (by decide)
  have hQ := pow_le_41 a0.toNat (by omega)
  have hx0 : 0 ≤ a1 * 2 ^ ((a0 + 1).toNat - b) := Int.mul_nonneg h2 (Int.le_of_lt hP)
  have hxy : (a1 + 1) * 2 ^ ((a0 + 1).toNat - b) = a1 * 2 ^ ((a0 + 1).toNat - b) + 2 ^ ((a0 + 1).toNat - b) := by rw [Int.add_mul, Int.one_mul]
  rw [← e1, ← e2]
  rw [hxy] at h5 ⊢
  generalize a1 * 2 ^ ((a0 + 1).toNat - b) = x at *
  generalize (2 : Int) ^ ((a0 + 1).toNat - b) = p at *
  generalize (2 : Int) ^ a0.toNat = q at *
  have f1 : wrap64 (wrap64 x - wrap64 q) = x - q := by unfold wrap64; omega
  have f2 : wrap64 (wrap64 (wrap64 (x + p) - wrap64 q) - 1) = x + p - q - 1 := by unfold wrap64; omega
  rw [f1, f2]
  rfl
end Go.Proofs.Ytcgimjoebkeifaa.PQ

/- qdigest.Add where it refuses: the call answers the zero digest and the error. -/
namespace Go.Proofs.Ytcgimjoebkeifaa.QAdd
set_option linter.unusedSimpArgs false
set_option linter.unusedVariables false
open Go.RowKit Go.Proofs.YtcgimjoebkeifaaW.PrintWords Go.Proofs.Ytcgimjoebkeifaa.PQ Go.Proofs.Ytcgimjoebkeifaa.QComp Go.Proofs.Ytcgimjoebkeifaa.QHeap
set_option maxHeartbeats 4000000
/-- Where the walk of Add is shown. -/
def AddOk (bits count : Int) (xs : List S63) : Prop := (1 ≤ bits ∧ bits ≤ 30) ∧ (0 ≤ count ∧ count ≤ 1099511627776) ∧ Asc xs ∧ (∀ x ∈ xs, (0 ≤ x.f0 ∧ x.f0 ≤ 1099511627776) ∧ 0 ≤ x.f1 ∧ x.f1 ≤ 1099511627776) ∧ xs.length ≤ 1000000
instance (a b : Int) (xs : List S63) : Decidable (AddOk a b xs) := by unfold AddOk Asc; exact inferInstance
/-- The nodes behind Add. -/
def addNodes (xs : List S63) (id n : Int) : List S63 :=
  if found xs id = true then xs.set (pos xs id) ⟨(rd_T63 xs (pos xs id)).f0, (rd_T63 xs (pos xs id)).f1 + n⟩ else xs.take (pos xs id) ++ ⟨id, n⟩ :: xs.drop (pos xs id)
def addF (bits K count : Int) (xs : List S63) (value n : Int) : Option (Int × Int × Int × List S63 × Int) :=
  if AddOk bits count xs then
    (if value < 0 ∨ 2 ^ bits.toNat ≤ value ∨ n < 1 then some (0, 0, 0, [], 2)
     else if 1099511627776 - count < n then some (0, 0, 0, [], 4)
     else if found xs (2 ^ bits.toNat + value) = false ∧ 2000 ≤ xs.length then some (0, 0, 0, [], 4)
     else some (bits, K, count + n, addNodes xs (2 ^ bits.toNat + value) n, 0))
  else none
set_option maxRecDepth 100000 in
theorem add_no (k : Nat) (a0 a1 a2 value n : Int) (A : Option Addr) (c : Nat) (xs : List S63) (t : Int) (w : World) (hr : Kd.C k63 w A xs.length xs) (hc : xs.length ≤ c) (h : qdigest_Check.f k a0 a1 a2 xs = some t) (ht : ¬ t = 0) :
    Calls Try.prog 39 #[.agg #[.int .i64 a0, .int .i64 a1, .int .i64 a2, .slice A xs.length c], .int .i64 value, .int .i64 n] w (CPost 0 0 0 [] 1 w) := by
  have ht1 : (t != 0) = true := by simpa using ht
  have hch := qdigest_Check.calls k a0 a1 a2 A c xs t (W2 w #[.int .i64 a0, .int .i64 a1, .int .i64 a2, .slice A xs.length c]) (Kd.C_below hr (W2_below _ _)) hc h
  clear hr
  go_enter Try.func39, Try.ntmps39
  go_wp2_with fail
  refine hch.mono ?_
  rintro e w1 ⟨rfl, hB⟩
  obtain ⟨_, b1, hbb⟩ := W2_blocks hB
  have c0 := blk_cell b1 0
  have c1 := blk_cell b1 1
  have c2 := blk_cell b1 2
  have c3 := blk_cell b1 3
  have f0 := blk_frozen b1 0
  have f1 := blk_frozen b1 1
  have f2 := blk_frozen b1 2
  have f3 := blk_frozen b1 3
  have B1 := Lib.hid b1
  clear b1
  simp at c0 c1 c2 c3
  go_wp2_with fail
  refine bodyPost_ret (results_ct rfl _ _ (w.heap.size + 1) 24 #[.int .i64 0, .int .i64 0, .int .i64 0, .slice none 0 0] (0, 0) _ rfl (blk_put (cs := #[.int .i64 0, .int .i64 0, .int .i64 0, .slice none 0 0]) (blk_put (cs := #[.int .i64 0, .int .i64 0, .int .i64 0, .slice none 0 0]) (blk_put (cs := #[.int .i64 0, .int .i64 0, .int .i64 0, .slice none 0 0]) (blk_put (cs := #[.int .i64 0, .int .i64 0, .int .i64 0, .slice none 0 0]) B1.out 0 _ rfl) 1 _ rfl) 2 _ rfl) 3 _ rfl) Try.underlying24 rfl (by kernel_rfl)) rfl ?_
  refine ⟨_, rfl, Kd.R_nil _ _ _ _ _, ?_⟩
  exact (((hbb.setCell (by simp) _).setCell (by simp) _).setCell (by simp) _).setCell (by simp) _
set_option maxRecDepth 100000 in
theorem add_refused (k : Nat) (a0 a1 a2 value n r : Int) (A : Option Addr) (c : Nat) (xs : List S63) (w : World) (hr : Kd.C k63 w A xs.length xs) (hc : xs.length ≤ c) (h : qdigest_Check.f k a0 a1 a2 xs = some 0)
    (hb : 1 ≤ a0 ∧ a0 ≤ 30) (hcn : 0 ≤ a2 ∧ a2 ≤ 1099511627776) (hq : ((value < 0 ∨ 2 ^ a0.toNat ≤ value ∨ n < 1) ∧ r = 2) ∨ (¬ (value < 0 ∨ 2 ^ a0.toNat ≤ value ∨ n < 1) ∧ 1099511627776 - a2 < n ∧ r = 4)) :
    Calls Try.prog 39 #[.agg #[.int .i64 a0, .int .i64 a1, .int .i64 a2, .slice A xs.length c], .int .i64 value, .int .i64 n] w (CPost 0 0 0 [] r w) := by
  have hch := qdigest_Check.calls k a0 a1 a2 A c xs 0 (W2 w #[.int .i64 a0, .int .i64 a1, .int .i64 a2, .slice A xs.length c]) (Kd.C_below hr (W2_below _ _)) hc h
  have hpw := pow_le_41 a0.toNat (by omega)
  clear hr
  obtain ⟨hb1, hb2⟩ := hb
  obtain ⟨hc1, hc2⟩ := hcn
  go_enter Try.func39, Try.ntmps39
  go_wp2_with fail
  refine hch.mono ?_
  rintro e w1 ⟨rfl, hB⟩
  obtain ⟨b0, b1, hbb⟩ := W2_blocks hB
  have c0 := blk_cell b1 0
  have c1 := blk_cell b1 1
  have c2 := blk_cell b1 2
  have c3 := blk_cell b1 3
  have f0 := blk_frozen b1 0
  have f1 := blk_frozen b1 1
  have f2 := blk_frozen b1 2
  have f3 := blk_frozen b1 3
  have x0 := blk_cell b0 0
  have x2 := blk_cell b0 2
  have B1 := Lib.hid b1
  clear b1 b0
  simp at c0 c1 c2 c3 x0 x2
  have fin : ∀ (r : Int) (W : World), W = ((((w1.setCell ⟨w.heap.size + 1, 0, none⟩ (.int .i64 0)).setCell ⟨w.heap.size + 1, 1, none⟩ (.int .i64 0)).setCell ⟨w.heap.size + 1, 2, none⟩ (.int .i64 0)).setCell ⟨w.heap.size + 1, 3, none⟩ (.slice none 0 0)) →
      W.heap[w.heap.size + 1]? = some (.cells #[.int .i64 0, .int .i64 0, .int .i64 0, .slice none 0 0] 24 (0, 0)) ∧ Below w.heap.size w W := fun r W hW => by
    subst hW
    exact ⟨blk_put (cs := #[.int .i64 0, .int .i64 0, .int .i64 0, .slice none 0 0]) (blk_put (cs := #[.int .i64 0, .int .i64 0, .int .i64 0, .slice none 0 0]) (blk_put (cs := #[.int .i64 0, .int .i64 0, .int .i64 0, .slice none 0 0]) (blk_put (cs := #[.int .i64 0, .int .i64 0, .int .i64 0, .slice none 0 0]) B1.out 0 _ rfl) 1 _ rfl) 2 _ rfl) 3 _ rfl,
      (((hbb.setCell (by simp) _).setCell (by simp) _).setCell (by simp) _).setCell (by simp) _⟩
  clear hch
  rcases hq with ⟨hq, rfl⟩ | ⟨hq, hlim, rfl⟩
  · by_cases h1 : value < 0
    · go_wp2_with fail
      obtain ⟨g1, g2⟩ := fin 2 _ rfl
      exact bodyPost_ret (results_ct rfl _ _ (w.heap.size + 1) 24 #[.int .i64 0, .int .i64 0, .int .i64 0, .slice none 0 0] (0, 0) _ rfl g1 Try.underlying24 rfl (by kernel_rfl)) rfl ⟨_, rfl, Kd.R_nil _ _ _ _ _, g2⟩
    · by_cases h2 : 2 ^ a0.toNat ≤ value
      · go_wp2_with fail
        obtain ⟨g1, g2⟩ := fin 2 _ rfl
        exact bodyPost_ret (results_ct rfl _ _ (w.heap.size + 1) 24 #[.int .i64 0, .int .i64 0, .int .i64 0, .slice none 0 0] (0, 0) _ rfl g1 Try.underlying24 rfl (by kernel_rfl)) rfl ⟨_, rfl, Kd.R_nil _ _ _ _ _, g2⟩
      · have h3 : n < 1 := by
          rcases hq with h | h | h
          · exact absurd h h1
          · exact absurd h h2
          · exact h
        go_wp2_with fail
        obtain ⟨g1, g2⟩ := fin 2 _ rfl
        exact bodyPost_ret (results_ct rfl _ _ (w.heap.size + 1) 24 #[.int .i64 0, .int .i64 0, .int .i64 0, .slice none 0 0] (0, 0) _ rfl g1 Try.underlying24 rfl (by kernel_rfl)) rfl ⟨_, rfl, Kd.R_nil _ _ _ _ _, g2⟩
  · have h1 : ¬ value < 0 := fun h => hq (.inl h)
    have h2 : ¬ 2 ^ a0.toNat ≤ value := fun h => hq (.inr (.inl h))
    have h3 : ¬ n < 1 := fun h => hq (.inr (.inr h))
    clear hq
    go_wp2_with fail
    obtain ⟨g1, g2⟩ := fin 2 _ rfl
    exact bodyPost_ret (results_ct rfl _ _ (w.heap.size + 1) 24 #[.int .i64 0, .int .i64 0, .int .i64 0, .slice none 0 0] (0, 0) _ rfl g1 Try.underlying24 rfl (by kernel_rfl)) rfl ⟨_, rfl, Kd.R_nil _ _ _ _ _, g2⟩
end Go.Proofs.Ytcgimjoebkeifaa.QAdd

/- qdigest.Compress's end: the map's entries in the order of their ids. -/
namespace Go.Proofs.Ytcgimjoebkeifaa.QComp
open Go.RowKit Go.Proofs.YtcgimjoebkeifaaW.PrintWords Go.Proofs.QHeap Go.Proofs.QComp Go.Proofs.Ytcgimjoebkeifaa.QHeap Go.Proofs.Ytcgimjoebkeifaa.PQ Go.Sort
set_option maxHeartbeats 1000000
theorem MapAt.len {w : World} {b : Nat} {cs : Cs} (h : MapAt w b cs) (ty : TypeId) : (Builtin.len_ #[67] ty #[.map (some b)]).run Try.prog w = .ok (.int .i64 cs.length) w := by
  obtain ⟨D, hown, r⟩ := h
  rw [hown.len Try.underlying67, r.size]
theorem nodup_of_keys {cs : Cs} (h : (keys cs).Nodup) : cs.Nodup := by
  unfold keys at h
  exact List.Pairwise.of_map _ (fun a b hne e => hne (by rw [e])) h
/-- What has been collected is all of the map. -/
theorem collected {cs acc : Cs} (hn : (keys cs).Nodup) (ha : (keys acc).Nodup) (h1 : ∀ p ∈ acc, cs.lookup p.1 = some p.2) (h2 : ∀ k, (cs.lookup k).isSome = true → k ∈ keys acc) : acc.Perm cs := by
  refine (List.perm_ext_iff_of_nodup (nodup_of_keys ha) (nodup_of_keys hn)).2 (fun p => ⟨fun hp => ?_, fun hp => ?_⟩)
  · exact (lookup_mem hn).1 (h1 p hp)
  · obtain ⟨k, v⟩ := p
    have hl := (lookup_mem hn).2 hp
    obtain ⟨q, hq, he⟩ := List.mem_map.1 (h2 k (by rw [hl]; rfl))
    obtain ⟨k', v'⟩ := q
    simp only at he
    subst he
    have := h1 _ hq
    rw [hl] at this
    injection this with this
    rw [this]
    exact hq
/-- A node whose id is small. -/
def E : Type := { p : Int × Int // 0 ≤ p.1 ∧ p.1 ≤ 1099511627776 }
instance : Inhabited E := ⟨⟨(0, 0), by decide⟩⟩
def encE (x : E) : List Value := [.int .i64 x.1.1, .int .i64 x.1.2]
def enc2 (p : Int × Int) : List Value := [.int .i64 p.1, .int .i64 p.2]
def cfE (x y : E) : Int := x.1.1 - y.1.1
theorem ltE (x y : E) : ltOf cfE x y = decide (x.1.1 < y.1.1) := by
  unfold ltOf cfE
  by_cases h : x.1.1 < y.1.1
  · rw [decide_eq_true h, decide_eq_true (by omega)]
  · rw [decide_eq_false h, decide_eq_false (by omega)]
theorem swoE : SWO (ltOf cfE) where
  irrefl x := by rw [ltE]; simp
  trans x y z h1 h2 := by rw [ltE] at *; simp at *; omega
  ntrans x y z h1 h2 := by rw [ltE] at *; simp at *; omega
set_option maxRecDepth 100000 in
theorem byId_walk (x y : E) (W : World) : Calls Try.prog 37 #[.agg #[.int .i64 x.1.1, .int .i64 x.1.2], .agg #[.int .i64 y.1.1, .int .i64 y.1.2]] W fun e w' => e = .returned (.int .i64 (cfE x y)) ∧ ∃ q os', w' = grow (W.drewN q) os' := by
  have hx := x.2
  have hy := y.2
  unfold cfE
  generalize x.1.1 = a at *
  generalize y.1.1 = b at *
  obtain ⟨ha0, ha1⟩ := hx
  obtain ⟨hb0, hb1⟩ := hy
  go_enter Try.func37, Try.ntmps37
  go_wp2
  go_ret
  exact ⟨rfl, 0, _, by rw [alloc_eq_grow, alloc_eq_grow, grow_grow]; rfl⟩
def toE (cs : Cs) (h : Keyed cs) : List E := cs.attachWith (fun p => 0 ≤ p.1 ∧ p.1 ≤ 1099511627776) (fun p hp => (h p hp).1)
theorem toE_val (cs : Cs) (h : Keyed cs) : (toE cs h).map (fun x => x.1) = cs := by
  unfold toE
  exact List.attachWith_map_subtype_val _
theorem toE_len (cs : Cs) (h : Keyed cs) : (toE cs h).length = cs.length := by
  have := congrArg List.length (toE_val cs h)
  rwa [List.length_map] at this
theorem flat_E (l : List E) : l.flatMap encE = (l.map (fun x => x.1)).flatMap enc2 := by
  rw [List.flatMap_map]
  rfl
theorem toE_flat (cs : Cs) (h : Keyed cs) : (toE cs h).flatMap encE = cs.flatMap enc2 := by rw [flat_E, toE_val]
/-- An ascending permutation of nodes with different ids is the one. -/
theorem ordered_is {cs : Cs} {xs ys : List E} (hk : (keys cs).Nodup) (hx : (xs.map (fun x => x.1)).Perm cs) (hp : ys.Perm xs) (hs : SortedIn (ltOf cfE) 0 ys.length ys.toArray) : ys.map (fun x => x.1) = sorted cs := by
  have hpc : (ys.map (fun x => x.1)).Perm cs := (hp.map _).trans hx
  refine List.Perm.eq_of_pairwise (le := fun a b => a.1 ≤ b.1) ?_ ?_ ?_ (hpc.trans (List.mergeSort_perm _ _).symm)
  · intro a b ha hb h1 h2
    have ha' : a ∈ cs := hpc.mem_iff.1 ha
    have hb' : b ∈ cs := (List.mergeSort_perm _ _).mem_iff.1 hb
    have e : a.1 = b.1 := Int.le_antisymm h1 h2
    obtain ⟨k, v⟩ := a
    obtain ⟨k', v'⟩ := b
    simp only at e
    subst e
    have h3 := (lookup_mem hk).2 ha'
    have h4 := (lookup_mem hk).2 hb'
    rw [h3] at h4
    injection h4 with h4
    rw [h4]
  · rw [List.pairwise_map, List.pairwise_iff_getElem]
    intro i j hi hj hij
    have := hs i j (Nat.zero_le _) hij hj
    rw [ltE] at this
    have e1 : ys.toArray[i]! = ys[i] := by simp [getElem!_pos, hi]
    have e2 : ys.toArray[j]! = ys[j] := by simp [getElem!_pos, hj]
    rw [e1, e2] at this
    simpa using this
  · refine (List.pairwise_mergeSort ?_ ?_ _).imp (fun h => by simpa using h)
    · intro a b c h1 h2; simp at *; omega
    · intro a b; simp; omega
theorem sorted_len (cs : Cs) : (sorted cs).length = cs.length := (List.mergeSort_perm _ _).length_eq
theorem drop_flat (xs : Cs) : ∀ (j : Nat) (p : Int × Int), xs[j]? = some p → ((xs.flatMap enc2).drop (j * 2)).take 2 = enc2 p := by
  induction xs with
  | nil => intro j p h; simp at h
  | cons x xs ih =>
    intro j p h
    cases j with
    | zero =>
      simp at h
      subst h
      rfl
    | succ j =>
      have := ih j p (by simpa using h)
      rw [List.flatMap_cons, show (j + 1) * 2 = 2 + j * 2 from by omega, ← List.drop_drop]
      exact this
theorem own_R {w : World} {B : Nat} {v : Value} {n : Nat} {cs : Cs} (h : w.ownsRow B 63 2 v n (cs.flatMap enc2)) (hn : n = cs.length) : Kd.R k63 63 w B (fun _ => True) v (cs.map unpair) := by
  subst hn
  refine ⟨fun _ _ => trivial, cs.flatMap enc2, ?_, ?_, ?_⟩
  · rw [List.length_map]
    exact h
  · rw [List.length_map, Ord.flatMap_len enc2 2 (fun _ => rfl)]
    rfl
  · intro j p hj
    rw [List.getElem?_map] at hj
    obtain ⟨q, hq, rfl⟩ := Option.map_eq_some_iff.1 hj
    have := drop_flat cs j q hq
    show k63.M w B _ (unpair q) (((cs.flatMap enc2).drop (j * 2)).take 2)
    rw [this]
    exact k63_mkM _ _ _ _
end Go.Proofs.Ytcgimjoebkeifaa.QComp

/- qdigest.Compress's last loop: the map's entries are collected, in whatever order. -/
namespace Go.Proofs.Ytcgimjoebkeifaa.QComp
open Go.RowKit Go.Proofs.YtcgimjoebkeifaaW.PrintWords Go.Proofs.QHeap Go.Proofs.QComp Go.Proofs.Ytcgimjoebkeifaa.QHeap Go.Proofs.Ytcgimjoebkeifaa.PQ Go.Sort
set_option maxHeartbeats 1000000
structure RSt (w wr : World) (B mb q : Nat) (X Z : Array Value) (D : DataW Unit) (cs acc : Cs) (left : Lit → Bool) (cnt : Nat) (v : Value) : Prop where
  bel : Below B w wr
  le : B ≤ wr.heap.size
  bx : wr.heap[B]? = some (.cells X 24 (0, 0))
  br : wr.heap[B + 1]? = some (.cells Z 24 (0, 0))
  qge : B ≤ q
  rg : wr.ranges Try.prog 3 (plainElem Try.prog 3) mb q cs.length D left cnt
  row : wr.ownsRow B 63 2 v acc.length (acc.flatMap enc2)
  nn : v ≠ .slice none 0 0
  acc1 : ∀ p ∈ acc, cs.lookup p.1 = some p.2
  acc2 : (keys acc).Nodup
  lf : ∀ x, left (L64 x) = ((cs.lookup x).isSome && !decide (x ∈ keys acc))
theorem iter_block {w : World} {mb q n : Nat} {D : DataW Unit} {left : Lit → Bool} {cnt : Nat} (h : w.ranges Try.prog 3 (plainElem Try.prog 3) mb q n D left cnt) : (∃ s t u, w.heap[q]? = some (.mapIter (some mb) s t u)) ∧ ∃ es clock, w.heap[mb]? = some (.map es clock) := by
  obtain ⟨es, clock, since, seen, c0, hb, _, _, _, hr, _⟩ := h
  exact ⟨⟨_, _, _, hr⟩, _, _, hb⟩
theorem same_self (x : Int) : (L64 x).sameKey (L64 x) = true := by
  simp [Lit.sameKey]
theorem length_mem {acc : Cs} {x : Int} {c : Int} : x ∈ keys (acc ++ [(x, c)]) := by simp [keys]
section
variable {w wr w1 w3 : World} {B mb q : Nat} {X Z : Array Value} {D : DataW Unit} {cs acc : Cs} {left : Lit → Bool} {cnt cnt1 : Nat} {v v' : Value} {x c : Int}
theorem RSt.own_q (h : RSt w wr B mb q X Z D cs acc left cnt v) : v.ownBlock = none ∨ (v.ownBlock ≠ some q ∧ v.ownBlock ≠ some mb ∧ v.ownBlock ≠ some B ∧ v.ownBlock ≠ some (B + 1)) := by
  obtain ⟨⟨s, t, u, hq⟩, es, clock, hm⟩ := iter_block h.rg
  rcases h.row.2 with ⟨h1, _⟩ | ⟨g, cap, cur, rfl, _, hg, _⟩
  · exact absurd h1 h.nn
  · refine .inr ⟨?_, ?_, ?_, ?_⟩ <;> intro e <;> have e' := Option.some.inj e
    · change g = q at e'; subst e'; rw [hg] at hq; cases hq
    · change g = mb at e'; subst e'; rw [hg] at hm; cases hm
    · change g = B at e'; subst e'; have := h.bx; rw [hg] at this; simp at this
    · change g = B + 1 at e'; subst e'; have := h.br; rw [hg] at this; simp at this
theorem RSt.q_ne (h : RSt w wr B mb q X Z D cs acc left cnt v) : q ≠ B ∧ q ≠ B + 1 ∧ mb ≠ B ∧ mb ≠ B + 1 := by
  obtain ⟨⟨s, t, u, hq⟩, es, clock, hm⟩ := iter_block h.rg
  refine ⟨?_, ?_, ?_, ?_⟩
  · rintro rfl; rw [h.bx] at hq; cases hq
  · rintro rfl; rw [h.br] at hq; cases hq
  · rintro rfl; rw [h.bx] at hm; cases hm
  · rintro rfl; rw [h.br] at hm; cases hm
/-- The row, behind the iterator's step. -/
theorem RSt.row1 (h : RSt w wr B mb q X Z D cs acc left cnt v) (hg : wr.grownBy w1 (some q)) : w1.ownsRow B 63 2 v acc.length (acc.flatMap enc2) :=
  h.row.kept hg (by rcases h.own_q with h1 | h1; exact .inl h1; exact .inr h1.1)
/-- One round: an entry has come, and is appended. -/
theorem RSt.step (h : RSt w wr B mb q X Z D cs acc left cnt v) (hrel : Rel D cs) (hlx : left (L64 x) = true) (hat : ∀ zd, D.atKey (L64 x) zd = .lit (L64 c))
    (hrg : w1.ranges Try.prog 3 (plainElem Try.prog 3) mb q cs.length D (fun z => left z && !z.sameKey (L64 x)) cnt1) (hg : wr.grownBy w1 (some q)) {o : Obj}
    (hown : w3.ownsRow B 63 2 v' (acc.length + 1) (acc.flatMap enc2 ++ [.int .i64 x, .int .i64 c])) (hgrow : (w1.alloc o).grownBy w3 v.ownBlock) (hn : v' = .slice none 0 0 ↔ v = .slice none 0 0 ∧ 1 = 0) :
    RSt w w3 B mb q X Z D cs (acc ++ [(x, c)]) (fun z => left z && !z.sameKey (L64 x)) cnt1 v' := by
  have hq := h.q_ne
  have ho := h.own_q
  have hlt : B + 1 < wr.heap.size := (Array.getElem?_eq_some_iff.1 h.br).1
  have hs1 := hg.size
  have hs3 := hgrow.size
  have hsa : (w1.alloc o).heap.size = w1.heap.size + 1 := by simp
  have e1 : ∀ k, k < wr.heap.size → k ≠ q → v.ownBlock ≠ some k → w3.heap[k]? = wr.heap[k]? := fun k hk hn hv =>
    (hgrow.block k (by omega) (fun e => hv e.symm)).trans ((Below.heap_alloc w1 o k (by omega)).trans (hg.block k hk (fun e => hn (Option.some.inj e))))
  have hnv : ∀ k, (v.ownBlock = none ∨ v.ownBlock ≠ some k) → v.ownBlock ≠ some k := fun k hk => by
    rcases hk with hk | hk
    · rw [hk]; simp
    · exact hk
  have hlook : cs.lookup x = some c := by
    have h1 := h.lf x
    rw [hlx] at h1
    cases hh : cs.lookup x with
    | none => rw [hh] at h1; simp at h1
    | some z =>
      have h2 := hrel.at_ x (.lit (L64 0))
      rw [hat, hh] at h2
      rw [(Lit.int.inj (DataW.lit.inj h2)).2]
  have hnx : ¬ x ∈ keys acc := by
    intro hm
    have h1 := h.lf x
    rw [hlx, decide_eq_true hm] at h1
    simp at h1
  refine ⟨?_, by have := h.le; omega, (e1 B (by omega) (Ne.symm hq.1) (hnv B (ho.imp id (fun z => z.2.2.1)))).trans h.bx, (e1 (B + 1) hlt (Ne.symm hq.2.1) (hnv (B + 1) (ho.imp id (fun z => z.2.2.2)))).trans h.br, h.qge, ?_, ?_, ?_, ?_, ?_, ?_⟩
  · refine ((h.bel.grown hg h.le (fun k hk => by injection hk with hk; have := h.qge; omega)).alloc (by have := h.le; omega) o).grown hgrow (by have := h.le; omega) (fun k hk => ?_)
    exact (h.row.lt k hk).1
  · exact (hrg.alloc o).kept hgrow (fun e => by rcases ho with h1 | h1; rw [h1] at e; cases e; exact h1.2.1 e.symm) (fun e => by rcases ho with h1 | h1; rw [h1] at e; cases e; exact h1.1 e.symm)
  · rw [List.length_append, List.flatMap_append]
    exact hown
  · intro e
    have := (hn.1 e).2
    omega
  · intro p hp
    rcases List.mem_append.1 hp with hp | hp
    · exact h.acc1 p hp
    · rw [List.mem_singleton] at hp
      subst hp
      exact hlook
  · have e2 : keys (acc ++ [(x, c)]) = keys acc ++ [x] := by simp [keys]
    rw [e2, List.nodup_append]
    refine ⟨h.acc2, by simp, fun a ha b hb => ?_⟩
    rw [List.mem_singleton] at hb
    subst hb
    rintro rfl
    exact hnx ha
  · intro z
    have e2 : keys (acc ++ [(x, c)]) = keys acc ++ [x] := by simp [keys]
    rw [h.lf z, e2]
    by_cases e : z = x
    · subst e
      rw [same_self]
      simp
    · rw [Maps.sameKey_ne (L64_ne e)]
      simp [e]
theorem RSt.shape (h : RSt w wr B mb q X Z D cs acc left cnt v) : ∃ g cap, v = .slice (some ⟨g, 0, none⟩) acc.length cap ∧ ∀ j u, (acc.flatMap enc2)[j]? = some u → wr.cell? ⟨g, 0 + j, none⟩ = some u := by
  rcases h.row.2 with ⟨h1, _⟩ | ⟨g, cap, cur, rfl, _, hg, h2, h3, h4, h5⟩
  · exact absurd h1 h.nn
  · refine ⟨g, cap, rfl, fun j u hu => ?_⟩
    rw [← h5, List.getElem?_take] at hu
    by_cases hj : j < acc.length * 2
    · rw [if_pos hj] at hu
      simp [World.cell?, hg]
      simpa using hu
    · rw [if_neg hj] at hu
      cases hu
theorem RSt.xcell (h : RSt w wr B mb q X Z D cs acc left cnt v) (j : Nat) : wr.cell? ⟨B, j, none⟩ = X[j]? := by simp [World.cell?, h.bx]
theorem keyed_of {cs acc : Cs} (h : Keyed cs) (hp : acc.Perm cs) : Keyed acc := fun p hm => h p (hp.mem_iff.1 hm)
/-- At the end all of the map has been collected. -/
theorem RSt.done (h : RSt w wr B mb q X Z D cs acc left cnt v) (hn : (keys cs).Nodup) (hl : ∀ kl, left kl = false) : acc.Perm cs := by
  refine collected hn h.acc2 h.acc1 (fun k hk => ?_)
  have h1 := h.lf k
  rw [hl, hk] at h1
  simpa using h1
end
end Go.Proofs.Ytcgimjoebkeifaa.QComp

/- qdigest.Compress at a valid digest: the call answers what the plain function 'comp' says. -/
namespace Go.Proofs.Ytcgimjoebkeifaa.QComp
open Go.RowKit Go.Proofs.YtcgimjoebkeifaaW.PrintWords Go.Proofs.QHeap Go.Proofs.QComp Go.Proofs.Ytcgimjoebkeifaa.QHeap Go.Proofs.Ytcgimjoebkeifaa.PQ
set_option maxHeartbeats 8000000
theorem make68 (n : Nat) (hn : n ≤ 1073741824) (W : World) : (Instr.makeSlice 68 (.int .i64 0) (.int .i64 n)).run Try.prog W = .ok (.slice (some ⟨W.heap.size, 0, none⟩) 0 n) (W.alloc (.cells (madeCells #[.int .i64 0] n) 3)) := by
  obtain ⟨i0, hi, hz0, hz1, hz2⟩ := info_parts QHeap.info3
  have h := run_make (P := Try.prog) W 68 3 i0 (.int .i64 0) Try.underlying68 hi hz0 .i64 .i64 0 n (by omega) (by omega) (by rw [hz2]; omega) (by omega)
  rw [hz1] at h
  simp only [Int.toNat_natCast, Int.toNat_zero, Nat.mul_one] at h
  exact h
theorem make22 (n : Nat) (hn : n ≤ 1073741824) (W : World) : (Instr.makeSlice 22 (.int .i64 0) (.int .i64 n)).run Try.prog W = .ok (.slice (some ⟨W.heap.size, 0, none⟩) 0 n) (W.alloc (.cells (madeCells #[.int .i64 0, .int .i64 0] (n * 2)) 63)) := by
  obtain ⟨i0, hi, hz0, hz1, hz2⟩ := info_parts Ord.info63
  have h := run_make (P := Try.prog) W 22 63 i0 _ Try.underlying22 hi hz0 .i64 .i64 0 n (by omega) (by omega) (by rw [hz2]; omega) (by omega)
  rw [hz1] at h
  simp only [Int.toNat_natCast, Int.toNat_zero] at h
  exact h
theorem make67 (n : Nat) (W : World) : (Instr.makeMap 67 (some (.int .i64 n))).run Try.prog W = .ok (.map (some W.heap.size)) (W.alloc (.map #[] 0)) := by
  simp [Instr.makeMap, run_underlying Try.underlying67, asInt, asIntOf]
theorem cst_start (w w1 : World) (n : Nat) (X Z : Array Value) (hn : n ≤ 1073741824) (b0 : w1.heap[w.heap.size]? = some (.cells X 24 (0, 0))) (b1 : w1.heap[w.heap.size + 1]? = some (.cells Z 24 (0, 0))) (hbb : Below w.heap.size w w1) :
    CSt w (((w1.alloc (.map #[] 0)).alloc (.cells (madeCells #[.int .i64 0] n) 3)).alloc (.cells #[.slice (some ⟨w1.heap.size + 1, 0, none⟩) 0 n] 68)) w.heap.size w1.heap.size (w1.heap.size + 1 + 1) (w1.heap.size + 1) n X Z [] [] := by
  have hs := hbb.size
  have e1 : (w1.alloc (.map #[] 0)).heap.size = w1.heap.size + 1 := by simp
  have e2 : ((w1.alloc (.map #[] 0)).alloc (.cells (madeCells #[.int .i64 0] n) 3)).heap.size = w1.heap.size + 1 + 1 := by simp
  refine ⟨((hbb.alloc hs _).alloc (by omega) _).alloc (by omega) _, blk_alloc (blk_alloc (blk_alloc b0 _) _) _, blk_alloc (blk_alloc (blk_alloc b1 _) _) _, hs, ?_, ⟨by omega, ?_, ?_⟩⟩
  · refine (MapAt.made w1).move ?_
    rw [blk_alloc (blk_alloc (blk_new w1 _) _) _, blk_new]
  · rw [← e2]
    exact blk_new _ _
  · have h := World.ownsRow_made (base := w.heap.size) (e := 3) (size := 1) (w1.alloc (.map #[] 0)) (madeCells #[.int .i64 0] n) n (by omega) (by unfold maxLen; omega) (by rw [size_madeCells]; omega)
    rw [e1] at h
    exact h.alloc _
theorem fill_next (xs : List S63) (j : Nat) (cs : Cs) (td : List Int) (hj : j < xs.length) (h : fillS ((xs.map pair).take j) [] [] = (cs, td)) :
    fillS ((xs.map pair).take (j + 1)) [] [] = (put cs (rd_T63 xs j).f0 (rd_T63 xs j).f1, if 1 < (rd_T63 xs j).f0 then td ++ [(rd_T63 xs j).f0 / 2] else td) := by
  have hl : j < (xs.map pair).length := by simpa using hj
  rw [List.take_add_one, List.getElem?_eq_getElem hl, Option.toList_some, fillS_append, h]
  have e : (xs.map pair)[j] = ((rd_T63 xs j).f0, (rd_T63 xs j).f1) := by
    simp [pair, rd_T63, hj, List.getD_eq_getElem?_getD]
  rw [e]
  rfl
theorem appended {W w1 : World} {B g r cap n r' cap' : Nat} {L : List Int} {x : Int} (h : Hp W B g r cap L) (hn : L.length = n) {o : Obj}
    (hown' : w1.ownsRow B 3 1 (.slice (some ⟨r', 0, none⟩) (n + 1) cap') (n + 1) (nums .i64 L ++ [.int .i64 x])) (hg2 : (W.alloc o).grownBy w1 (some r)) :
    w1.heap[g]? = some (.cells #[.slice (some ⟨r, 0, none⟩) L.length cap] 68 (0, 0)) ∧
    Hp (w1.setCell ⟨g, 0, none⟩ (.slice (some ⟨r', 0, none⟩) (n + 1) cap')) B g r' cap' (L ++ [x]) ∧ Fr (fun k => k = g ∨ k = r) W (w1.setCell ⟨g, 0, none⟩ (.slice (some ⟨r', 0, none⟩) (n + 1) cap')) := by
  have hgl := h.lt
  have hb1 : w1.heap[g]? = some (.cells #[.slice (some ⟨r, 0, none⟩) L.length cap] 68 (0, 0)) := (hg2.block g (by simp; omega) (fun e => h.ne (Option.some.inj e))).trans ((Below.heap_alloc W _ g hgl).trans h.box)
  have hne' : g ≠ r' := by
    rintro rfl
    rcases hown'.2 with ⟨h1, _⟩ | ⟨g', c', cur, h1, _, h2, _⟩
    · simp at h1
    · simp at h1
      obtain ⟨rfl, _⟩ := h1
      rw [hb1] at h2
      simp at h2
  refine ⟨hb1, ⟨h.ge, ?_, ?_⟩, ⟨?_, ?_, ?_, ?_, ?_⟩⟩
  · rw [List.length_append, hn]
    exact one_setCell hb1
  · rw [List.length_append, hn]
    have e8 : nums .i64 (L ++ [x]) = nums .i64 L ++ [.int .i64 x] := by simp [nums]
    rw [e8]
    exact ownsRow_setCell_other hown' (fun e => hne' (Option.some.inj e).symm) _
  · exact hg2.os
  · exact hg2.tape
  · exact hg2.output
  · have := hg2.size
    simp [World.setCell] at this ⊢
    omega
  · intro k hk hn
    rw [Below.heap_setCell _ _ _ _ (by simp; omega), hg2.block k (by simp; omega) (fun e => hn (.inr (Option.some.inj e))), Below.heap_alloc W _ k hk]
set_option maxRecDepth 100000 in
theorem comp_yes (k : Nat) (bits K count : Int) (A : Option Addr) (c : Nat) (xs : List S63) (cs : Cs) (w : World) (hr : Kd.C k63 w A xs.length xs) (hc : xs.length ≤ c) (h : qdigest_Check.f k bits K count xs = some 0)
    (h2 : comp k bits K count (xs.map pair) = some cs) :
    Calls Try.prog 11 #[.agg #[.int .i64 bits, .int .i64 K, .int .i64 count, .slice A xs.length c]] w (CPost bits K count (cs.map unpair) 0 w) := by
  have hch := qdigest_Check.calls k bits K count A c xs 0 (W2 w #[.int .i64 bits, .int .i64 K, .int .i64 count, .slice A xs.length c]) (Kd.C_below hr (W2_below _ _)) hc h
  unfold comp at h2
  by_cases hb : (1 ≤ bits ∧ bits ≤ 40) ∧ (1 ≤ K ∧ K ≤ 1099511627776) ∧ (0 ≤ count ∧ count ≤ 1125899906842624) ∧ Okay (xs.map pair)
  case neg => rw [if_neg hb] at h2; cases h2
  rw [if_pos hb] at h2
  obtain ⟨⟨hb1, hb2⟩, ⟨hK1, hK2⟩, ⟨hc1, hc2⟩, hok⟩ := hb
  have hlen : xs.length ≤ 1073741824 := by simpa using hok.1
  have H2 := Lib.hid h2
  have HOK := Lib.hid hok
  have HR := Lib.hid hr
  have hmk := fun W => make68 xs.length hlen W
  have hmm := fun W => make67 xs.length W
  clear h2 hok hr h
  generalize hn : xs.length = n at *
  have HN := Lib.hid hn
  clear hn
  go_enter Try.func11, Try.ntmps11
  go_wp2_with fail
  refine hch.mono ?_
  rintro e w1 ⟨rfl, hB⟩
  obtain ⟨b0, b1, hbb⟩ := W2_blocks hB
  have x0 := blk_cell b0 0
  have x1 := blk_cell b0 1
  have x2 := blk_cell b0 2
  have x3 := blk_cell b0 3
  simp at x0 x1 x2 x3
  have hz : w.heap.size + 1 < w1.heap.size := by have := (Array.getElem?_eq_some_iff.1 b1).1; exact this
  have hz0 : w.heap.size < w1.heap.size := by omega
  have hz2 : w.heap.size < w1.heap.size + 1 := by omega
  have hz3 : w.heap.size < w1.heap.size + 1 + 1 := by omega
  have hz4 : w.heap.size < w1.heap.size + 2 := by omega
  have HB := Lib.hid hB
  have B0 := Lib.hid b0
  have B1 := Lib.hid b1
  have HBB := Lib.hid hbb
  clear b0 b1 hB hbb hch
  go_wp2_with fail
  have hst := cst_start w w1 n _ _ hlen B0.out B1.out HBB.out
  have hgp : w.heap.size + 1 < w1.heap.size + 1 + 1 := by omega
  generalize ((w1.alloc (.map #[] 0)).alloc (.cells (madeCells #[.int .i64 0] n) 3)).alloc (.cells #[.slice (some ⟨w1.heap.size + 1, 0, none⟩) 0 n] 68) = wa at hst ⊢
  generalize w1.heap.size + 1 + 1 = g at hst ⊢
  generalize w1.heap.size + 1 = r0 at hst ⊢
  generalize w1.heap.size = mb at hst ⊢
  clear x0 x1 x2 x3 hz hz0 hz2 hz3 hz4 hmk hmm
  go_loopg [30] n (fun gk s30 wr => ∃ (j : Nat) (cs0 : Cs) (td : List Int) (r cap : Nat), s30 = .int .i64 j ∧ CSt w wr w.heap.size mb g r cap #[.int .i64 bits, .int .i64 K, .int .i64 count, .slice A n c] #[.int .i64 0, .int .i64 0, .int .i64 0, .slice none 0 0] cs0 td ∧ fillS ((xs.map pair).take j) [] [] = (cs0, td) ∧ j ≤ n ∧ gk = n - j)
  case atStart => exact ⟨0, [], [], r0, n, rfl, hst, rfl, Nat.zero_le _, rfl⟩
  case round =>
    obtain ⟨j, cs0, td, r, cap, rfl, hs, hfill, hj, hgk⟩ := hrel
    have HF := Lib.hid hfill
    have HG := Lib.hid hgk
    clear hfill hgk
    by_cases hlt : j < n
    · have hlti : (j : Int) < n := by omega
      have hjn : j < xs.length := by rw [HN.out]; exact hlt
      obtain ⟨ad, rfl, hx0, hx1⟩ := at_T63 (Kd.C_below HR.out hs.bel) (j : Int) (by omega) (by omega)
      simp only [Int.toNat_natCast] at hx0 hx1
      have hnext := fill_next xs j cs0 td hjn HF.out
      have hbd : (0 ≤ (rd_T63 xs j).f0 ∧ (rd_T63 xs j).f0 ≤ 1099511627776) ∧ (0 ≤ (rd_T63 xs j).f1 ∧ (rd_T63 xs j).f1 ≤ 1125899906842624) :=
        HOK.out.2 (pair (rd_T63 xs j)) (List.mem_map.2 ⟨_, by simp [rd_T63, List.getD_eq_getElem?_getD, hjn], rfl⟩)
      have hcl := fillS_cs_len ((xs.map pair).take j) [] []
      have htl := fillS_td_len ((xs.map pair).take j) [] []
      rw [HF.out] at hcl htl
      have hcl2 : cs0.length ≤ 1073741824 := by simp at hcl; omega
      have htl2 : td.length ≤ 1073741824 := by simp at htl; omega
      clear hcl htl
      generalize (rd_T63 xs j).f0 = id at hx0 hx1 hnext hbd
      generalize (rd_T63 xs j).f1 = ct at hx0 hx1 hnext hbd
      obtain ⟨⟨hi0, hi1⟩, hc0, hc3⟩ := hbd
      have HNX := Lib.hid hnext
      clear hnext
      have hs1 := hs.alloc (.cells #[.int .i64 id, .int .i64 ct] 63)
      obtain ⟨w2, hset, hm2, hg2⟩ := hs1.mp.set id ct (wf_of (by omega) (by omega)) (wf_of (by omega) (by omega)) hcl2
      have hs2 := hs1.map hm2 hg2
      have hnb : w2.heap[wr.heap.size]? = some (.cells #[.int .i64 id, .int .i64 ct] 63 (0, 0)) := by
        rw [hg2.block _ (by simp) (by have := hs.mp.lt; intro e; have : wr.heap.size = mb := Option.some.inj e; omega)]
        exact blk_new wr _
      have hn0 := blk_cell hnb 0
      have hn1 := blk_cell hnb 1
      simp at hn0 hn1
      have hbc := hs2.hp.cell
      have HS2 := Lib.hid hs2
      have HS := Lib.hid hs
      clear hs1 hm2 hg2 hnb hs hs2
      by_cases hgt : 1 < id
      · have hq0 : 0 ≤ id / 2 := by omega
        have hrow := HS2.out.hp.row
        obtain ⟨i0, hi, hz0, hz1, hz2⟩ := info_parts QHeap.info3
        go_wp2_with (at_builtin; refine wpList_append_own_at _ rfl _ _ 68 rfl w.heap.size 3 i0 (.int .i64 0) 1 8 Try.underlying68 hi hz0 hz1 hz2 rfl (by decide) _ _ _ rfl (hrow.alloc _) ⟨w2.heap.size, 0, none⟩ 1 1 [.int .i64 (id / 2)] rfl rfl (cell_one_new _ _ _) (by simp [Value.oneCell']) (by unfold maxLen; omega) (by omega) (by simp; have := HS2.out.bel.size; omega) ?_; intro v' w3 hown' hgrow _ hat; obtain ⟨r', cap', rfl, hle', hm'⟩ := hown'.form (by omega); have hap := appended HS2.out.hp rfl hown' hgrow; have hc1 := cell_of_one hap.1; have hf1 := free_of_one hap.1; clear hbc; have HAP := Lib.hid hap; clear hap)
        have hs3 := HS2.out.heap HAP.out.2.1 HAP.out.2.2 rfl
        have hnx := HNX.out
        rw [if_pos hgt] at hnx
        go_roundg (n - (j + 1))
        case rel => exact ⟨j + 1, _, _, r', cap', by go_num, hs3, hnx, by omega, rfl⟩
        case measure => rw [HG.out]; omega
      · go_wp2
        have hnx := HNX.out
        rw [if_neg (by omega)] at hnx
        go_roundg (n - (j + 1))
        case rel => exact ⟨j + 1, _, _, r, cap, by go_num, HS2.out, hnx, by omega, rfl⟩
        case measure => rw [HG.out]; omega
    · have hjn : j = n := by omega
      have HJN := Lib.hid hjn
      clear hjn
      go_wp2_with fail
      have hfull : fillS (xs.map pair) [] [] = (cs0, td) := by
        have h := HF.out
        rwa [HJN.out, ← HN.out, List.take_of_length_le (by simp)] at h
      have h2 := H2.out
      rw [hfull] at h2
      obtain ⟨csF, hloop, hfin⟩ := Option.bind_eq_some_iff.1 h2
      have htl := fillS_td_len (xs.map pair) [] []
      rw [hfull] at htl
      have htl2 : td.length ≤ 1073741824 := by simp at htl; have := HN.out; omega
      have hini := Init_calls wr w.heap.size g r cap td.length td hs.hp rfl (by omega)
      have HLP := Lib.hid hloop
      have HFIN := Lib.hid hfin
      have HS := Lib.hid hs
      clear hfull h2 hloop hfin htl hs
      refine hini.mono ?_
      rintro e wb ⟨rfl, hpb, hfb⟩
      have hsb := HS.out.heap hpb (hfb.mono (fun _ _ h => .inr h)) rfl
      have y1 := hsb.xcell 1
      have y2 := hsb.xcell 2
      simp at y1 y2
      clear hpb hfb hini
      have HSB := Lib.hid hsb
      clear hsb
      go_wp2_with fail
      clear y1 y2
      generalize hthr : count / K = thr at HLP
      have hth0 : 0 ≤ thr ∧ thr ≤ 1125899906842624 := by
        subst hthr
        constructor
        · exact Int.ediv_nonneg hc1 (by omega)
        · exact Int.le_trans (Int.ediv_le_self _ hc1) hc2
      have HTHR := Lib.hid hthr
      clear hthr
      go_loopg [9] k (fun gk s9 wq => ∃ (cs1 : Cs) (td1 : List Int) (r1 cap1 : Nat), CSt w wq w.heap.size mb g r1 cap1 #[.int .i64 bits, .int .i64 K, .int .i64 count, .slice A n c] #[.int .i64 0, .int .i64 0, .int .i64 0, .slice none 0 0] cs1 td1 ∧ loop thr (2 ^ bits.toNat) gk cs1 td1 = some csF)
      case atStart => exact ⟨cs0, _, r, cap, HSB.out, HLP.out⟩
      case round =>
        obtain ⟨cs1, td1, r1, cap1, hs1, hl1⟩ := hrel
        cases gk with
        | zero => simp [loop] at hl1
        | succ gk =>
          unfold loop at hl1
          have hmL := meth_Len g wr _ hs1.hp.cell
          have hcl := hs1.hp.cell
          by_cases h0 : td1.length = 0
          · rw [if_pos h0] at hl1
            have HL1 := Lib.hid hl1
            have HS1 := Lib.hid hs1
            rw [h0] at hcl
            have H0 := Lib.hid h0
            clear hl1 hs1 h0 hmL
            have HCS : Hid (cs1 = csF) := Lib.hid (Option.some.inj HL1.out)
            obtain ⟨hky, hln, hso⟩ : Keyed csF ∧ csF.length ≤ 1000000 ∧ sorted csF = cs := by
              have h := HFIN.out
              by_cases hh : Keyed csF ∧ csF.length ≤ 1000000
              · rw [if_pos hh] at h; exact ⟨hh.1, hh.2, Option.some.inj h⟩
              · rw [if_neg hh] at h; cases h
            have hs1 := HS1.out
            rw [HCS.out] at hs1
            have hnd : (keys csF).Nodup := by obtain ⟨D, _, r⟩ := hs1.mp; exact r.nodup
            have hlen2 := hs1.mp.len 3
            have hmk22 := make22 csF.length (by omega) wr
            obtain ⟨D, hown, hrel⟩ := hs1.mp
            have hrow := World.ownsRow_made (base := w.heap.size) (e := 63) (size := 2) wr (madeCells #[.int .i64 0, .int .i64 0] (csF.length * 2)) csF.length hs1.bel.size (by unfold maxLen; omega) (by rw [size_madeCells])
            have HBEL := Lib.hid (hs1.bel.alloc hs1.bel.size (.cells (madeCells #[.int .i64 0, .int .i64 0] (csF.length * 2)) 63))
            have HBX := Lib.hid (blk_alloc hs1.bx (.cells (madeCells #[.int .i64 0, .int .i64 0] (csF.length * 2)) 63))
            have HBR := Lib.hid (blk_alloc hs1.br (.cells (madeCells #[.int .i64 0, .int .i64 0] (csF.length * 2)) 63))
            have hmlt := hs1.mp.lt
            have hown2 := hown.alloc (.cells (madeCells #[.int .i64 0, .int .i64 0] (csF.length * 2)) 63)
            have hrlt : w.heap.size ≤ wr.heap.size := hs1.bel.size
            have HKY := Lib.hid hky
            have HSO := Lib.hid hso
            have HND := Lib.hid hnd
            have HREL := Lib.hid hrel
            clear hky hso hnd hrel hs1 hown
            go_wp2_with (first | (go_at_call 33; refine (Len_calls _ _ _ _).mono ?_; rintro e w' ⟨rfl, rfl⟩) | (at_range; refine wpList_range_own _ rfl (.tmp 127) 67 rfl 3 3 (Maps.int_keyed Try.underlying3) Try.underlying67 (plainElem Try.prog 3) mb csF.length D rfl hown2 ?_; intro w0 hrg0 hg0 hs0; go_frame))
            have hq0 : w.heap.size ≤ (wr.alloc (Obj.cells (madeCells #[.int .i64 0, .int .i64 0] (csF.length * 2)) 63)).heap.size := by simp; omega
            have hrs : RSt w w0 w.heap.size mb (wr.alloc (Obj.cells (madeCells #[.int .i64 0, .int .i64 0] (csF.length * 2)) 63)).heap.size #[.int .i64 bits, .int .i64 K, .int .i64 count, .slice A n c] #[.int .i64 0, .int .i64 0, .int .i64 0, .slice none 0 0] D csF [] (Maps.has D) (Maps.size D) (.slice (some ⟨wr.heap.size, 0, none⟩) 0 csF.length) := by
              have hlt2 := (Array.getElem?_eq_some_iff.1 HBR.out).1
              refine ⟨HBEL.out.grown hg0 hq0 (fun k hk => by cases hk), by rw [hs0]; omega, (hg0.block _ (by omega) (by simp)).trans HBX.out, (hg0.block _ hlt2 (by simp)).trans HBR.out, hq0, hrg0, hrow.kept hg0 (.inr (by simp [Value.ownBlock])), by simp, by simp, List.nodup_nil, fun x => ?_⟩
              rw [HREL.out.has]
              simp [keys]
            have hsz := HREL.out.size
            clear hrg0 hg0 hs0 hrow hown2 hq0 hmk22 hlen2 hmlt hrlt hcl
            generalize (wr.alloc (Obj.cells (madeCells #[.int .i64 0, .int .i64 0] (csF.length * 2)) 63)).heap.size = q at hrs ⊢
            have HRS := Lib.hid hrs
            have HSZ := Lib.hid hsz
            clear hrs hsz
            go_loopg [12] (Maps.size D) (fun gk s12 wq => ∃ (acc : Cs) (left : Lit → Bool), RSt w wq w.heap.size mb q #[.int .i64 bits, .int .i64 K, .int .i64 count, .slice A n c] #[.int .i64 0, .int .i64 0, .int .i64 0, .slice none 0 0] D csF acc left gk s12 ∧ acc.length + gk ≤ csF.length)
            case atStart => exact ⟨[], _, HRS.out, by rw [HSZ.out]; simp⟩
            case round =>
              obtain ⟨acc, left, hst, hbd⟩ := hrel
              have HST := Lib.hid hst
              have hrg := hst.rg
              clear hst
              go_wp2_with (at_next; refine wpList_next_ranges_ii _ rfl _ rfl 3 3 .i64 .i64 (Maps.int_keyed Try.underlying3) Try.underlying3 Try.underlying3 mb q csF.length _ _ _ rfl hrg ?_ ?_)
              · intro hc0 hl0
                have HC0 := Lib.hid hc0
                have HL0 := Lib.hid hl0
                clear hc0 hl0 hrg
                have hperm := HST.out.done HND.out HL0.out
                obtain ⟨rb, cap2, hv2, hcells⟩ := HST.out.shape
                subst hv2
                have hky2 := keyed_of HKY.out hperm
                have hln2 : acc.length ≤ 1000000 := by rw [hperm.length_eq]; exact hln
                have eg : ∀ args w, (callFunc 37 args).run Try.prog w = .ok (.enter 37 args) w := enters_of Try.func37 (by kernel_rfl) rfl
                have hord := Ord.ordered_calls encE (fun _ => rfl) (fun x v hv => by simp [encE] at hv; rcases hv with rfl | rfl <;> rfl) cfE swoE 37 #[] eg rb 0 acc.length cap2 (toE acc hky2) (toE_len acc hky2) hln2 wr.drew
                  (by rw [toE_flat]; exact hcells) (fun W _ x y => byId_walk x y W)
                have q0 := HST.out.xcell 0
                have q1 := HST.out.xcell 1
                have q2 := HST.out.xcell 2
                simp at q0 q1 q2
                have hbl := (Array.getElem?_eq_some_iff.1 HST.out.br).1
                have HPERM := Lib.hid hperm
                clear hperm hcells
                go_wp2_with fail
                go_region_held3 (fun W => W.cell? ⟨w.heap.size, 0, none⟩ = some (.int .i64 bits) ∧ W.cell? ⟨w.heap.size, 1, none⟩ = some (.int .i64 K) ∧ W.cell? ⟨w.heap.size, 2, none⟩ = some (.int .i64 count)) (go_keep) (first | (go_at_call 36; refine hord.mono ?_; rintro e w2 ⟨v', ys, rfl, hp, hs, hown, hB⟩; obtain ⟨A2, c2, rfl⟩ := own_slice hown; have p0 := (hB.cell (p := ⟨w.heap.size, 0, none⟩) (by simp; omega)).trans q0; have p1 := (hB.cell (p := ⟨w.heap.size, 1, none⟩) (by simp; omega)).trans q1; have p2 := (hB.cell (p := ⟨w.heap.size, 2, none⟩) (by simp; omega)).trans q2; have hb2 := (hB.block (w.heap.size + 1) hbl).trans HST.out.br; have t0 := blk_cell hb2 0; have t1 := blk_cell hb2 1; have t2 := blk_cell hb2 2; have t3 := blk_cell hb2 3; have f0 := blk_frozen hb2 0; have f1 := blk_frozen hb2 1; have f2 := blk_frozen hb2 2; have f3 := blk_frozen hb2 3; simp at t0 t1 t2 t3; have HB2 := Lib.hid hb2; clear hb2))
                have hcs2 := ordered_is HND.out (by rw [toE_val]; exact HPERM.out) hp (by rw [(hp.length_eq).trans (toE_len acc hky2)]; exact hs)
                rw [HSO.out] at hcs2
                have hfl := flat_E ys
                rw [hcs2] at hfl
                rw [hfl] at hown
                have hcl : acc.length = cs.length := by
                  rw [← hcs2, List.length_map, hp.length_eq, toE_len]
                have hwl : wr.drew.heap.size = wr.heap.size := rfl
                have hown3 : w2.ownsRow w.heap.size 63 2 (.slice A2 acc.length c2) acc.length (cs.flatMap enc2) := own_weaken hown (by rw [hwl]; exact HST.out.le)
                have hoblk : (Value.slice A2 acc.length c2).ownBlock ≠ some (w.heap.size + 1) := by
                  intro e
                  have := (hown.lt _ e).1
                  rw [hwl] at this
                  omega
                have hbw : Below w.heap.size w w2 := HST.out.bel.trans ((Below.refl w.heap.size wr).drew.trans (hB.mono HST.out.le))
                have HCL := Lib.hid hcl
                clear hfl hcs2 hcl hown
                go_wp2_with fail
                refine bodyPost_ret (results_ct rfl _ _ (w.heap.size + 1) 24 #[.int .i64 bits, .int .i64 K, .int .i64 count, .slice A2 acc.length c2] (0, 0) _ rfl (blk_put (cs := #[.int .i64 bits, .int .i64 K, .int .i64 count, .slice none 0 0]) (blk_put (cs := #[.int .i64 bits, .int .i64 K, .int .i64 0, .slice none 0 0]) (blk_put (cs := #[.int .i64 bits, .int .i64 0, .int .i64 0, .slice none 0 0]) (blk_put (cs := #[.int .i64 0, .int .i64 0, .int .i64 0, .slice none 0 0]) HB2.out 0 _ rfl) 1 _ rfl) 2 _ rfl) 3 _ rfl) Try.underlying24 rfl (by kernel_rfl)) rfl ?_
                refine ⟨_, rfl, own_R (ownsRow_setCell_other (ownsRow_setCell_other (ownsRow_setCell_other (ownsRow_setCell_other hown3 hoblk _) hoblk _) hoblk _) hoblk _) HCL.out, ?_⟩
                exact (((hbw.setCell (by simp) _).setCell (by simp) _).setCell (by simp) _).setCell (by simp) _
              · intro x c1 w1 cnt1 hwx hwc hlx hat hrg1 hlt hg1 hs1 hen
                have hrow1 := HST.out.row1 hg1
                have hbw : w.heap.size ≤ w1.heap.size := by have := HST.out.le; omega
                obtain ⟨i0, hi, hz0, hz1, hz2⟩ := info_parts Ord.info63
                have HLX := Lib.hid hlx
                have HAT := Lib.hid hat
                have HRG1 := Lib.hid hrg1
                clear hlx hat hrg1 hrg hs1
                go_wp2_with (at_builtin; refine wpList_append_own _ rfl _ _ 22 rfl w.heap.size 63 i0 _ 2 16 Try.underlying22 hi hz0 hz1 hz2 rfl (by decide) _ _ _ rfl (hrow1.alloc _) ⟨w1.heap.size, 0, none⟩ 1 1 [.int .i64 x, .int .i64 c1] rfl rfl (cell_two_new _ _ _ _) (by simp [Value.oneCell']) (by unfold maxLen; omega) (by omega) (by simp; omega) ?_; intro v' w3 hown' hgrow hnil; clear hen)
                have hst2 := HST.out.step HREL.out HLX.out HAT.out HRG1.out hg1 hown' hgrow hnil
                go_roundg cnt1
                case rel => exact ⟨acc ++ [(x, c1)], _, hst2, by rw [List.length_append]; simp; omega⟩
                case measure => omega
          · rw [if_neg h0] at hl1
            by_cases hok : Small cs1 td1 ∧ Fine cs1 (popV td1)
            case neg => rw [if_neg hok] at hl1; cases hl1
            rw [if_pos hok] at hl1
            obtain ⟨⟨hsm1, hsm2⟩, ⟨hm0, hm1⟩, ⟨hg0, hg1⟩, ⟨ha0, ha1⟩, ⟨hb0, hb1'⟩⟩ := hok
            obtain ⟨n1, hn1⟩ : ∃ n1, td1.length = n1 + 1 := ⟨td1.length - 1, by omega⟩
            have hpop := Pop_calls wr w.heap.size g r1 cap1 n1 td1 hs1.hp hn1 (by omega)
            have hpl := popR_length td1
            rw [hn1] at hcl hpl
            have hpl2 : (popR td1).length ≤ 1073741824 := by omega
            have HL1 := Lib.hid hl1
            have HS1 := Lib.hid hs1
            clear hl1 hs1 hn1 hmL h0 hsm1 hpl
            generalize popV td1 = m at *
            generalize popR td1 = td2 at *
            have hn1p : (0 : Int) < (n1 : Int) + 1 := by omega
            have has := fun W => assert3 m W
            go_wp2_with (go_at_call 33; refine (Len_calls _ _ _ _).mono ?_; rintro e w' ⟨rfl, rfl⟩)
            refine hpop.mono ?_
            rintro e w2 ⟨rfl, hp2, hf2⟩
            have hs2 := HS1.out.heap hp2 hf2 rfl
            have l0 := hs2.mp.look m (wf_of (by omega) (by omega))
            have l1 := hs2.mp.look (2 * m) (wf_of (by omega) (by omega))
            have l2 := hs2.mp.look (2 * m + 1) (wf_of (by omega) (by omega))
            have HS2 := Lib.hid hs2
            clear hpop hp2 hf2 hcl hs2
            have hkd : kids cs1 m = get cs1 (2 * m) + get cs1 (2 * m + 1) := rfl
            have HKD := Lib.hid hkd
            clear hkd
            by_cases hcond : kids cs1 m = 0 ∨ thr < get cs1 m + kids cs1 m
            · have hl2 := HL1.out
              rw [if_pos hcond] at hl2
              have HL2 := Lib.hid hl2
              clear hl2
              rw [HKD.out] at hcond
              generalize get cs1 (2 * m) = va at *
              generalize get cs1 (2 * m + 1) = vb at *
              generalize get cs1 m = vm at *
              by_cases hz : va + vb = 0
              · have hzb : (va + vb == 0) = true := by simpa using hz
                have HZ := Lib.hid hz
                clear hz hcond
                go_wp2_with fail
                go_roundg gk
                case rel => exact ⟨cs1, td2, r1, cap1, HS2.out, HL2.out⟩
                case measure => omega
              · have hzb : (va + vb == 0) = false := by simpa using hz
                have hgt : thr < vm + (va + vb) := by omega
                have hgtb : decide (thr < vm + (va + vb)) = true := decide_eq_true hgt
                have HZ := Lib.hid hz
                clear hz hcond
                go_wp2_with fail
                go_roundg gk
                case rel => exact ⟨cs1, td2, r1, cap1, HS2.out, HL2.out⟩
                case measure => omega
            · have hl2 := HL1.out
              rw [if_neg hcond] at hl2
              rw [HKD.out] at hcond
              have hsum : (L64 (get cs1 m + kids cs1 m)).wf = true := wf_of (by rw [HKD.out]; omega) (by rw [HKD.out]; omega)
              obtain ⟨w3, hu3, hm3, hgr3⟩ := HS2.out.mp.set m (get cs1 m + kids cs1 m) (wf_of (by omega) (by omega)) hsum hsm2
              have hs3 := HS2.out.map hm3 hgr3
              obtain ⟨w4, hu4, hm4, hgr4⟩ := hs3.mp.drop (2 * m) (wf_of (by omega) (by omega)) 0
              have hs4 := hs3.map hm4 hgr4
              obtain ⟨w5, hu5, hm5, hgr5⟩ := hs4.mp.drop (2 * m + 1) (wf_of (by omega) (by omega)) 0
              have hs5 := hs4.map hm5 hgr5
              change CSt w w5 _ mb g r1 cap1 _ _ (merged cs1 m) td2 at hs5
              rw [HKD.out] at hu3
              have z0 := hs5.xcell 0
              simp at z0
              have HS5 := Lib.hid hs5
              have HL2 := Lib.hid hl2
              clear hl2 hm3 hgr3 hs3 hm4 hgr4 hs4 hm5 hgr5 hs5 hsum
              generalize merged cs1 m = cs2 at *
              generalize get cs1 (2 * m) = va at *
              generalize get cs1 (2 * m + 1) = vb at *
              generalize get cs1 m = vm at *
              have hzb : (va + vb == 0) = false := beq_eq_false_iff_ne.2 (by omega)
              have hgtb : decide (thr < vm + (va + vb)) = false := decide_eq_false (by omega)
              have hle : ¬ thr < vm + (va + vb) := by omega
              clear hcond
              have hpw : (2 : Int) ^ bits.toNat ≤ 1099511627776 := by
                have h1 : (2 : Nat) ^ bits.toNat ≤ 2 ^ 40 := Nat.pow_le_pow_right (by decide) (by omega)
                have h2 : ((2 ^ bits.toNat : Nat) : Int) ≤ ((2 ^ 40 : Nat) : Int) := Int.ofNat_le.2 h1
                simpa using h2
              have hpw0 : (0 : Int) < 2 ^ bits.toNat := Int.pow_pos (by decide)
              have hwr : wrap64 ((2 : Int) ^ bits.toNat) = 2 ^ bits.toNat := by
                generalize (2 : Int) ^ bits.toNat = q at hpw hpw0
                unfold wrap64
                omega
              have HWR := Lib.hid hwr
              clear hwr hpw hpw0
              have hq0 : 0 ≤ m / 2 := by omega
              have hpl2' : td2.length ≤ 1073741824 := hpl2
              by_cases hlim : 2 * m < 2 ^ bits.toNat
              · have hld : decide (2 * m < wrap64 (2 ^ bits.toNat)) = true := decide_eq_true (by rw [HWR.out]; exact hlim)
                have hld2 : 2 * m < wrap64 (2 ^ bits.toNat) := by rw [HWR.out]; exact hlim
                by_cases hm1c : 1 < m
                · have htd : todo (2 ^ bits.toNat) m td2 = pushL (pushL (pushL td2 (2 * m)) (2 * m + 1)) (m / 2) := by unfold todo; simp only [if_pos hlim, if_pos hm1c]
                  rw [htd] at HL2
                  clear htd
                  have HLIM := Lib.hid hlim
                  clear hlim
                  have hpu1 := Push_calls w5 w.heap.size g r1 cap1 _ _ (2 * m) HS5.out.hp rfl (by omega)
                  have hpl3 := pushL_length td2 (2 * m)
                  go_wp2_with fail
                  refine hpu1.mono ?_
                  rintro e v1 ⟨rfl, r6, cap6, hp1, hf1, _⟩
                  have hs6 := HS5.out.heap hp1 hf1 rfl
                  have HS6 := Lib.hid hs6
                  clear hpu1 hp1 hf1 hs6
                  have hpu2 := Push_calls v1 w.heap.size g r6 cap6 _ _ (2 * m + 1) HS6.out.hp rfl (by omega)
                  have hpl4 := pushL_length (pushL td2 (2 * m)) (2 * m + 1)
                  go_wp2_with fail
                  refine hpu2.mono ?_
                  rintro e v2 ⟨rfl, r7, cap7, hp2, hf2, _⟩
                  have hs7 := HS6.out.heap hp2 hf2 rfl
                  have HS7 := Lib.hid hs7
                  clear hpu2 hp2 hf2 hs7
                  have hpu3 := Push_calls v2 w.heap.size g r7 cap7 _ _ (m / 2) HS7.out.hp rfl (by omega)
                  have hpl5 := pushL_length (pushL (pushL td2 (2 * m)) (2 * m + 1)) (m / 2)
                  go_wp2_with fail
                  refine hpu3.mono ?_
                  rintro e v3 ⟨rfl, r8, cap8, hp3, hf3, _⟩
                  have hs8 := HS7.out.heap hp3 hf3 rfl
                  have HS8 := Lib.hid hs8
                  clear hpu3 hp3 hf3 hs8
                  go_wp2_with fail
                  go_roundg gk
                  case rel => exact ⟨cs2, _, _, _, HS8.out, HL2.out⟩
                  case measure => omega
                · have htd : todo (2 ^ bits.toNat) m td2 = pushL (pushL td2 (2 * m)) (2 * m + 1) := by unfold todo; simp only [if_pos hlim, if_neg hm1c]
                  rw [htd] at HL2
                  clear htd
                  have HLIM := Lib.hid hlim
                  clear hlim
                  have hpu1 := Push_calls w5 w.heap.size g r1 cap1 _ _ (2 * m) HS5.out.hp rfl (by omega)
                  have hpl3 := pushL_length td2 (2 * m)
                  go_wp2_with fail
                  refine hpu1.mono ?_
                  rintro e v1 ⟨rfl, r6, cap6, hp1, hf1, _⟩
                  have hs6 := HS5.out.heap hp1 hf1 rfl
                  have HS6 := Lib.hid hs6
                  clear hpu1 hp1 hf1 hs6
                  have hpu2 := Push_calls v1 w.heap.size g r6 cap6 _ _ (2 * m + 1) HS6.out.hp rfl (by omega)
                  have hpl4 := pushL_length (pushL td2 (2 * m)) (2 * m + 1)
                  go_wp2_with fail
                  refine hpu2.mono ?_
                  rintro e v2 ⟨rfl, r7, cap7, hp2, hf2, _⟩
                  have hs7 := HS6.out.heap hp2 hf2 rfl
                  have HS7 := Lib.hid hs7
                  clear hpu2 hp2 hf2 hs7
                  go_wp2_with fail
                  go_roundg gk
                  case rel => exact ⟨cs2, _, _, _, HS7.out, HL2.out⟩
                  case measure => omega
              · have hld : decide (2 * m < wrap64 (2 ^ bits.toNat)) = false := decide_eq_false (by rw [HWR.out]; exact hlim)
                have hld2 : ¬ 2 * m < wrap64 (2 ^ bits.toNat) := by rw [HWR.out]; exact hlim
                by_cases hm1c : 1 < m
                · have htd : todo (2 ^ bits.toNat) m td2 = pushL td2 (m / 2) := by unfold todo; simp only [if_neg hlim, if_pos hm1c]
                  rw [htd] at HL2
                  clear htd
                  have HLIM := Lib.hid hlim
                  clear hlim
                  have hpu1 := Push_calls w5 w.heap.size g r1 cap1 _ _ (m / 2) HS5.out.hp rfl (by omega)
                  have hpl3 := pushL_length td2 (m / 2)
                  go_wp2_with fail
                  refine hpu1.mono ?_
                  rintro e v1 ⟨rfl, r6, cap6, hp1, hf1, _⟩
                  have hs6 := HS5.out.heap hp1 hf1 rfl
                  have HS6 := Lib.hid hs6
                  clear hpu1 hp1 hf1 hs6
                  go_wp2_with fail
                  go_roundg gk
                  case rel => exact ⟨cs2, _, _, _, HS6.out, HL2.out⟩
                  case measure => omega
                · have htd : todo (2 ^ bits.toNat) m td2 = td2 := by unfold todo; simp only [if_neg hlim, if_neg hm1c]
                  rw [htd] at HL2
                  clear htd
                  have HLIM := Lib.hid hlim
                  clear hlim
                  go_wp2_with fail
                  go_roundg gk
                  case rel => exact ⟨cs2, _, _, _, HS5.out, HL2.out⟩
                  case measure => omega
end Go.Proofs.Ytcgimjoebkeifaa.QComp

/- qdigest.Add: the rows. -/
namespace Go.Proofs.Ytcgimjoebkeifaa.QAdd
set_option linter.unusedSimpArgs false
set_option linter.unusedVariables false
open Go.RowKit Go.Proofs.YtcgimjoebkeifaaW.PrintWords Go.Proofs.Ytcgimjoebkeifaa.PQ Go.Proofs.Ytcgimjoebkeifaa.QComp Go.Proofs.Ytcgimjoebkeifaa.QHeap Go.Proofs.QComp
set_option maxHeartbeats 1000000
instance : Inhabited S63 := ⟨z63⟩
def enc63 (x : S63) : List Value := [.int .i64 x.f0, .int .i64 x.f1]
theorem flat_pair (xs : List S63) : (xs.map pair).flatMap enc2 = xs.flatMap enc63 := by rw [List.flatMap_map]; rfl
theorem unpair_pair (xs : List S63) : (xs.map pair).map unpair = xs := by
  rw [List.map_map]
  conv => rhs; rw [← List.map_id xs]
  rfl
theorem flat_len (xs : List S63) : (xs.flatMap enc63).length = xs.length * 2 := Ord.flatMap_len enc63 2 (fun _ => rfl) xs
theorem flat_one (xs : List S63) : ∀ v ∈ xs.flatMap enc63, v.oneCell' = true := fun v hv => by
  obtain ⟨x, _, hx⟩ := List.mem_flatMap.1 hv
  simp [enc63] at hx
  rcases hx with rfl | rfl <;> rfl
theorem flat_take : ∀ (xs : List S63) (i : Nat), (xs.flatMap enc63).take (2 * i) = (xs.take i).flatMap enc63
  | [], i => by simp
  | x :: xs, 0 => by simp
  | x :: xs, i + 1 => by
    have := flat_take xs i
    rw [List.take_succ_cons, List.flatMap_cons, List.flatMap_cons, show 2 * (i + 1) = 2 + 2 * i from by omega]
    simp [enc63, ← this, Nat.add_comm 2]
theorem flat_drop : ∀ (xs : List S63) (i : Nat), (xs.flatMap enc63).drop (2 * i) = (xs.drop i).flatMap enc63
  | [], i => by simp
  | x :: xs, 0 => by simp
  | x :: xs, i + 1 => by
    have := flat_drop xs i
    rw [List.drop_succ_cons, List.flatMap_cons, show 2 * (i + 1) = 2 + 2 * i from by omega]
    simp [enc63, ← this, Nat.add_comm 2]
theorem flat_ins (xs : List S63) (i : Nat) (id n : Int) : insRow (xs.flatMap enc63) i (.int .i64 id) (.int .i64 n) = (xs.take i ++ ⟨id, n⟩ :: xs.drop i).flatMap enc63 := by
  unfold insRow
  rw [flat_take, flat_drop, List.flatMap_append, List.flatMap_cons]
  rfl
theorem flat_set : ∀ (xs : List S63) (i : Nat) (y : Int), i < xs.length → (xs.flatMap enc63).set (i * 2 + 1) (.int .i64 y) = (xs.set i ⟨(rd_T63 xs i).f0, y⟩).flatMap enc63
  | [], i, _, h => by simp at h
  | x :: xs, 0, y, _ => by simp [enc63, rd_T63]
  | x :: xs, i + 1, y, h => by
    have := flat_set xs i y (by simpa using h)
    have e1 : rd_T63 (x :: xs) ((i + 1 : Nat) : Int) = rd_T63 xs i := by simp [rd_T63]
    rw [e1, List.set_cons_succ, List.flatMap_cons, List.flatMap_cons, ← this, show (i + 1) * 2 + 1 = (i * 2 + 1) + 2 from by omega]
    simp [enc63]
theorem flat_get : ∀ (xs : List S63) (i : Nat), i < xs.length → (xs.flatMap enc63)[i * 2 + 1]? = some (.int .i64 (rd_T63 xs i).f1)
  | [], i, h => by simp at h
  | x :: xs, 0, _ => by simp [enc63, rd_T63]
  | x :: xs, i + 1, h => by
    have := flat_get xs i (by simpa using h)
    have e1 : rd_T63 (x :: xs) ((i + 1 : Nat) : Int) = rd_T63 xs i := by simp [rd_T63]
    rw [e1, List.flatMap_cons, show (i + 1) * 2 + 1 = (i * 2 + 1) + 2 from by omega, ← this]
    simp [enc63]
theorem own_R63 {w : World} {B : Nat} {v : Value} {xs : List S63} (h : w.ownsRow B 63 2 v xs.length (xs.flatMap enc63)) : Kd.R k63 63 w B (fun _ => True) v xs := by
  have := own_R (cs := xs.map pair) (by rw [flat_pair]; exact h) (by simp)
  rwa [unpair_pair] at this
/-- The cells of a row that is read, as what append takes. -/
theorem src_of {w : World} {A : Option Addr} {xs : List S63} (h : Kd.C k63 w A xs.length xs) (c : Nat) : Src Try.prog 2 22 (.slice A xs.length c) xs.length (xs.flatMap enc63) w := by
  by_cases h0 : xs = []
  · subst h0
    cases A with
    | none => exact Src.ofNil w Try.underlying22 c
    | some a => exact Src.ofSlice w Try.underlying22 a 0 c [] rfl (fun j u hj => by simp at hj) (fun u hu => by simp at hu)
  · have hp : 0 < xs.length := by cases xs with | nil => exact absurd rfl h0 | cons x xs => simp
    obtain ⟨ad, rfl, hc⟩ := h.2.2 hp
    refine Src.ofSlice w Try.underlying22 ad _ c _ (flat_len xs) (fun j u hj => ?_) (flat_one xs)
    have hj2 : j < xs.length * 2 := by rw [← flat_len]; exact (List.getElem?_eq_some_iff.1 hj).1
    have hi : j / 2 < xs.length := by omega
    obtain ⟨cs, _, hk, hcell⟩ := hc (j / 2) _ (List.getElem?_eq_getElem hi)
    obtain rfl := k63_open hk
    have e := hcell (j % 2) u (by
      rw [Ord.flatMap_get enc63 2 (fun _ => rfl) (by decide) xs j hj2] at hj
      rw [← hj]
      have hm : j % 2 < 2 := Nat.mod_lt _ (by decide)
      simp [enc63, hi, hm])
    have e' : w.cell? (ad.add (j / 2 * 2 + j % 2)) = some u := e
    rwa [show j / 2 * 2 + j % 2 = j from by omega] at e'
theorem own_fill {w : World} {B g n cap : Nat} {news : List Value} (hown : w.ownsRow B 63 2 (.slice (some ⟨g, 0, none⟩) 0 cap) 0 []) (hl : news.length = n * 2) (hroom : n ≤ cap) :
    (w.setCells g 0 news).ownsRow B 63 2 (.slice (some ⟨g, 0, none⟩) n cap) n news ∧ w.grownBy (w.setCells g 0 news) (some g) := by
  rcases hown.2 with ⟨h0, _⟩ | ⟨g', cap', cur, hvv, hbg, hg, hnc, hcm, hcs, htake⟩
  · cases h0
  · cases hvv
    have hfit : 0 + news.length ≤ cur.size := by rw [hl, hcs]; omega
    obtain ⟨cur', h3, h4, h5⟩ := setCells_row news 0 w cur hg hfit
    obtain ⟨s1, s2, s3, s4⟩ := setCells_same g news 0 w
    refine ⟨⟨hl, .inr ⟨g, cap, cur', rfl, hbg, h3, hroom, hcm, by rw [h4, hcs], ?_⟩⟩, ⟨s1, s2, s3, by rw [s4]; exact Nat.le_refl _, fun k _ hk => setCells_far news _ k (fun he => hk (by rw [he]))⟩⟩
    rw [h5, ← hl]
    simp
theorem own_cap {w : World} {B g n cap : Nat} {news : List Value} (hown : w.ownsRow B 63 2 (.slice (some ⟨g, 0, none⟩) n cap) n news) : ∀ j, j < cap * 2 → (w.cell? ⟨g, j, none⟩).isSome = true ∧ w.frozen? ⟨g, j, none⟩ = false := fun j hj => by
  rcases hown.2 with ⟨h0, _⟩ | ⟨g', cap', cur, hvv, hbg, hg, hnc, hcm, hcs, htake⟩
  · cases h0
  · cases hvv
    refine ⟨?_, by simp [World.frozen?, hg]⟩
    simp [World.cell?, hg]
    omega
end Go.Proofs.Ytcgimjoebkeifaa.QAdd

/- qdigest.Add: the walk. -/
namespace Go.Proofs.Ytcgimjoebkeifaa.QAdd
set_option linter.unusedSimpArgs false
set_option linter.unusedVariables false
open Go.RowKit Go.Proofs.YtcgimjoebkeifaaW.PrintWords Go.Proofs.Ytcgimjoebkeifaa.PQ Go.Proofs.Ytcgimjoebkeifaa.QComp Go.Proofs.Ytcgimjoebkeifaa.QHeap Go.Proofs.QComp
set_option maxHeartbeats 4000000
set_option maxRecDepth 100000 in
theorem add_yes (k : Nat) (a0 a1 a2 value n : Int) (A : Option Addr) (c : Nat) (xs : List S63) (w : World) (hr : Kd.C k63 w A xs.length xs) (hc : xs.length ≤ c) (h : qdigest_Check.f k a0 a1 a2 xs = some 0)
    (hok : AddOk a0 a2 xs) (hq : ¬ (value < 0 ∨ 2 ^ a0.toNat ≤ value ∨ n < 1)) (hlim : ¬ 1099511627776 - a2 < n) (r1 r2 r3 : Int) (r4 : List S63) (r5 : Int)
    (hres : (if found xs (2 ^ a0.toNat + value) = false ∧ 2000 ≤ xs.length then (0, 0, 0, [], 4) else (a0, a1, a2 + n, addNodes xs (2 ^ a0.toNat + value) n, 0) : Int × Int × Int × List S63 × Int) = (r1, r2, r3, r4, r5)) :
    Calls Try.prog 39 #[.agg #[.int .i64 a0, .int .i64 a1, .int .i64 a2, .slice A xs.length c], .int .i64 value, .int .i64 n] w
      (CPost r1 r2 r3 r4 r5 w) := by
  have hch := qdigest_Check.calls k a0 a1 a2 A c xs 0 (W2 w #[.int .i64 a0, .int .i64 a1, .int .i64 a2, .slice A xs.length c]) (Kd.C_below hr (W2_below _ _)) hc h
  obtain ⟨⟨hb1, hb2⟩, ⟨hc1, hc2⟩, hasc, hbd, hlen⟩ := hok
  have hpw := pow_le_41 a0.toNat (by omega)
  have hpw2 : (2 : Int) ^ a0.toNat ≤ 1073741824 := by
    have e1 : (2 : Nat) ^ a0.toNat ≤ 2 ^ 30 := Nat.pow_le_pow_right (by decide) (by omega)
    have e2 : ((2 ^ a0.toNat : Nat) : Int) ≤ ((2 ^ 30 : Nat) : Int) := Int.ofNat_le.2 e1
    simpa using e2
  have h1 : ¬ value < 0 := fun h => hq (.inl h)
  have h2 : ¬ 2 ^ a0.toNat ≤ value := fun h => hq (.inr (.inl h))
  have h3 : ¬ n < 1 := fun h => hq (.inr (.inr h))
  have hs := fun (W : World) (hW : Kd.C k63 W A xs.length xs) => search_calls W A c xs (2 ^ a0.toNat + value) hW hasc (fun x hx => (hbd x hx).1) hlen (by omega)
  have HR := Lib.hid hr
  have HBD := Lib.hid hbd
  have hpl := pos_le xs (2 ^ a0.toNat + value)
  clear hr hbd hq h
  generalize hid : (2 : Int) ^ a0.toNat + value = id at *
  have HID := Lib.hid hid
  generalize hln : xs.length = len at *
  have HLN := Lib.hid hln
  have HRES := Lib.hid hres
  clear hres
  have hmk := fun W => make22 (len + 1) (by omega) W
  have hidb : 0 ≤ id ∧ id ≤ 2147483648 := by omega
  clear hln
  go_enter Try.func39, Try.ntmps39
  go_wp2_with fail
  refine hch.mono ?_
  rintro e w1 ⟨rfl, hB⟩
  obtain ⟨b0, b1, hbb⟩ := W2_blocks hB
  have x0 := blk_cell b0 0
  have x1 := blk_cell b0 1
  have x2 := blk_cell b0 2
  have x3 := blk_cell b0 3
  simp at x0 x1 x2 x3
  have hz : w.heap.size + 1 < w1.heap.size := (Array.getElem?_eq_some_iff.1 b1).1
  have hs1 := hs w1 (Kd.C_below HR.out hbb)
  have B0 := Lib.hid b0
  have B1 := Lib.hid b1
  have HBB := Lib.hid hbb
  clear b0 b1 hbb hch hs hB
  go_wp2_with fail
  refine hs1.mono ?_
  rintro e w2 ⟨rfl, hB2⟩
  clear hs1
  have hz2 : w.heap.size + 1 < w2.heap.size := by have := hB2.size; omega
  have B0' := Lib.hid ((hB2.block _ (by omega)).trans B0.out)
  have B1' := Lib.hid ((hB2.block _ hz).trans B1.out)
  have HBB2 := Lib.hid (HBB.out.trans (hB2.mono (by omega)))
  have x0 := blk_cell B0'.out 0
  have x1 := blk_cell B0'.out 1
  have x2 := blk_cell B0'.out 2
  have x3 := blk_cell B0'.out 3
  simp at x0 x1 x2 x3
  clear hB2 B0 B1 HBB
  generalize hwa : w2.alloc (.cells (madeCells #[.int .i64 0, .int .i64 0] ((len + 1) * 2)) 63) = wa
  have hrow0 : wa.ownsRow w.heap.size 63 2 (.slice (some ⟨w2.heap.size, 0, none⟩) 0 (len + 1)) 0 [] := by
    rw [← hwa]
    exact World.ownsRow_made w2 (madeCells #[.int .i64 0, .int .i64 0] ((len + 1) * 2)) (len + 1) (by omega) (by unfold maxLen; omega) (by rw [size_madeCells])
  have A0 := Lib.hid (show wa.heap[w.heap.size]? = some (.cells #[.int .i64 a0, .int .i64 a1, .int .i64 a2, .slice A len c] 24 (0, 0)) by rw [← hwa]; exact blk_alloc B0'.out _)
  have A1 := Lib.hid (show wa.heap[w.heap.size + 1]? = some (.cells #[.int .i64 0, .int .i64 0, .int .i64 0, .slice none 0 0] 24 (0, 0)) by rw [← hwa]; exact blk_alloc B1'.out _)
  have ABEL := Lib.hid (show Below w.heap.size w wa by rw [← hwa]; exact HBB2.out.alloc (by omega) _)
  have hsa : wa.heap.size = w2.heap.size + 1 := by rw [← hwa]; simp
  have hmk2 := hmk w2
  rw [hwa] at hmk2
  have hcast : ((len + 1 : Nat) : Int) = (len : Int) + 1 := by omega
  rw [hcast] at hmk2
  have y0 := blk_cell A0.out 0
  have y1 := blk_cell A0.out 1
  have y2 := blk_cell A0.out 2
  have y3 := blk_cell A0.out 3
  simp at y0 y1 y2 y3
  obtain ⟨i0, hi, hz0, hz1, hz3⟩ := info_parts Ord.info63
  have hsrc0 := src_of (c := c) (xs := xs) (w := wa) (A := A) (by rw [HLN.out]; exact Kd.C_below HR.out ABEL.out)
  rw [HLN.out] at hsrc0
  have hfl := flat_len xs
  rw [HLN.out] at hfl
  have hcap := own_cap hrow0
  obtain ⟨w3, hw3⟩ : ∃ w3, w3 = wa.setCells w2.heap.size 0 (xs.flatMap enc63) := ⟨_, rfl⟩
  obtain ⟨hown, hgr⟩ := own_fill (n := len) (news := xs.flatMap enc63) hrow0 hfl (by omega)
  rw [← hw3] at hown hgr
  have hw3e : wa.setCells w2.heap.size (0 + 0 * i0.size) (xs.flatMap enc63) = w3 := by rw [hw3, Nat.zero_mul]
  generalize hg : w2.heap.size = g at *
  have C0 := Lib.hid ((hgr.block w.heap.size (by omega) (fun e => by have := Option.some.inj e; omega)).trans A0.out)
  have C1 := Lib.hid ((hgr.block (w.heap.size + 1) (by omega) (fun e => by have := Option.some.inj e; omega)).trans A1.out)
  have CBEL : Below w.heap.size w w3 := ABEL.out.trans ⟨hgr.os, hgr.tape, hgr.output, hgr.size, fun k hk => hgr.block k (by omega) (fun e => by have := Option.some.inj e; omega)⟩
  have x0 := blk_cell C0.out 0
  have x1 := blk_cell C0.out 1
  have x2 := blk_cell C0.out 2
  simp at x0 x1 x2
  have t0 := blk_cell C1.out 0
  have t1 := blk_cell C1.out 1
  have t2 := blk_cell C1.out 2
  have t3 := blk_cell C1.out 3
  have f0 := blk_frozen C1.out 0
  have f1 := blk_frozen C1.out 1
  have f2 := blk_frozen C1.out 2
  have f3 := blk_frozen C1.out 3
  simp at t0 t1 t2 t3
  have HSRC := Lib.hid hsrc0
  have HFL := Lib.hid hfl
  have HCAP := Lib.hid hcap
  have HZ1 := Lib.hid hz1
  have HGR := Lib.hid hgr
  have hs3 : g < w3.heap.size := by have := hgr.size; omega
  have HW3E := Lib.hid hw3e
  clear hmk hwa hcast hsrc0 hfl hrow0 hcap hz1 hgr hw3 hw3e
  cases hfd : found xs id with
  | true =>
    have hp : pos xs id < len := by
      unfold found at hfd
      have := (Bool.and_eq_true_iff.1 hfd).1
      rw [HLN.out] at this
      exact of_decide_eq_true this
    have hv : 0 ≤ (rd_T63 xs (pos xs id)).f1 ∧ (rd_T63 xs (pos xs id)).f1 ≤ 1099511627776 := by
      refine (HBD.out _ ?_).2
      have : pos xs id < xs.length := by rw [HLN.out]; exact hp
      simp [rd_T63, List.getD_eq_getElem?_getD, this]
    have hcl := hown.cellAt (pos xs id * 2 + 1) (by omega)
    rw [flat_get xs (pos xs id) (by rw [HLN.out]; exact hp)] at hcl
    have hfr := hown.frozenAt (pos xs id * 2 + 1)
    have hst := hown.stored (pos xs id * 2 + 1) (.int .i64 ((rd_T63 xs (pos xs id)).f1 + n))
    rw [flat_set xs (pos xs id) _ (by rw [HLN.out]; exact hp)] at hst
    have HADD : Hid (addNodes xs id n = xs.set (pos xs id) ⟨(rd_T63 xs (pos xs id)).f0, (rd_T63 xs (pos xs id)).f1 + n⟩) := Lib.hid (by unfold addNodes; rw [if_pos hfd])
    have HST := Lib.hid hst
    clear hst hown
    generalize (rd_T63 xs (pos xs id)).f1 = y at *
    generalize (rd_T63 xs (pos xs id)).f0 = y0 at *
    generalize pos xs id = p at *
    go_wp2_with (at_builtin; refine Go.wpList_append_room_src _ rfl _ _ 22 22 rfl 63 i0 Try.underlying22 hi g 0 0 (len + 1) rfl _ rfl len (xs.flatMap enc63) (by rw [HZ1.out]; exact HSRC.out) (by omega) (by rw [HZ1.out]; intro j hj; rw [HFL.out] at hj; have := (HCAP.out j (by omega)).1; simpa using this) (by rw [HZ1.out]; intro j hj; rw [HFL.out] at hj; have := (HCAP.out j (by omega)).2; simpa using this) ?_; rw [HW3E.out])
    · have hb1 : (w3.setCell ⟨g, p * 2 + 1, none⟩ (.int .i64 (y + n))).heap[w.heap.size + 1]? = some (.cells #[.int .i64 0, .int .i64 0, .int .i64 0, .slice none 0 0] 24 (0, 0)) := (heap_setCell_other w3 ⟨g, p * 2 + 1, none⟩ _ _ (by simp; omega)).trans C1.out
      refine bodyPost_ret (results_ct rfl _ _ (w.heap.size + 1) 24 #[.int .i64 a0, .int .i64 a1, .int .i64 (a2 + n), .slice (some ⟨g, 0, none⟩) len (len + 1)] (0, 0) _ rfl (blk_put (cs := #[.int .i64 a0, .int .i64 a1, .int .i64 (a2 + n), .slice none 0 0]) (blk_put (cs := #[.int .i64 a0, .int .i64 a1, .int .i64 0, .slice none 0 0]) (blk_put (cs := #[.int .i64 a0, .int .i64 0, .int .i64 0, .slice none 0 0]) (blk_put (cs := #[.int .i64 0, .int .i64 0, .int .i64 0, .slice none 0 0]) hb1 0 _ rfl) 1 _ rfl) 2 _ rfl) 3 _ rfl) Try.underlying24 rfl (by kernel_rfl)) rfl ?_
      have hne : (Value.slice (some ⟨g, 0, none⟩) len (len + 1)).ownBlock ≠ some (w.heap.size + 1) := by
        simp [Value.ownBlock]; omega
      have hre := HRES.out
      rw [if_neg (by simp [hfd]), HADD.out] at hre
      simp only [Prod.mk.injEq] at hre
      obtain ⟨rfl, rfl, rfl, rfl, rfl⟩ := hre
      refine ⟨_, rfl, own_R63 ?_, ?_⟩
      · rw [List.length_set, HLN.out]
        exact ownsRow_setCell_other (ownsRow_setCell_other (ownsRow_setCell_other (ownsRow_setCell_other HST.out.1 hne _) hne _) hne _) hne _
      · exact ((((CBEL.setCell (by simp; omega) _).setCell (by simp) _).setCell (by simp) _).setCell (by simp) _).setCell (by simp) _
  | false =>
    have HADD : Hid (addNodes xs id n = xs.take (pos xs id) ++ ⟨id, n⟩ :: xs.drop (pos xs id)) := Lib.hid (by unfold addNodes; rw [hfd]; rfl)
    by_cases hfull : 2000 ≤ len
    · have hfi : ((len : Int) ≥ 2000) := by omega
      go_wp2_with (at_builtin; refine Go.wpList_append_room_src _ rfl _ _ 22 22 rfl 63 i0 Try.underlying22 hi g 0 0 (len + 1) rfl _ rfl len (xs.flatMap enc63) (by rw [HZ1.out]; exact HSRC.out) (by omega) (by rw [HZ1.out]; intro j hj; rw [HFL.out] at hj; have := (HCAP.out j (by omega)).1; simpa using this) (by rw [HZ1.out]; intro j hj; rw [HFL.out] at hj; have := (HCAP.out j (by omega)).2; simpa using this) ?_; rw [HW3E.out])
      refine bodyPost_ret (results_ct rfl _ _ (w.heap.size + 1) 24 #[.int .i64 0, .int .i64 0, .int .i64 0, .slice none 0 0] (0, 0) _ rfl (blk_put (cs := #[.int .i64 0, .int .i64 0, .int .i64 0, .slice none 0 0]) (blk_put (cs := #[.int .i64 0, .int .i64 0, .int .i64 0, .slice none 0 0]) (blk_put (cs := #[.int .i64 0, .int .i64 0, .int .i64 0, .slice none 0 0]) (blk_put (cs := #[.int .i64 0, .int .i64 0, .int .i64 0, .slice none 0 0]) C1.out 0 _ rfl) 1 _ rfl) 2 _ rfl) 3 _ rfl) Try.underlying24 rfl (by kernel_rfl)) rfl ?_
      have hre := HRES.out
      rw [if_pos ⟨hfd, hfull⟩] at hre
      simp only [Prod.mk.injEq] at hre
      obtain ⟨rfl, rfl, rfl, rfl, rfl⟩ := hre
      refine ⟨_, rfl, Kd.R_nil _ _ _ _ _, ?_⟩
      exact (((CBEL.setCell (by simp) _).setCell (by simp) _).setCell (by simp) _).setCell (by simp) _
    · have hfi : ¬ ((len : Int) ≥ 2000) := by omega
      have hins := fun (W : World) (vb : Nat) (h1 : W.ownsRow w.heap.size 63 2 (.slice (some ⟨g, 0, none⟩) len (len + 1)) len (xs.flatMap enc63)) (h2 : W.heap[vb]? = some (.cells #[.int .i64 id, .int .i64 n] 63 (0, 0))) (h3 : vb ≠ g) => insert_calls W w.heap.size g len (pos xs id) vb (xs.flatMap enc63) (.int .i64 id) (.int .i64 n) h1 hpl hlen h2 h3 rfl rfl (flat_one xs)
      simp only [flat_ins] at hins
      go_wp2_with (first | (at_builtin; refine Go.wpList_append_room_src _ rfl _ _ 22 22 rfl 63 i0 Try.underlying22 hi g 0 0 (len + 1) rfl _ rfl len (xs.flatMap enc63) (by rw [HZ1.out]; exact HSRC.out) (by omega) (by rw [HZ1.out]; intro j hj; rw [HFL.out] at hj; have := (HCAP.out j (by omega)).1; simpa using this) (by rw [HZ1.out]; intro j hj; rw [HFL.out] at hj; have := (HCAP.out j (by omega)).2; simpa using this) ?_; rw [HW3E.out]))
      refine (hins _ w3.heap.size (hown.alloc _) (blk_new _ _) (by omega)).mono ?_
      rintro e w4 ⟨rfl, hown4, hgr4⟩
      have hgn := hgr4.size
      simp at hgn
      have hkeep : ∀ kk, kk ≤ w.heap.size + 1 → w4.heap[kk]? = w3.heap[kk]? := fun kk hk => (hgr4.block kk (by simp; omega) (fun e => by have := Option.some.inj e; omega)).trans (Below.heap_alloc w3 _ kk (by omega))
      have D0 := Lib.hid ((hkeep w.heap.size (by omega)).trans C0.out)
      have D1 := Lib.hid ((hkeep (w.heap.size + 1) (Nat.le_refl _)).trans C1.out)
      have DBEL : Below w.heap.size w w4 := (CBEL.alloc (by omega) _).trans ⟨hgr4.os, hgr4.tape, hgr4.output, hgr4.size, fun kk hk => hgr4.block kk (by simp; omega) (fun e => by have := Option.some.inj e; omega)⟩
      have x0 := blk_cell D0.out 0
      have x1 := blk_cell D0.out 1
      have x2 := blk_cell D0.out 2
      simp at x0 x1 x2
      have t0 := blk_cell D1.out 0
      have t1 := blk_cell D1.out 1
      have t2 := blk_cell D1.out 2
      have t3 := blk_cell D1.out 3
      have f0 := blk_frozen D1.out 0
      have f1 := blk_frozen D1.out 1
      have f2 := blk_frozen D1.out 2
      have f3 := blk_frozen D1.out 3
      simp at t0 t1 t2 t3
      have HOWN := Lib.hid hown4
      clear hown4 hgr4 hkeep hins hown C0 C1 hgn
      go_wp2_with fail
      have hne : (Value.slice (some ⟨g, 0, none⟩) (len + 1) (len + 1)).ownBlock ≠ some (w.heap.size + 1) := by
        simp [Value.ownBlock]; omega
      refine bodyPost_ret (results_ct rfl _ _ (w.heap.size + 1) 24 #[.int .i64 a0, .int .i64 a1, .int .i64 (a2 + n), .slice (some ⟨g, 0, none⟩) (len + 1) (len + 1)] (0, 0) _ rfl (blk_put (cs := #[.int .i64 a0, .int .i64 a1, .int .i64 (a2 + n), .slice none 0 0]) (blk_put (cs := #[.int .i64 a0, .int .i64 a1, .int .i64 0, .slice none 0 0]) (blk_put (cs := #[.int .i64 a0, .int .i64 0, .int .i64 0, .slice none 0 0]) (blk_put (cs := #[.int .i64 0, .int .i64 0, .int .i64 0, .slice none 0 0]) D1.out 0 _ rfl) 1 _ rfl) 2 _ rfl) 3 _ rfl) Try.underlying24 rfl (by kernel_rfl)) rfl ?_
      have hre := HRES.out
      rw [if_neg (fun h => hfull h.2), HADD.out] at hre
      simp only [Prod.mk.injEq] at hre
      obtain ⟨rfl, rfl, rfl, rfl, rfl⟩ := hre
      refine ⟨_, rfl, own_R63 ?_, ?_⟩
      · rw [show (xs.take (pos xs id) ++ (⟨id, n⟩ : S63) :: xs.drop (pos xs id)).length = len + 1 from by
          have := HLN.out; simp; omega]
        exact ownsRow_setCell_other (ownsRow_setCell_other (ownsRow_setCell_other (ownsRow_setCell_other HOWN.out hne _) hne _) hne _) hne _
      · exact (((DBEL.setCell (by simp) _).setCell (by simp) _).setCell (by simp) _).setCell (by simp) _
end Go.Proofs.Ytcgimjoebkeifaa.QAdd

/- qdigest.Add as a Lean function, with a proof that the call answers so. Conditions: the nodes lie in memory as given. -/
namespace Go.Proofs.Ytcgimjoebkeifaa.PQ
set_option linter.unusedSimpArgs false
set_option linter.unusedVariables false
open Go.RowKit Go.Proofs.YtcgimjoebkeifaaW.PrintWords Go.Proofs.QComp Go.Proofs.Ytcgimjoebkeifaa.QComp Go.Proofs.Ytcgimjoebkeifaa.QAdd Go.Proofs.YtcgimjoebkeifaaW.PrintLast Go.Proofs.YtcgimjoebkeifaaW.PrintMore
def qdigest_Add.f (k : Nat) (a0_0 : Int) (a0_1 : Int) (a0_2 : Int) (l0_3 : List (S63)) (a1 : Int) (a2 : Int) : Option (Int × Int × Int × (List (S63)) × Int) :=
  (qdigest_Check.f k a0_0 a0_1 a0_2 l0_3).bind fun t => if t = 0 then addF a0_0 a0_1 a0_2 l0_3 a1 a2 else some (0, 0, 0, [], 1)
theorem qdigest_Add.mono : ∀ a0 a1 a2 a3 a4 a5 k, LeO (qdigest_Add.f k a0 a1 a2 a3 a4 a5) (qdigest_Add.f (k + 1) a0 a1 a2 a3 a4 a5) := by
  intro a0 a1 a2 a3 a4 a5 k
  unfold qdigest_Add.f
  refine LeO.bind (qdigest_Check.mono _ _ _ _ _) (fun t => ?_)
  exact LeO.refl _
theorem qdigest_Add.calls (k : Nat) (a0_0 : Int) (a0_1 : Int) (a0_2 : Int) (A0_3 : Option Addr) (c0_3 : Nat) (l0_3 : List (S63)) (a1 : Int) (a2 : Int) (r1 : Int) (r2 : Int) (r3 : Int) (r4 : List (S63)) (r5 : Int) (w : World) (hr0_3 : Kd.C k63 w A0_3 l0_3.length l0_3) (hc0_3 : l0_3.length ≤ c0_3) (h : qdigest_Add.f k a0_0 a0_1 a0_2 l0_3 a1 a2 = some (r1, r2, r3, r4, r5)) :
    Calls Try.prog 39 #[.agg #[.int .i64 a0_0, .int .i64 a0_1, .int .i64 a0_2, .slice A0_3 l0_3.length c0_3], .int .i64 a1, .int .i64 a2] w fun e w' => ∃ v3_ : Value, e = .returned (.tuple #[.agg #[.int .i64 r1, .int .i64 r2, .int .i64 r3, v3_], .int .i64 r5]) ∧ Kd.R k63 63 w' w.heap.size (fun _ => True) v3_ r4 ∧ Below w.heap.size w w' := by
  unfold qdigest_Add.f at h
  obtain ⟨t, ht, h⟩ := Option.bind_eq_some_iff.1 h
  by_cases h0 : t = 0
  · rw [if_pos h0] at h
    subst h0
    unfold addF at h
    by_cases hok : AddOk a0_0 a0_2 l0_3
    case neg => rw [if_neg hok] at h; cases h
    rw [if_pos hok] at h
    by_cases hq : a1 < 0 ∨ 2 ^ a0_0.toNat ≤ a1 ∨ a2 < 1
    · rw [if_pos hq] at h
      simp only [Option.some.injEq, Prod.mk.injEq] at h
      obtain ⟨rfl, rfl, rfl, rfl, rfl⟩ := h
      exact add_refused k a0_0 a0_1 a0_2 a1 a2 2 A0_3 c0_3 l0_3 w hr0_3 hc0_3 ht hok.1 hok.2.1 (.inl ⟨hq, rfl⟩)
    · rw [if_neg hq] at h
      by_cases hl : 1099511627776 - a0_2 < a2
      · rw [if_pos hl] at h
        simp only [Option.some.injEq, Prod.mk.injEq] at h
        obtain ⟨rfl, rfl, rfl, rfl, rfl⟩ := h
        exact add_refused k a0_0 a0_1 a0_2 a1 a2 4 A0_3 c0_3 l0_3 w hr0_3 hc0_3 ht hok.1 hok.2.1 (.inr ⟨hq, hl, rfl⟩)
      · rw [if_neg hl] at h
        refine add_yes k a0_0 a0_1 a0_2 a1 a2 A0_3 c0_3 l0_3 w hr0_3 hc0_3 ht hok hq hl r1 r2 r3 r4 r5 ?_
        by_cases hh : found l0_3 (2 ^ a0_0.toNat + a1) = false ∧ 2000 ≤ l0_3.length
        · rw [if_pos hh] at h ⊢
          exact Option.some.inj h
        · rw [if_neg hh] at h ⊢
          exact Option.some.inj h
  · rw [if_neg h0] at h
    simp only [Option.some.injEq, Prod.mk.injEq] at h
    obtain ⟨rfl, rfl, rfl, rfl, rfl⟩ := h
    exact add_no k a0_0 a0_1 a0_2 a1 a2 A0_3 c0_3 l0_3 t w hr0_3 hc0_3 ht h0
end Go.Proofs.Ytcgimjoebkeifaa.PQ
