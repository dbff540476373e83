/- Parts of one proof, one behind the other (put together by wip/merge2.py out of: RdIter, RdRead, Hread, PQxf69, PQxf96, PQxf70, PQxf42). No conditions beyond each theorem's own. -/
import Derived.RangeFuncNested
import Derived.RangeFuncBound
import Derived.RangeFuncCalls
import Derived.RangeFuncLeaves
import Derived.RangeFuncBox
import Derived.Shelf.Abstract
import Derived.Shelf.RegionOpen
import Derived.WalkKit
import Derived.OwnWalkIn
import Derived.TacticsInMore
import Derived.LoopNIn
import Derived.LoopIn
import Derived.Lib.Hide
import Derived.Test.YtcgimjoebkeifaaPQx0
import Derived.Laws.BitsLemmas
import Derived.RegionTactic
import Derived.BigRegion
import Derived.Test.YtcgimjoebkeifaaPQxf67
/- varint.firstBytes: the iterator over the first bytes of a string: its contract. -/
namespace Go.Proofs.Ytcgimjoebkeifaa.Rd
set_option linter.unusedSimpArgs false
set_option linter.unusedVariables false
open Go.RowKit Go.Shelf
attribute [local go_sem] Oper.semAt_some
/-- An index below 9 and a byte. -/
abbrev Ib := { x : Nat × Nat // x.1 < 9 ∧ x.2 < 256 }
def at_ (s : ByteArray) (k : Nat) : Ib := if h : k < s.size ∧ k < 9 then ⟨(k, (s[k]'h.1).toNat), h.2, by have := (s[k]'h.1).toNat_lt; simpa using this⟩ else ⟨(0, 0), by decide⟩
def upto (s : ByteArray) (k : Nat) : List Ib := (List.range k).map (at_ s)
theorem upto_succ (s : ByteArray) (k : Nat) : upto s (k + 1) = upto s k ++ [at_ s k] := by simp [upto, List.range_succ]
theorem upto_length (s : ByteArray) (k : Nat) : (upto s k).length = k := by simp [upto]
theorem at_eq (s : ByteArray) (k : Nat) (h : k < s.size) (h9 : k < 9) : (at_ s k).1 = (k, (s[k]'h).toNat) := by simp [at_, h, h9]
def KeepAt (B : Nat) (W W' : World) : Prop := W'.cell? ⟨B, 0, none⟩ = W.cell? ⟨B, 0, none⟩
theorem KeepAt.t {B : Nat} {X Y Z : World} (h : KeepAt B X Y) (k : KeepAt B Y Z) : KeepAt B X Z := Eq.trans k h
theorem KeepAt.b {B : Nat} {w : World} (hB : B < w.heap.size) (W : World) (l : Nat) (o o' : Obj) (hl : w.heap.size ≤ l) (h : W.heap[l]? = some o) (_ : o.isCells = false) (_ : o.isWalk = false) : KeepAt B W (W.putObj l o') := by
  have := (Below.refl (B + 1) W).grown (grownBy_putObj' W l o') (by have := (Array.getElem?_eq_some_iff.1 h).1; omega) (fun k e => by cases e; omega)
  exact this.cell (p := ⟨B, 0, none⟩) (by simp)
/-- How far the bytes come. -/
def Ends (s : ByteArray) (ys : List Ib) : Prop := ∃ k, ys = upto s k ∧ k ≤ 9 ∧ k ≤ s.size ∧ ((k = s.size ∨ k = 9) ∨ (0 < k ∧ (at_ s (k - 1)).1.2 < 128))
def Part (s : ByteArray) (ys : List Ib) : Prop := ∃ k, ys = upto s k ∧ k ≤ 9 ∧ k ≤ s.size
abbrev encI (x : Ib) : Array Value := #[.int .i64 (x.1.1 : Int), .int .u8 (x.1.2 : Int)]
set_option maxRecDepth 100000 in
set_option maxHeartbeats 4000000 in
theorem bytes1_in (F : Fence) (n : Nat) (h7 : F.fn 120) (hro : F.round = none) (hn : 1 ≤ n) (l Bs : Nat) (s : ByteArray) (hs : s.size ≤ maxLen) (J Jx : List Ib → World → Prop)
    (hY : ∀ pre x W, J pre W → pre.length < 9 → YieldAt F (n - 1) Try.prog l (encI x) W fun e W' =>
      (e = .returned (.bool true) ∧ J (pre ++ [x]) W' ∧ KeepAt Bs W W') ∨ (e = .returned (.bool false) ∧ Jx (pre ++ [x]) W'))
    (W : World) (hBs : W.cell? ⟨Bs, 0, none⟩ = some (.string s)) (h0 : J [] W) :
    CallsIn F n Try.prog 120 #[.func (.yield l) #[] #[], .pointer (some ⟨Bs, 0, none⟩)] W fun e W' => (∃ v, e = .returned v) ∧
      ((∃ ys, Ends s ys ∧ J ys W') ∨ (∃ pre, Part s pre ∧ Jx pre W')) := by
  unfold maxLen at hs
  refine callsIn_of_wp Try.func120 rfl h7 ?_ hro
  simp only [Try.ntmps120, List.size_toArray, List.length_cons, List.length_nil, Nat.reduceAdd, Nat.reduceSub, Array.replicate_succ, Array.replicate_zero, List.push_toArray, List.append_toArray, List.nil_append, List.cons_append]
  gi_wp2
  gi_loopw [3] (fun i wr => ∃ k : Nat, k ≤ 9 ∧ k ≤ s.size ∧ i = .int .i64 k ∧ J (upto s k) wr ∧ wr.cell? ⟨Bs, 0, none⟩ = some (.string s))
    (fun i _ => 9 - (intOf i).toNat)
  case atStart => exact ⟨0, by omega, by omega, rfl, h0, hBs⟩
  case round =>
    obtain ⟨k, hk9, hks, rfl, hJs, hc⟩ := hrel
    by_cases hlt : k < s.size
    · by_cases hl9 : k < 9
      · obtain ⟨fn, tmps, assign, body, hy, hR⟩ := hY _ (at_ s k) wr hJs (by rw [upto_length]; exact hl9)
        have he := at_eq s k hlt hl9
        have HJ : ∀ W3, J (upto s k ++ [at_ s k]) W3 → J (upto s (k + 1)) W3 := fun W3 h => by rw [upto_succ]; exact h
        have HJx : ∀ W3, Jx (upto s k ++ [at_ s k]) W3 → Jx (upto s (k + 1)) W3 := fun W3 h => by rw [upto_succ]; exact h
        unfold encI at hy
        rw [he] at hy
        have HE := Lib.hid he
        clear he
        dsimp only at hy
        have hli : (k : Int) < 9 := by omega
        gi_wp2
        refine hR.mono ?_
        rintro e W3 (⟨rfl, hJ3, hk3⟩ | ⟨rfl, hJx3⟩)
        · have hc3 : W3.cell? ⟨Bs, 0, none⟩ = some (.string s) := hk3.trans hc
          have hJ4 := HJ _ hJ3
          by_cases hb : (s[k].toNat : Int) < 128
          · gi_wp2
            refine bodyPost_ret (results_none rfl _ _ _) rfl ?_
            exact ⟨⟨_, rfl⟩, .inl ⟨_, ⟨k + 1, rfl, by omega, by omega, .inr ⟨by omega, by rw [Nat.add_sub_cancel, HE.out]; dsimp only; omega⟩⟩, hJ4⟩⟩
          · gi_wp2
            go_roundw
            case rel => exact ⟨k + 1, by omega, by omega, by go_num, hJ4, hc3⟩
            case measure => simp [intOf]; omega
        · have hJx4 := HJx _ hJx3
          gi_wp2
          refine bodyPost_ret (results_none rfl _ _ _) rfl ?_
          exact ⟨⟨_, rfl⟩, .inr ⟨_, ⟨k + 1, rfl, by omega, by omega⟩, hJx4⟩⟩
      · have hli : ¬ ((k : Int) < 9) := by omega
        gi_wp2
        go_end0
        exact ⟨⟨_, rfl⟩, .inl ⟨_, ⟨k, rfl, by omega, by omega, .inl (.inr (by omega))⟩, hJs⟩⟩
    · obtain rfl : k = s.size := by omega
      gi_wp2
      go_end0
      exact ⟨⟨_, rfl⟩, .inl ⟨_, ⟨s.size, rfl, by omega, by omega, .inl (.inl rfl)⟩, hJs⟩⟩
/-- firstBytes: the string is boxed; the function value captures the box. -/
theorem bytes_in (F : Fence) (n : Nat) (h5 : F.fn 114) (hro : F.round = none) (s : ByteArray) (w : World) :
    CallsIn F n Try.prog 114 #[.string s] w fun e w' => e = .returned (.func (.func 120) #[] #[.pointer (some ⟨w.heap.size, 0, none⟩)]) ∧ w' = w.alloc (.cells #[.string s] 9) := by
  refine callsIn_of_wp Try.func114 rfl h5 ?_ hro
  simp only [Try.ntmps114, List.size_toArray, List.length_cons, List.length_nil, Nat.reduceAdd, Nat.reduceSub, Array.replicate_succ, Array.replicate_zero, List.push_toArray, List.append_toArray, List.nil_append, List.cons_append]
  gi_wp2
  go_ret
  exact ⟨rfl, rfl⟩
theorem bytes_stops (F : Fence) (n : Nat) (h7 : F.fn 120) (hro : F.round = none) (hn : 1 ≤ n) (Bs : Nat) (s : ByteArray) (hs : s.size ≤ maxLen) (w : World) (hBs : Bs < w.heap.size) (hc : w.cell? ⟨Bs, 0, none⟩ = some (.string s)) :
    SeqStopsK F n Try.prog 120 #[.pointer (some ⟨Bs, 0, none⟩)] encI (KeepAt Bs) (Ends s) (Part s) 9 w := fun l J Jx W hW _ _ hY h0 =>
  bytes1_in F n h7 hro hn l Bs s hs J Jx hY W ((hW.cell (p := ⟨Bs, 0, none⟩) hBs).trans hc) h0
end Go.Proofs.Ytcgimjoebkeifaa.Rd

/- varint.read: the walk over the iterator. -/
namespace Go.Proofs.Ytcgimjoebkeifaa.Rd
set_option linter.unusedSimpArgs false
set_option linter.unusedVariables false
open Go.RowKit Go.Shelf
attribute [local go_sem] Oper.semAt_some
theorem cell_new_l (W : World) (v : Value) (t : TypeId) : (W.alloc (.cells #[v] t)).cell? ⟨W.heap.size, 0, none⟩ = some v ∧ (W.alloc (.cells #[v] t)).frozen? ⟨W.heap.size, 0, none⟩ = false := by
  have h : (W.alloc (.cells #[v] t)).heap[W.heap.size]? = some (.cells #[v] t (0, 0)) := World.alloc_heap_new W _
  exact ⟨by rw [cell_of_row _ _ 0 _ _ _ h]; rfl, by unfold World.frozen?; rw [h]; rfl⟩
theorem cell_alloc_l {W : World} {a : Addr} {v : Value} (o : Obj) (h : W.cell? a = some v) : (W.alloc o).cell? a = some v := cell_kept h (World.grownBy_alloc W o none) (fun r e => by cases e)
theorem frozen_alloc_l {W : World} {a : Addr} {v : Value} (o : Obj) (h : W.cell? a = some v) (hf : W.frozen? a = false) : (W.alloc o).frozen? a = false := (frozen_kept h (World.grownBy_alloc W o none) (fun r e => by cases e)).trans hf
def orv (n : Nat) (x : Ib) : Nat := n ||| (x.1.2 &&& 127) <<< (7 * x.1.1)
def acc (pre : List Ib) : Nat := pre.foldl orv 0
theorem acc_snoc (pre : List Ib) (x : Ib) : acc (pre ++ [x]) = orv (acc pre) x := by simp [acc]
def bad (x : Ib) : Prop := (128 ≤ x.1.2 ∧ x.1.1 = 8) ∨ (x.1.2 = 0 ∧ 0 < x.1.1)
def Going (pre : List Ib) : Prop := ∀ y ∈ pre, 128 ≤ y.1.2 ∧ ¬ y.1.1 = 8
structure Boxes (w W : World) (n : Nat) (r0 r1 r2 : Int) : Prop where
  n0 : W.cell? ⟨w.heap.size + 3, 0, none⟩ = some (.int .u64 n)
  n1 : W.frozen? ⟨w.heap.size + 3, 0, none⟩ = false
  a0 : W.cell? ⟨w.heap.size, 0, none⟩ = some (.int .u64 r0)
  a1 : W.frozen? ⟨w.heap.size, 0, none⟩ = false
  b0 : W.cell? ⟨w.heap.size + 1, 0, none⟩ = some (.int .i64 r1)
  b1 : W.frozen? ⟨w.heap.size + 1, 0, none⟩ = false
  c0 : W.cell? ⟨w.heap.size + 2, 0, none⟩ = some (.int .i64 r2)
  c1 : W.frozen? ⟨w.heap.size + 2, 0, none⟩ = false
theorem Boxes.own (w : World) {N : Nat} (n : List Ib → Nat) (r0 r1 r2 : List Ib → Int) : OwnFrom N (fun pre W => Boxes w W (n pre) (r0 pre) (r1 pre) (r2 pre)) :=
  Own.from (fun s A B row hs hg hr => ⟨cell_kept hs.n0 hg hr, (frozen_kept hs.n0 hg hr).trans hs.n1, cell_kept hs.a0 hg hr, (frozen_kept hs.a0 hg hr).trans hs.a1, cell_kept hs.b0 hg hr, (frozen_kept hs.b0 hg hr).trans hs.b1, cell_kept hs.c0 hg hr, (frozen_kept hs.c0 hg hr).trans hs.c1⟩) _
def Res (pre : List Ib) (r : Int × Int × Int) : Prop := ∃ p x, pre = p ++ [x] ∧ Going p ∧ ((bad x ∧ r = (0, 0, 12)) ∨ (¬ bad x ∧ x.1.2 < 128 ∧ r = ((acc pre : Int), (x.1.1 : Int) + 1, 0)))
def ReadRes (s : ByteArray) (r : Int × Int × Int) : Prop := (∃ ys, Ends s ys ∧ Going ys ∧ r = (0, 0, 11)) ∨ (∃ ys, Part s ys ∧ Res ys r)
def IxD (w : World) (c : Code) (pre : List Ib) (W : World) : Prop := ∃ (k0 : Nat) (r : Int × Int × Int), Boxes w W k0 r.1 r.2.1 r.2.2 ∧ ((c = .ret ∧ Res pre r) ∧ Below w.heap.size w W)
def Post (w : World) (s : ByteArray) (e : Ending) (W' : World) : Prop := ∃ r : Int × Int × Int, e = .returned (.tuple #[.int .u64 r.1, .int .i64 r.2.1, .int .i64 r.2.2]) ∧ ReadRes s r ∧ Below w.heap.size w W'
def RegQ (s : ByteArray) (w W : World) (i b p : Nat) (e : Exit) (a' : Act) (W' : World) : Prop := ∃ v12 v13 v14 v15 v16 v17 v18 v19 v20 v21 v22 v23 v24 v25 v26 v27 v28 v29 v30 v31 v32 v33 : Value, e = .normal ∧ a' = { tmps := #[.string s, undef, .pointer (some ⟨w.heap.size, 0, none⟩), .pointer (some ⟨w.heap.size + 1, 0, none⟩), .pointer (some ⟨w.heap.size + 1 + 1, 0, none⟩), .pointer (some ⟨w.heap.size + 1 + 1 + 1, 0, none⟩), .int .i64 (i : Int), .int .u8 (b : Int), .string s, .func (.func 120) #[] #[.pointer (some ⟨w.heap.size + 1 + 1 + 1 + 1, 0, none⟩)], .int .i64 (i : Int), .int .u8 (b : Int), v12, v13, v14, v15, v16, v17, v18, v19, v20, v21, v22, v23, v24, v25, v26, v27, v28, v29, v30, v31, v32, v33, undef, undef, undef, undef, undef], defers := [] } ∧ W' = (W.setCell ⟨w.heap.size + 1 + 1 + 1, 0, none⟩ (.int .u64 (p : Int))).drew
abbrev WB (w : World) (s : ByteArray) : World := (((((w.alloc (Obj.cells #[Value.int IntKind.u64 0] 94)).alloc (Obj.cells #[Value.int IntKind.i64 0] 3)).alloc (Obj.cells #[Value.int IntKind.i64 0] 26)).alloc (Obj.cells #[Value.int IntKind.u64 0] 94)).alloc (Obj.cells #[Value.string s] 9))
theorem WB_below (w : World) (s : ByteArray) : Below w.heap.size w (WB w s) := (((((Below.refl _ w).alloc (Nat.le_refl _) _).alloc (by simp) _).alloc (by simp; omega) _).alloc (by simp; omega) _).alloc (by simp; omega) _
theorem WB_boxes (w : World) (s : ByteArray) : Boxes w (WB w s) 0 0 0 0 ∧ (WB w s).cell? ⟨w.heap.size + 4, 0, none⟩ = some (.string s) := by
  have c0 := cell_new_l w (.int .u64 0) 94
  have c1 := cell_new_l (w.alloc (Obj.cells #[Value.int IntKind.u64 0] 94)) (.int .i64 0) 3
  have c2 := cell_new_l ((w.alloc (Obj.cells #[Value.int IntKind.u64 0] 94)).alloc (Obj.cells #[Value.int IntKind.i64 0] 3)) (.int .i64 0) 26
  have c3 := cell_new_l (((w.alloc (Obj.cells #[Value.int IntKind.u64 0] 94)).alloc (Obj.cells #[Value.int IntKind.i64 0] 3)).alloc (Obj.cells #[Value.int IntKind.i64 0] 26)) (.int .u64 0) 94
  have c4 := cell_new_l ((((w.alloc (Obj.cells #[Value.int IntKind.u64 0] 94)).alloc (Obj.cells #[Value.int IntKind.i64 0] 3)).alloc (Obj.cells #[Value.int IntKind.i64 0] 26)).alloc (Obj.cells #[Value.int IntKind.u64 0] 94)) (.string s) 9
  simp only [World.size_alloc] at c1 c2 c3 c4
  exact ⟨⟨cell_alloc_l _ c3.1, frozen_alloc_l _ c3.1 c3.2, cell_alloc_l _ (cell_alloc_l _ (cell_alloc_l _ (cell_alloc_l _ c0.1))), frozen_alloc_l _ (cell_alloc_l _ (cell_alloc_l _ (cell_alloc_l _ c0.1))) (frozen_alloc_l _ (cell_alloc_l _ (cell_alloc_l _ c0.1)) (frozen_alloc_l _ (cell_alloc_l _ c0.1) (frozen_alloc_l _ c0.1 c0.2))),
    cell_alloc_l _ (cell_alloc_l _ (cell_alloc_l _ c1.1)), frozen_alloc_l _ (cell_alloc_l _ (cell_alloc_l _ c1.1)) (frozen_alloc_l _ (cell_alloc_l _ c1.1) (frozen_alloc_l _ c1.1 c1.2)), cell_alloc_l _ (cell_alloc_l _ c2.1), frozen_alloc_l _ (cell_alloc_l _ c2.1) (frozen_alloc_l _ c2.1 c2.2)⟩, c4.1⟩
theorem orv_lt (n : Nat) (x : Ib) (h : n < 2 ^ 63) : orv n x < 2 ^ 63 := by
  unfold orv
  refine Nat.or_lt_two_pow h ?_
  have h1 : x.1.2 &&& 127 < 2 ^ 7 := Nat.and_lt_two_pow _ (by decide)
  rw [Nat.shiftLeft_eq]
  have h2 : 2 ^ (7 * x.1.1) ≤ 2 ^ 56 := Nat.pow_le_pow_right (by decide) (by have := x.2.1; omega)
  calc (x.1.2 &&& 127) * 2 ^ (7 * x.1.1) < 2 ^ 7 * 2 ^ (7 * x.1.1) := Nat.mul_lt_mul_of_pos_right h1 (Nat.two_pow_pos _)
    _ ≤ 2 ^ 7 * 2 ^ 56 := Nat.mul_le_mul_left _ h2
    _ = 2 ^ 63 := by decide
theorem acc_lt (pre : List Ib) : acc pre < 2 ^ 63 := by
  have : ∀ (l : List Ib) (n : Nat), n < 2 ^ 63 → l.foldl orv n < 2 ^ 63 := by
    intro l
    induction l with
    | nil => intro n h; exact h
    | cons x l ih => intro n h; exact ih _ (orv_lt n x h)
  exact this pre 0 (by decide)
theorem wrap_u64 (n : Nat) (h : n < 2 ^ 63) : IntKind.u64.wrap (n : Int) = n := by
  simp [IntKind.wrap, IntKind.bits, IntKind.signed]
  omega
theorem and_u8 (b : Nat) (h : b < 256) : bits BinOp.and IntKind.u8 (b : Int) 127 = ((b &&& 127 : Nat) : Int) :=
  (bits_nat .u8 8 (by decide) (fun n h0 h1 => wraps_u8 n h0 h1) b 127 h (by decide)).1
theorem or_u64 (n m : Nat) (h : n < 2 ^ 63) (h' : m < 2 ^ 63) : bits BinOp.or IntKind.u64 (n : Int) (m : Int) = ((n ||| m : Nat) : Int) :=
  (bits_nat .u64 63 (by decide) (fun n h0 h1 => by obtain ⟨k, rfl⟩ := Int.eq_ofNat_of_zero_le h0; exact wrap_u64 k (by exact_mod_cast h1)) n m h h').2
theorem term_lt (b i : Nat) (hi : i < 9) : (b &&& 127) <<< (7 * i) < 2 ^ 63 := by
  have h1 : b &&& 127 < 2 ^ 7 := Nat.and_lt_two_pow _ (by decide)
  rw [Nat.shiftLeft_eq]
  have h2 : 2 ^ (7 * i) ≤ 2 ^ 56 := Nat.pow_le_pow_right (by decide) (by omega)
  calc (b &&& 127) * 2 ^ (7 * i) < 2 ^ 7 * 2 ^ (7 * i) := Nat.mul_lt_mul_of_pos_right h1 (Nat.two_pow_pos _)
    _ ≤ 2 ^ 7 * 2 ^ 56 := Nat.mul_le_mul_left _ h2
    _ = 2 ^ 63 := by decide
theorem shift_term (b i : Nat) (hb : b < 256) (hi : i < 9) : Op.shift BinOp.shl IntKind.u64 (IntKind.u64.wrap (bits BinOp.and IntKind.u8 (b : Int) 127)) IntKind.i64 (IntKind.i64.wrap (7 * (i : Int))) = pure (.int .u64 (((b &&& 127) <<< (7 * i) : Nat) : Int)) := by
  have h1 : b &&& 127 < 2 ^ 63 := Nat.lt_of_lt_of_le (Nat.and_lt_two_pow (n := 7) _ (by decide)) (by decide)
  rw [and_u8 b hb, wrap_u64 _ h1, show IntKind.i64.wrap (7 * (i : Int)) = ((7 * i : Nat) : Int) from by rw [show (7 * (i : Int)) = ((7 * i : Nat) : Int) from by simp]; exact IntWalk.i64_in _ (by omega)]
  unfold Op.shift
  rw [if_neg (by omega)]
  have hm : min (((7 * i : Nat) : Int)).toNat IntKind.u64.bits = 7 * i := by
    have : IntKind.u64.bits = 64 := rfl
    rw [this, Int.toNat_natCast]
    omega
  simp only [hm]
  have ht := term_lt b i hi
  rw [Nat.shiftLeft_eq] at ht ⊢
  rw [← wrap_u64 _ ht]
  congr 2
def findRegion (k : Nat) : Code → Option Code
  | .region id ops d => if id = k then some (.region id ops d) else none
  | .seq a b => match findRegion k a with
    | some c => some c
    | none => findRegion k b
  | .cond _ a b => match findRegion k a with
    | some c => some c
    | none => findRegion k b
  | .block _ c => findRegion k c
  | .loop c => findRegion k c
  | .scope c => findRegion k c
  | .rangeFunc _ _ a b => match findRegion k a with
    | some c => some c
    | none => findRegion k b
  | _ => none
noncomputable def reg7 : Code := (Try.f95.body.bind (findRegion 7)).getD .skip
set_option maxRecDepth 100000 in
set_option maxHeartbeats 4000000 in
theorem reg7_runs (F : Fence) (n l : Nat) (s : ByteArray) (w W : World) (i b m p q : Nat) (hi : i < 9) (v12 v13 v14 v15 v16 v17 v18 v19 v20 v21 v22 v23 v24 v25 : Value)
    (n0 : W.cell? ⟨w.heap.size + 3, 0, none⟩ = some (.int .u64 (q : Int))) (n1 : W.frozen? ⟨w.heap.size + 3, 0, none⟩ = false)
    (hsh : Op.shift BinOp.shl IntKind.u64 (IntKind.u64.wrap (bits BinOp.and IntKind.u8 (b : Int) 127)) IntKind.i64 (IntKind.i64.wrap (7 * (i : Int))) = pure (.int .u64 (m : Int)))
    (hor : bits BinOp.or IntKind.u64 (q : Int) (m : Int) = (p : Int)) :
    Code.wpIn (F.inRound l) n Try.prog reg7 (RegQ s w W i b p) { tmps := #[.string s, undef, .pointer (some ⟨w.heap.size, 0, none⟩), .pointer (some ⟨w.heap.size + 1, 0, none⟩), .pointer (some ⟨w.heap.size + 1 + 1, 0, none⟩), .pointer (some ⟨w.heap.size + 1 + 1 + 1, 0, none⟩), .int .i64 (i : Int), .int .u8 (b : Int), .string s, .func (.func 120) #[] #[.pointer (some ⟨w.heap.size + 1 + 1 + 1 + 1, 0, none⟩)], .int .i64 (i : Int), .int .u8 (b : Int), v12, v13, v14, v15, v16, v17, v18, v19, v20, v21, v22, v23, v24, v25, undef, undef, undef, undef, undef, undef, undef, undef, undef, undef, undef, undef, undef], defers := [] } W := by
  have hmix : Try.prog.follows .mixedOrders = true := by kernel_rfl
  conv => arg 4; whnf
  gi_wp2
  gi_region_o
  all_goals exact ⟨_, _, _, _, _, _, _, _, _, _, _, _, _, _, _, _, _, _, _, _, _, _, rfl, rfl, rfl⟩
set_option maxRecDepth 100000 in
set_option maxHeartbeats 4000000 in
theorem read_in (F : Fence) (n : Nat) (h4 : F.fn 95) (h5 : F.fn 114) (h6 : F.fn 120) (hro : F.round = none) (hn : 3 ≤ n) (s : ByteArray) (hs : s.size ≤ maxLen) (w : World) :
    CallsIn F n Try.prog 95 #[.string s] w (Post w s) := by
  have h1 : 1 ≤ n := by omega
  refine callsIn_of_wp_marks Try.func95 rfl h4 ?_ hro
  simp only [Try.ntmps95, List.size_toArray, List.length_cons, List.length_nil, Nat.reduceAdd, Nat.reduceSub, Array.replicate_succ, Array.replicate_zero, List.push_toArray, List.append_toArray, List.nil_append, List.cons_append]
  gi_wp2_with (gi_at_call 114; refine (bytes_in F (n - 1) h5 hro _ _).mono ?_; rintro e w' ⟨rfl, rfl⟩)
  have hB0 := WB_below w s
  obtain ⟨hx, hsc⟩ := WB_boxes w s
  refine wpIn_rangeFunc_ownF (w0 := WB w s) hro h1 (gf := 120) (lb := #[.pointer (some ⟨w.heap.size + 4, 0, none⟩)]) rfl h6 (enters_of Try.func120 (by kernel_rfl) rfl)
    (bytes_stops F (n - 1) h6 hro (by omega) (w.heap.size + 4) s hs _ (by simp) hsc) KeepAt.t (KeepAt.b (by simp)) (Below.refl _ _) (fun _ => rfl)
    (fun pre W => Boxes w W (acc pre) 0 0 0 ∧ (Going pre ∧ Below w.heap.size w W))
    (IxD w)
    (OwnFrom.and (Boxes.own w _ (fun _ => 0) (fun _ => 0) (fun _ => 0)) (OwnFrom.and (ownFrom_pure _ _) (ownFrom_below (Nat.le_refl _) (by simp; omega))))
    (fun c => by
      intro ss A B row hs hg hr
      obtain ⟨k0, r, hb, hp, hw⟩ := hs
      exact ⟨k0, r, Boxes.own w (fun _ => k0) (fun _ => r.1) (fun _ => r.2.1) (fun _ => r.2.2) ss A B row hb hg hr, hp, ownFrom_below (Nat.le_refl _) (by simp; omega) ss A B row hw hg hr⟩)
    ⟨hx, (fun y hy => by simp at hy), hB0⟩
    (fun x => { tmps := #[.string s, undef, .pointer (some ⟨w.heap.size, 0, none⟩), .pointer (some ⟨w.heap.size + 1, 0, none⟩), .pointer (some ⟨w.heap.size + 1 + 1, 0, none⟩), .pointer (some ⟨w.heap.size + 1 + 1 + 1, 0, none⟩), .int .i64 (x.1.1 : Int), .int .u8 (x.1.2 : Int), .string s, .func (.func 120) #[] #[.pointer (some ⟨w.heap.size + 1 + 1 + 1 + 1, 0, none⟩)], .int .i64 (x.1.1 : Int), .int .u8 (x.1.2 : Int), undef, undef, undef, undef, undef, undef, undef, undef, undef, undef, undef, undef, undef, undef, undef, undef, undef, undef, undef, undef, undef, undef, undef, undef, undef, undef, undef], defers := [] }) ?assign ?body ?done ?stop
  case assign =>
    intro l x W K hK
    gi_wp2
    exact hK
  case body =>
    rintro l pre ⟨⟨i, b⟩, hi, hb⟩ W ⟨hx, hg, hB⟩ _
    dsimp only at hi hb
    obtain ⟨n0, n1, a0, a1, b0, b1, c0, c1⟩ := hx
    have hacc := acc_lt pre
    have hmix : Try.prog.follows .mixedOrders = true := by kernel_rfl
    have HG := Lib.hid hg
    clear hg
    by_cases h128 : 128 ≤ b
    · have e1 : (128 : Int) ≤ (b : Int) := by omega
      by_cases h8 : i = 8
      · have HBAD : Hid (Res (pre ++ [⟨(i, b), ⟨hi, hb⟩⟩]) (0, 0, 12)) := Lib.hid ⟨pre, _, rfl, HG.out, .inl ⟨.inl ⟨h128, h8⟩, rfl⟩⟩
        have e2 : ((i : Int) == 8) = true := by rw [beq_iff_eq]; omega
        clear h8
        gi_wp2
        exact ⟨((KeepsOthers.setCell _ _ _).trans (KeepsOthers.setCell _ _ _)).trans (KeepsOthers.setCell _ _ _), acc pre, (0, 0, 12), ⟨by go_simp, by go_simp, by go_simp, by go_simp, by go_simp, by go_simp, by go_simp, by go_simp⟩, ⟨rfl, HBAD.out⟩, ((hB.setCell (by simp) _).setCell (by simp) _).setCell (by simp; omega) _⟩
      · have e2 : ((i : Int) == 8) = false := by rw [beq_eq_false_iff_ne]; omega
        have e3 : ((b : Int) == 0) = false := by rw [beq_eq_false_iff_ne]; omega
        have hsh := shift_term b i hb hi
        have hor := or_u64 (acc pre) ((b &&& 127) <<< (7 * i)) hacc (term_lt b i hi)
        have hres : acc (pre ++ [⟨(i, b), ⟨hi, hb⟩⟩]) = acc pre ||| (b &&& 127) <<< (7 * i) := acc_snoc _ _
        generalize acc pre ||| (b &&& 127) <<< (7 * i) = p at hor hres
        generalize (b &&& 127) <<< (7 * i) = m at hsh hor
        generalize acc pre = q at *
        have HP := Lib.hid hres
        have HGO : Hid (Going (pre ++ [⟨(i, b), ⟨hi, hb⟩⟩])) := Lib.hid (fun y hy => by
          rcases List.mem_append.1 hy with h | h
          · exact HG.out y h
          · rw [List.mem_singleton.1 h]; exact ⟨h128, h8⟩)
        clear hres h8
        gi_wp2
        refine wpIn_mono (reg7_runs F (n - 1 - 1) l s w W i b m p q hi _ _ _ _ _ _ _ _ _ _ _ _ _ _ n0 n1 hsh hor) ?_
        rintro e a' W' ⟨v12, v13, v14, v15, v16, v17, v18, v19, v20, v21, v22, v23, v24, v25, v26, v27, v28, v29, v30, v31, v32, v33, rfl, rfl, rfl⟩
        gi_wp2
        exact ⟨(KeepsOthers.setCell _ _ _).trans (KeepsOthers.drew _), by unfold KeepAt; go_simp, ⟨by rw [HP.out]; go_simp, by go_simp, by go_simp, by go_simp, by go_simp, by go_simp, by go_simp, by go_simp⟩, HGO.out, (hB.setCell (by simp; omega) _).drew⟩
    · have e1 : ((b : Int) < 128) := by omega
      by_cases h0 : b = 0 ∧ 0 < i
      · have HBAD : Hid (Res (pre ++ [⟨(i, b), ⟨hi, hb⟩⟩]) (0, 0, 12)) := Lib.hid ⟨pre, _, rfl, HG.out, .inl ⟨.inr h0, rfl⟩⟩
        have e2 : ((b : Int) == 0) = true := by rw [beq_iff_eq]; omega
        have e3 : (0 : Int) < (i : Int) := by omega
        clear h0
        gi_wp2
        exact ⟨((KeepsOthers.setCell _ _ _).trans (KeepsOthers.setCell _ _ _)).trans (KeepsOthers.setCell _ _ _), acc pre, (0, 0, 12), ⟨by go_simp, by go_simp, by go_simp, by go_simp, by go_simp, by go_simp, by go_simp, by go_simp⟩, ⟨rfl, HBAD.out⟩, ((hB.setCell (by simp) _).setCell (by simp) _).setCell (by simp; omega) _⟩
      · have HNB : Hid (¬ bad ⟨(i, b), ⟨hi, hb⟩⟩) := Lib.hid (fun h => by
          rcases h with h | h
          · exact h128 h.1
          · exact h0 h)
        have HLT : Hid (b < 128) := Lib.hid (by omega)
        by_cases hz : b = 0
        · have hi0 : i = 0 := by omega
          have e2 : ((b : Int) == 0) = true := by rw [beq_iff_eq]; omega
          have e3 : ¬ (0 : Int) < (i : Int) := by omega
          clear hi0 hz
          have hsh := shift_term b i hb hi
          have hor := or_u64 (acc pre) ((b &&& 127) <<< (7 * i)) hacc (term_lt b i hi)
          have hres : acc (pre ++ [⟨(i, b), ⟨hi, hb⟩⟩]) = acc pre ||| (b &&& 127) <<< (7 * i) := acc_snoc _ _
          generalize acc pre ||| (b &&& 127) <<< (7 * i) = p at hor hres
          generalize (b &&& 127) <<< (7 * i) = m at hsh hor
          generalize acc pre = q at *
          have HRES : Hid (Res (pre ++ [⟨(i, b), ⟨hi, hb⟩⟩]) ((p : Int), (i : Int) + 1, 0)) := Lib.hid ⟨pre, _, rfl, HG.out, .inr ⟨HNB.out, HLT.out, by rw [hres]⟩⟩
          clear hres h0 h128
          gi_wp2
          refine wpIn_mono (reg7_runs F (n - 1 - 1) l s w W i b m p q hi _ _ _ _ _ _ _ _ _ _ _ _ _ _ n0 n1 hsh hor) ?_
          rintro e a' W' ⟨v12, v13, v14, v15, v16, v17, v18, v19, v20, v21, v22, v23, v24, v25, v26, v27, v28, v29, v30, v31, v32, v33, rfl, rfl, rfl⟩
          gi_wp2
          exact ⟨((((KeepsOthers.setCell _ _ _).trans (KeepsOthers.drew _)).trans (KeepsOthers.setCell _ _ _)).trans (KeepsOthers.setCell _ _ _)).trans (KeepsOthers.setCell _ _ _), p, ((p : Int), (i : Int) + 1, 0), ⟨by go_simp, by go_simp, by go_simp, by go_simp, by go_simp, by go_simp, by go_simp, by go_simp⟩, ⟨rfl, HRES.out⟩, ((((hB.setCell (by simp; omega) _).drew).setCell (by simp) _).setCell (by simp) _).setCell (by simp; omega) _⟩
        · have e2 : ((b : Int) == 0) = false := by rw [beq_eq_false_iff_ne]; omega
          clear hz
          have hsh := shift_term b i hb hi
          have hor := or_u64 (acc pre) ((b &&& 127) <<< (7 * i)) hacc (term_lt b i hi)
          have hres : acc (pre ++ [⟨(i, b), ⟨hi, hb⟩⟩]) = acc pre ||| (b &&& 127) <<< (7 * i) := acc_snoc _ _
          generalize acc pre ||| (b &&& 127) <<< (7 * i) = p at hor hres
          generalize (b &&& 127) <<< (7 * i) = m at hsh hor
          generalize acc pre = q at *
          have HRES : Hid (Res (pre ++ [⟨(i, b), ⟨hi, hb⟩⟩]) ((p : Int), (i : Int) + 1, 0)) := Lib.hid ⟨pre, _, rfl, HG.out, .inr ⟨HNB.out, HLT.out, by rw [hres]⟩⟩
          clear hres h0 h128
          gi_wp2
          refine wpIn_mono (reg7_runs F (n - 1 - 1) l s w W i b m p q hi _ _ _ _ _ _ _ _ _ _ _ _ _ _ n0 n1 hsh hor) ?_
          rintro e a' W' ⟨v12, v13, v14, v15, v16, v17, v18, v19, v20, v21, v22, v23, v24, v25, v26, v27, v28, v29, v30, v31, v32, v33, rfl, rfl, rfl⟩
          gi_wp2
          exact ⟨((((KeepsOthers.setCell _ _ _).trans (KeepsOthers.drew _)).trans (KeepsOthers.setCell _ _ _)).trans (KeepsOthers.setCell _ _ _)).trans (KeepsOthers.setCell _ _ _), p, ((p : Int), (i : Int) + 1, 0), ⟨by go_simp, by go_simp, by go_simp, by go_simp, by go_simp, by go_simp, by go_simp, by go_simp⟩, ⟨rfl, HRES.out⟩, ((((hB.setCell (by simp; omega) _).drew).setCell (by simp) _).setCell (by simp) _).setCell (by simp; omega) _⟩
  case done =>
    rintro D ys W hD hS ⟨hx, hg, hB⟩ hK
    obtain ⟨n0, n1, a0, a1, b0, b1, c0, c1⟩ := hx
    have HG := Lib.hid hg
    clear hg
    gi_wp2
    have hK3 : (((W.setCell { block := w.heap.size, off := 0 } (Value.int IntKind.u64 0)).setCell { block := w.heap.size + 1, off := 0 } (Value.int IntKind.i64 0)).setCell { block := w.heap.size + 1 + 1, off := 0 } (Value.int IntKind.i64 11)).heap[D]? = some (.deferred (some [])) := (((KeepsOthers.setCell W _ _).trans (KeepsOthers.setCell _ _ _)).trans (KeepsOthers.setCell _ _ _)).same D _ hK rfl
    have q0 : (((W.setCell { block := w.heap.size, off := 0 } (Value.int IntKind.u64 0)).setCell { block := w.heap.size + 1, off := 0 } (Value.int IntKind.i64 0)).setCell { block := w.heap.size + 1 + 1, off := 0 } (Value.int IntKind.i64 11)).cell? ⟨w.heap.size, 0, none⟩ = some (.int .u64 0) := by go_simp
    have q1 : (((W.setCell { block := w.heap.size, off := 0 } (Value.int IntKind.u64 0)).setCell { block := w.heap.size + 1, off := 0 } (Value.int IntKind.i64 0)).setCell { block := w.heap.size + 1 + 1, off := 0 } (Value.int IntKind.i64 11)).cell? ⟨w.heap.size + 1, 0, none⟩ = some (.int .i64 0) := by go_simp
    have q2 : (((W.setCell { block := w.heap.size, off := 0 } (Value.int IntKind.u64 0)).setCell { block := w.heap.size + 1, off := 0 } (Value.int IntKind.i64 0)).setCell { block := w.heap.size + 1 + 1, off := 0 } (Value.int IntKind.i64 11)).cell? ⟨w.heap.size + 1 + 1, 0, none⟩ = some (.int .i64 11) := by go_simp
    have hB3 : Below w.heap.size w (((W.setCell { block := w.heap.size, off := 0 } (Value.int IntKind.u64 0)).setCell { block := w.heap.size + 1, off := 0 } (Value.int IntKind.i64 0)).setCell { block := w.heap.size + 1 + 1, off := 0 } (Value.int IntKind.i64 11)) := ((hB.setCell (by simp) _).setCell (by simp) _).setCell (by simp; omega) _
    generalize ((W.setCell { block := w.heap.size, off := 0 } (Value.int IntKind.u64 0)).setCell { block := w.heap.size + 1, off := 0 } (Value.int IntKind.i64 0)).setCell { block := w.heap.size + 1 + 1, off := 0 } (Value.int IntKind.i64 11) = W3 at hK3 q0 q1 q2 hB3 ⊢
    refine ⟨by simp, .inl ⟨_, _, rfl, run_takeDeferred hK3, ?_⟩⟩
    have p0 := cell_kept q0 (grownBy_putObj' _ D (.deferred none)) (fun r e => by cases e; exact ⟨_, hK3, rfl⟩)
    have p1 := cell_kept q1 (grownBy_putObj' _ D (.deferred none)) (fun r e => by cases e; exact ⟨_, hK3, rfl⟩)
    have p2 := cell_kept q2 (grownBy_putObj' _ D (.deferred none)) (fun r e => by cases e; exact ⟨_, hK3, rfl⟩)
    refine ⟨.tuple #[.int .u64 0, .int .i64 0, .int .i64 11], by simp [results, Try.results95, go_sem, p0, p1, p2], (0, 0, 11), rfl, .inl ⟨ys, hS, HG.out, rfl⟩, hB3.trans (belowK_b (w := w) (Nat.le_refl _) W3 D _ _ (by simp at hD; omega) hK3 rfl rfl)⟩
  case stop =>
    rintro D c pre W hD hP ⟨k0, r, hx, ⟨rfl, hr⟩, hB⟩ hK
    obtain ⟨n0, n1, a0, a1, b0, b1, c0, c1⟩ := hx
    gi_wp2
    refine ⟨by simp, .inl ⟨_, _, rfl, run_takeDeferred hK, ?_⟩⟩
    have p0 := cell_kept a0 (grownBy_putObj' _ D (.deferred none)) (fun r e => by cases e; exact ⟨_, hK, rfl⟩)
    have p1 := cell_kept b0 (grownBy_putObj' _ D (.deferred none)) (fun r e => by cases e; exact ⟨_, hK, rfl⟩)
    have p2 := cell_kept c0 (grownBy_putObj' _ D (.deferred none)) (fun r e => by cases e; exact ⟨_, hK, rfl⟩)
    refine ⟨.tuple #[.int .u64 r.1, .int .i64 r.2.1, .int .i64 r.2.2], by simp [results, Try.results95, go_sem, p0, p1, p2], r, rfl, .inr ⟨pre, hP, hr⟩, hB.trans (belowK_b (w := w) (Nat.le_refl _) W D _ _ (by simp at hD; omega) hK rfl rfl)⟩
end Go.Proofs.Ytcgimjoebkeifaa.Rd

/- varint.read as a Lean function, with a proof that the call answers so. Condition: the string is within the reach. -/
namespace Go.Proofs.Ytcgimjoebkeifaa.Rd
set_option linter.unusedSimpArgs false
set_option linter.unusedVariables false
def readG (s : ByteArray) : Nat → Nat → Nat → Int × Int × Int
  | 0, _, _ => (0, 0, 12)
  | f + 1, i, n => if h : i < s.size then
      (if (128 ≤ s[i].toNat ∧ i = 8) ∨ (s[i].toNat = 0 ∧ 0 < i) then (0, 0, 12) else if s[i].toNat < 128 then (((n ||| (s[i].toNat &&& 127) <<< (7 * i) : Nat) : Int), (i : Int) + 1, 0) else readG s f (i + 1) (n ||| (s[i].toNat &&& 127) <<< (7 * i)))
    else (0, 0, 11)
def readF (s : ByteArray) : Int × Int × Int := readG s 9 0 0
theorem upto_snoc_inj {s : ByteArray} {k : Nat} {p : List Ib} {x : Ib} (h : upto s k = p ++ [x]) : ∃ j, k = j + 1 ∧ p = upto s j ∧ x = at_ s j := by
  cases k with
  | zero => simp [upto] at h
  | succ j =>
    rw [upto_succ] at h
    obtain ⟨h1, h2⟩ := List.append_inj' h rfl
    exact ⟨j, rfl, h1.symm, by simpa using h2.symm⟩
theorem mem_upto {s : ByteArray} {k j : Nat} (h : j < k) : at_ s j ∈ upto s k := List.mem_map.2 ⟨j, List.mem_range.2 h, rfl⟩
theorem Going.le8 {s : ByteArray} {k : Nat} (h : Going (upto s k)) (hk : k ≤ s.size) (h9 : k ≤ 9) : k ≤ 8 := by
  rcases Nat.lt_or_ge 8 k with h8 | h8
  · have := h _ (mem_upto (s := s) h8)
    rw [at_eq s 8 (by omega) (by omega)] at this
    exact absurd rfl this.2
  · exact h8
theorem readG_at (s : ByteArray) : ∀ j, j ≤ s.size → j ≤ 8 → Going (upto s j) → readG s 9 0 0 = readG s (9 - j) j (acc (upto s j))
  | 0, _, _, _ => rfl
  | j + 1, hs, h8, hg => by
    have hg' : Going (upto s j) := fun y hy => hg y (by rw [upto_succ]; exact List.mem_append_left _ hy)
    rw [readG_at s j (by omega) (by omega) hg']
    have hx := hg _ (mem_upto (s := s) (Nat.lt_succ_self j))
    rw [at_eq s j (by omega) (by omega)] at hx
    dsimp only at hx
    have e1 : (at_ s j).1.2 = (s[j]'(by omega)).toNat := by rw [at_eq s j (by omega) (by omega)]
    have e2 : (at_ s j).1.1 = j := by rw [at_eq s j (by omega) (by omega)]
    rw [show 9 - j = (9 - (j + 1)) + 1 from by omega, readG, dif_pos (by omega : j < s.size), if_neg (by omega), if_neg (by omega), upto_succ, acc_snoc]
    unfold orv
    rw [e1, e2]
theorem readRes_eq {s : ByteArray} {r : Int × Int × Int} (h : ReadRes s r) : r = readF s := by
  unfold readF
  rcases h with ⟨ys, ⟨k, rfl, h9, hs, he⟩, hg, rfl⟩ | ⟨ys, ⟨k, rfl, h9, hs⟩, p, x, hpx, hg, hr⟩
  · have h8 := Going.le8 hg hs h9
    have hk : k = s.size := by
      rcases he with (h | h) | ⟨h0, h1⟩
      · exact h
      · omega
      · have := (hg _ (mem_upto (s := s) (show k - 1 < k by omega))).1
        omega
    rw [readG_at s k hs h8 hg, show 9 - k = (8 - k) + 1 from by omega, readG, dif_neg (by omega)]
  · obtain ⟨j, rfl, rfl, rfl⟩ := upto_snoc_inj hpx
    rw [readG_at s j (by omega) (by omega) hg, show 9 - j = (8 - j) + 1 from by omega, readG, dif_pos (by omega : j < s.size)]
    have e := at_eq s j (by omega) (by omega)
    unfold bad at hr
    rw [e] at hr
    dsimp only at hr
    rcases hr with ⟨hb, rfl⟩ | ⟨hb, hlt, rfl⟩
    · rw [if_pos hb]
    · rw [if_neg hb, if_pos hlt, upto_succ, acc_snoc]
      unfold orv
      rw [e]
end Go.Proofs.Ytcgimjoebkeifaa.Rd
namespace Go.Proofs.Ytcgimjoebkeifaa.PQ
set_option linter.unusedSimpArgs false
set_option linter.unusedVariables false
open Go.RowKit Go.Shelf Go.Proofs.Ytcgimjoebkeifaa.Rd
def varint_read.f (a0 : ByteArray) : Option (Int × Int × Int) := if a0.size ≤ 140737488351232 then some (readF a0) else none
theorem varint_read.calls (a0 : ByteArray) (r1 : Int) (r2 : Int) (r3 : Int) (w : World) (h : varint_read.f a0 = some (r1, r2, r3)) :
    Calls Try.prog 95 #[.string a0] w fun e w' => e = .returned (.tuple #[.int .u64 r1, .int .i64 r2, .int .i64 r3]) ∧ Below w.heap.size w w' := by
  unfold varint_read.f at h
  by_cases hs : a0.size ≤ 140737488351232
  case neg => rw [if_neg hs] at h; cases h
  rw [if_pos hs] at h
  have he := Option.some.inj h
  refine ((callsIn_wide (n := 3)).1 (read_in _ 3 trivial trivial trivial rfl (by omega) a0 (by unfold maxLen; omega) w)).mono ?_
  rintro e w' ⟨r, rfl, hr, hb⟩
  rw [readRes_eq hr, he]
  exact ⟨rfl, hb⟩
end Go.Proofs.Ytcgimjoebkeifaa.PQ

/- Written by a program of this session (wip/patch_print.py): Go functions as Lean functions, each with a proof that the call does what its function says. No conditions beyond each theorem's own. -/
namespace Go.Proofs.Ytcgimjoebkeifaa.PQ
open Go.RowKit Go.Proofs.YtcgimjoebkeifaaW.PrintWords Go.Proofs.YtcgimjoebkeifaaW.PrintLast Go.Proofs.YtcgimjoebkeifaaW.PrintMore
attribute [local go_sem] max2_int min2_int max_two min_two max_three min_three max_four min_four   -- for this text's walks alone
set_option linter.unusedVariables false
set_option linter.unusedSimpArgs false

/-! ### varint_Read: function 69 -/
def varint_Read.f (a0 : ByteArray) : Option (Int × Int × Int) := (varint_read.f a0).bind fun bt264 => (if bt264.2.2 = 0 then (if bt264.1 > 1152921504606846976 then (some (0, 0, 12)) else (some (wrap64 (bt264.1), bt264.2.1, 0))) else (some (0, 0, bt264.2.2)))
set_option maxHeartbeats 8000000 in
set_option maxRecDepth 100000 in
theorem varint_Read.calls (a0 : ByteArray) (r1 : Int) (r2 : Int) (r3 : Int) (w : World) (h : varint_Read.f a0 = some (r1, r2, r3)) :
  Calls Try.prog 69 #[.string a0] w fun e w' => e = .returned (.tuple #[.int .i64 r1, .int .i64 r2, .int .i64 r3]) ∧ Below w.heap.size w w' := by
 have HB := Aside0.mk (Below.refl w.heap.size w)
 have H : ((varint_read.f a0).bind fun bt264 => (if bt264.2.2 = 0 then (if bt264.1 > 1152921504606846976 then (some (0, 0, 12)) else (some (wrap64 (bt264.1), bt264.2.1, 0))) else (some (0, 0, bt264.2.2)))) = some (r1, r2, r3) := h
 clear h
 replace H := Option.bind_eq_some_iff.mp H
 obtain ⟨⟨t264, t265, t266⟩, A20, H⟩ := H
 replace H : (if t266 = 0 then (if t264 > 1152921504606846976 then (some (0, 0, 12)) else (some (wrap64 (t264), t265, 0))) else (some (0, 0, t266))) = some (r1, r2, r3) := H
 have A2 := Aside0.mk A20
 clear A20
 by_cases c3 : t266 = 0
 ·rw [if_pos c3] at H
  have c3b0 : (t266 == 0) = true := beq_iff_eq.mpr c3
  have c3b1 : (t266 != 0) = false := bne_eq_false_iff_eq.mpr c3
  clear c3
  by_cases c4 : t264 > 1152921504606846976
  ·rw [if_pos c4] at H
   have c4b0 : decide (1152921504606846976 < t264) = true := decide_eq_true c4
   clear c4
   simp only [Option.some.injEq, Prod.mk.injEq] at H
   obtain ⟨rfl, rfl, rfl⟩ := H
   go_enter Try.func69, Try.ntmps69
   go_wp2_with (first | ((with_reducible refine gate_callee (f := 95) rfl ?_); refine goesL_ (some 10) rfl rfl Try.func95 (by kernel_rfl) rfl #[.string a0] rfl (by (try simp only [List.map_toArray, List.map_cons, List.map_nil]); first | done | rfl | (simp only [List.length_drop, List.length_take]; rfl)) ?_; (with_reducible refine (varint_read.calls a0 t264 t265 t266 _ A2.out).mono ?_); rintro e w5 ⟨rfl, hb⟩; refine ⟨_, rfl, ?_⟩; have n0_ := Aside0.mk (below_step (by repeat (first | (with_reducible first | exact HB.out | apply below_alloc | apply pw_below_drewN | apply below_drew1) | exact HB.out)) hb); clear HB; have HB := n0_; clear n0_; (try clear hb); (try clear hb2); (try clear hk); (try clear hi)))
   go_ret3
   exact ⟨by first | rfl | (simp [errW_none, errW_some] <;> rfl) | (simp [*, errW_none, errW_some] <;> rfl), by repeat (first | (with_reducible first | exact HB.out | apply below_alloc | apply pw_below_drewN | apply below_drew1) | exact HB.out)⟩
  ·rw [if_neg c4] at H
   have c4b0 : decide (1152921504606846976 < t264) = false := decide_eq_false c4
   clear c4
   simp only [Option.some.injEq, Prod.mk.injEq] at H
   obtain ⟨rfl, rfl, rfl⟩ := H
   go_enter Try.func69, Try.ntmps69
   go_wp2_with (first | ((with_reducible refine gate_callee (f := 95) rfl ?_); refine goesL_ (some 10) rfl rfl Try.func95 (by kernel_rfl) rfl #[.string a0] rfl (by (try simp only [List.map_toArray, List.map_cons, List.map_nil]); first | done | rfl | (simp only [List.length_drop, List.length_take]; rfl)) ?_; (with_reducible refine (varint_read.calls a0 t264 t265 t266 _ A2.out).mono ?_); rintro e w6 ⟨rfl, hb⟩; refine ⟨_, rfl, ?_⟩; have n0_ := Aside0.mk (below_step (by repeat (first | (with_reducible first | exact HB.out | apply below_alloc | apply pw_below_drewN | apply below_drew1) | exact HB.out)) hb); clear HB; have HB := n0_; clear n0_; (try clear hb); (try clear hb2); (try clear hk); (try clear hi)))
   go_ret3
   exact ⟨by first | rfl | (simp [errW_none, errW_some] <;> rfl) | (simp [*, errW_none, errW_some] <;> rfl), by repeat (first | (with_reducible first | exact HB.out | apply below_alloc | apply pw_below_drewN | apply below_drew1) | exact HB.out)⟩
 ·rw [if_neg c3] at H
  have c3b0 : (t266 == 0) = false := beq_eq_false_iff_ne.mpr c3
  have c3b1 : (t266 != 0) = true := bne_iff_ne.mpr c3
  simp only [Option.some.injEq, Prod.mk.injEq] at H
  obtain ⟨rfl, rfl, rfl⟩ := H
  go_enter Try.func69, Try.ntmps69
  go_wp2_with (first | ((with_reducible refine gate_callee (f := 95) rfl ?_); refine goesL_ (some 10) rfl rfl Try.func95 (by kernel_rfl) rfl #[.string a0] rfl (by (try simp only [List.map_toArray, List.map_cons, List.map_nil]); first | done | rfl | (simp only [List.length_drop, List.length_take]; rfl)) ?_; (with_reducible refine (varint_read.calls a0 t264 t265 t266 _ A2.out).mono ?_); rintro e w7 ⟨rfl, hb⟩; refine ⟨_, rfl, ?_⟩; have n0_ := Aside0.mk (below_step (by repeat (first | (with_reducible first | exact HB.out | apply below_alloc | apply pw_below_drewN | apply below_drew1) | exact HB.out)) hb); clear HB; have HB := n0_; clear n0_; (try clear hb); (try clear hb2); (try clear hk); (try clear hi)))
  go_ret3
  exact ⟨by first | rfl | (simp [errW_none, errW_some] <;> rfl) | (simp [*, errW_none, errW_some] <;> rfl), by repeat (first | (with_reducible first | exact HB.out | apply below_alloc | apply pw_below_drewN | apply below_drew1) | exact HB.out)⟩

end Go.Proofs.Ytcgimjoebkeifaa.PQ

/- Written by a program of this session (wip/patch_print.py): Go functions as Lean functions, each with a proof that the call does what its function says. No conditions beyond each theorem's own. -/
namespace Go.Proofs.Ytcgimjoebkeifaa.PQ
open Go.RowKit Go.Proofs.YtcgimjoebkeifaaW.PrintWords Go.Proofs.YtcgimjoebkeifaaW.PrintLast Go.Proofs.YtcgimjoebkeifaaW.PrintMore
attribute [local go_sem] max2_int min2_int max_two min_two max_three min_three max_four min_four   -- for this text's walks alone
set_option linter.unusedVariables false
set_option linter.unusedSimpArgs false

/-! ### varint_unfolded: function 96 -/
def varint_unfolded.f (a0 : Int) : Option (Int) := if (Int.tmod a0 2) = 0 then (some (wrap64 (IntKind.u64.wrap (Int.tdiv a0 2)))) else (some (wrap64 ((wrap64 (-(wrap64 (IntKind.u64.wrap (Int.tdiv a0 2))))) - 1)))
set_option maxHeartbeats 8000000 in
set_option maxRecDepth 100000 in
theorem varint_unfolded.calls (a0 : Int) (r : Int) (w : World) (h : varint_unfolded.f a0 = some r) :
  Calls Try.prog 96 #[.int .u64 a0] w fun e w' => e = .returned (.int .i64 r) ∧ Drawn0 w w' := by
 have H : (if (Int.tmod a0 2) = 0 then (some (wrap64 (IntKind.u64.wrap (Int.tdiv a0 2)))) else (some (wrap64 ((wrap64 (-(wrap64 (IntKind.u64.wrap (Int.tdiv a0 2))))) - 1)))) = some r := h
 clear h
 by_cases c2 : (Int.tmod a0 2) = 0
 ·rw [if_pos c2] at H
  have c2b0 : ((Int.tmod a0 2) == 0) = true := beq_iff_eq.mpr c2
  have c2b1 : ((Int.tmod a0 2) != 0) = false := bne_eq_false_iff_eq.mpr c2
  clear c2
  obtain rfl := Option.some.inj H
  go_enter Try.func96, Try.ntmps96
  go_wp2
  go_ret
  exact ⟨by first | rfl | (simp; done) | (simp [*]; done), by repeat (first | exact Drawn0.refl _ | apply Drawn0.step)⟩
 ·rw [if_neg c2] at H
  have c2b0 : ((Int.tmod a0 2) == 0) = false := beq_eq_false_iff_ne.mpr c2
  have c2b1 : ((Int.tmod a0 2) != 0) = true := bne_iff_ne.mpr c2
  obtain rfl := Option.some.inj H
  go_enter Try.func96, Try.ntmps96
  go_wp2
  go_ret
  exact ⟨by first | rfl | (simp; done) | (simp [*]; done), by repeat (first | exact Drawn0.refl _ | apply Drawn0.step)⟩

end Go.Proofs.Ytcgimjoebkeifaa.PQ

/- Written by a program of this session (wip/patch_print.py): Go functions as Lean functions, each with a proof that the call does what its function says. No conditions beyond each theorem's own. -/
namespace Go.Proofs.Ytcgimjoebkeifaa.PQ
open Go.RowKit Go.Proofs.YtcgimjoebkeifaaW.PrintWords Go.Proofs.YtcgimjoebkeifaaW.PrintLast Go.Proofs.YtcgimjoebkeifaaW.PrintMore
attribute [local go_sem] max2_int min2_int max_two min_two max_three min_three max_four min_four   -- for this text's walks alone
set_option linter.unusedVariables false
set_option linter.unusedSimpArgs false

/-! ### varint_ReadSigned: function 70 -/
def varint_ReadSigned.f (a0 : ByteArray) : Option (Int × Int × Int) := (varint_read.f a0).bind fun bt267 => (if bt267.2.2 = 0 then ((varint_unfolded.f bt267.1).bind fun t270 => ((varint_inRange.f t270).bind fun t271 => (if t271 = true then (some (t270, bt267.2.1, 0)) else (some (0, 0, 12))))) else (some (0, 0, bt267.2.2)))
set_option maxHeartbeats 8000000 in
set_option maxRecDepth 100000 in
theorem varint_ReadSigned.calls (a0 : ByteArray) (r1 : Int) (r2 : Int) (r3 : Int) (w : World) (h : varint_ReadSigned.f a0 = some (r1, r2, r3)) :
  Calls Try.prog 70 #[.string a0] w fun e w' => e = .returned (.tuple #[.int .i64 r1, .int .i64 r2, .int .i64 r3]) ∧ Below w.heap.size w w' := by
 have HB := Aside0.mk (Below.refl w.heap.size w)
 have H : ((varint_read.f a0).bind fun bt267 => (if bt267.2.2 = 0 then ((varint_unfolded.f bt267.1).bind fun t270 => ((varint_inRange.f t270).bind fun t271 => (if t271 = true then (some (t270, bt267.2.1, 0)) else (some (0, 0, 12))))) else (some (0, 0, bt267.2.2)))) = some (r1, r2, r3) := h
 clear h
 replace H := Option.bind_eq_some_iff.mp H
 obtain ⟨⟨t267, t268, t269⟩, A20, H⟩ := H
 replace H : (if t269 = 0 then ((varint_unfolded.f t267).bind fun t270 => ((varint_inRange.f t270).bind fun t271 => (if t271 = true then (some (t270, t268, 0)) else (some (0, 0, 12))))) else (some (0, 0, t269))) = some (r1, r2, r3) := H
 have A2 := Aside0.mk A20
 clear A20
 by_cases c3 : t269 = 0
 ·rw [if_pos c3] at H
  have c3b0 : (t269 == 0) = true := beq_iff_eq.mpr c3
  have c3b1 : (t269 != 0) = false := bne_eq_false_iff_eq.mpr c3
  clear c3
  replace H := Option.bind_eq_some_iff.mp H
  obtain ⟨t270, A40, H⟩ := H
  replace H : ((varint_inRange.f t270).bind fun t271 => (if t271 = true then (some (t270, t268, 0)) else (some (0, 0, 12)))) = some (r1, r2, r3) := H
  have A4 := Aside0.mk A40
  clear A40
  replace H := Option.bind_eq_some_iff.mp H
  obtain ⟨t271, A50, H⟩ := H
  replace H : (if t271 = true then (some (t270, t268, 0)) else (some (0, 0, 12))) = some (r1, r2, r3) := H
  have A5 := Aside0.mk A50
  clear A50
  by_cases c6 : t271 = true
  ·subst c6
   have H1 : (some (t270, t268, 0)) = some (r1, r2, r3) := by rw [if_pos rfl] at H; exact H
   clear H
   have H := H1
   clear H1
   simp only [Option.some.injEq, Prod.mk.injEq] at H
   obtain ⟨rfl, rfl, rfl⟩ := H
   go_enter Try.func70, Try.ntmps70
   go_wp2_with (first | ((with_reducible refine gate_callee (f := 95) rfl ?_); refine goesL_ (some 11) rfl rfl Try.func95 (by kernel_rfl) rfl #[.string a0] rfl (by (try simp only [List.map_toArray, List.map_cons, List.map_nil]); first | done | rfl | (simp only [List.length_drop, List.length_take]; rfl)) ?_; (with_reducible refine (varint_read.calls a0 t267 t268 t269 _ A2.out).mono ?_); rintro e w7 ⟨rfl, hb⟩; refine ⟨_, rfl, ?_⟩; have n0_ := Aside0.mk (below_step (by repeat (first | (with_reducible first | exact HB.out | apply below_alloc | apply pw_below_drewN | apply below_drew1) | exact HB.out)) hb); clear HB; have HB := n0_; clear n0_; (try clear hb); (try clear hb2); (try clear hk); (try clear hi)) | ((with_reducible refine gate_callee (f := 96) rfl ?_); refine goesL_ (some 19) rfl rfl Try.func96 (by kernel_rfl) rfl #[.int .u64 t267] rfl (by (try simp only [List.map_toArray, List.map_cons, List.map_nil]); first | done | rfl | (simp only [List.length_drop, List.length_take]; rfl)) ?_; (with_reducible refine (varint_unfolded.calls t267 t270 _ A4.out).mono ?_); rintro e w' ⟨rfl, ⟨nd, rfl⟩⟩; refine ⟨_, rfl, ?_⟩) | ((with_reducible refine gate_callee (f := 67) rfl ?_); refine goesL_ (some 21) rfl rfl Try.func67 (by kernel_rfl) rfl #[.int .i64 t270] rfl (by (try simp only [List.map_toArray, List.map_cons, List.map_nil]); first | done | rfl | (simp only [List.length_drop, List.length_take]; rfl)) ?_; (with_reducible refine (varint_inRange.calls t270 true _ A5.out).mono ?_); rintro e w' ⟨rfl, ⟨nd, rfl⟩⟩; refine ⟨_, rfl, ?_⟩))
   go_ret3
   exact ⟨by first | rfl | (simp [errW_none, errW_some] <;> rfl) | (simp [*, errW_none, errW_some] <;> rfl), by repeat (first | (with_reducible first | exact HB.out | apply below_alloc | apply pw_below_drewN | apply below_drew1) | exact HB.out)⟩
  ·replace c6 := Bool.eq_false_iff.mpr c6
   subst c6
   have H1 : (some (0, 0, 12)) = some (r1, r2, r3) := by rw [if_neg (show ¬ (false = true) by decide)] at H; exact H
   clear H
   have H := H1
   clear H1
   simp only [Option.some.injEq, Prod.mk.injEq] at H
   obtain ⟨rfl, rfl, rfl⟩ := H
   go_enter Try.func70, Try.ntmps70
   go_wp2_with (first | ((with_reducible refine gate_callee (f := 95) rfl ?_); refine goesL_ (some 11) rfl rfl Try.func95 (by kernel_rfl) rfl #[.string a0] rfl (by (try simp only [List.map_toArray, List.map_cons, List.map_nil]); first | done | rfl | (simp only [List.length_drop, List.length_take]; rfl)) ?_; (with_reducible refine (varint_read.calls a0 t267 t268 t269 _ A2.out).mono ?_); rintro e w8 ⟨rfl, hb⟩; refine ⟨_, rfl, ?_⟩; have n0_ := Aside0.mk (below_step (by repeat (first | (with_reducible first | exact HB.out | apply below_alloc | apply pw_below_drewN | apply below_drew1) | exact HB.out)) hb); clear HB; have HB := n0_; clear n0_; (try clear hb); (try clear hb2); (try clear hk); (try clear hi)) | ((with_reducible refine gate_callee (f := 96) rfl ?_); refine goesL_ (some 19) rfl rfl Try.func96 (by kernel_rfl) rfl #[.int .u64 t267] rfl (by (try simp only [List.map_toArray, List.map_cons, List.map_nil]); first | done | rfl | (simp only [List.length_drop, List.length_take]; rfl)) ?_; (with_reducible refine (varint_unfolded.calls t267 t270 _ A4.out).mono ?_); rintro e w' ⟨rfl, ⟨nd, rfl⟩⟩; refine ⟨_, rfl, ?_⟩) | ((with_reducible refine gate_callee (f := 67) rfl ?_); refine goesL_ (some 21) rfl rfl Try.func67 (by kernel_rfl) rfl #[.int .i64 t270] rfl (by (try simp only [List.map_toArray, List.map_cons, List.map_nil]); first | done | rfl | (simp only [List.length_drop, List.length_take]; rfl)) ?_; (with_reducible refine (varint_inRange.calls t270 false _ A5.out).mono ?_); rintro e w' ⟨rfl, ⟨nd, rfl⟩⟩; refine ⟨_, rfl, ?_⟩))
   go_ret3
   exact ⟨by first | rfl | (simp [errW_none, errW_some] <;> rfl) | (simp [*, errW_none, errW_some] <;> rfl), by repeat (first | (with_reducible first | exact HB.out | apply below_alloc | apply pw_below_drewN | apply below_drew1) | exact HB.out)⟩
 ·rw [if_neg c3] at H
  have c3b0 : (t269 == 0) = false := beq_eq_false_iff_ne.mpr c3
  have c3b1 : (t269 != 0) = true := bne_iff_ne.mpr c3
  simp only [Option.some.injEq, Prod.mk.injEq] at H
  obtain ⟨rfl, rfl, rfl⟩ := H
  go_enter Try.func70, Try.ntmps70
  go_wp2_with (first | ((with_reducible refine gate_callee (f := 95) rfl ?_); refine goesL_ (some 11) rfl rfl Try.func95 (by kernel_rfl) rfl #[.string a0] rfl (by (try simp only [List.map_toArray, List.map_cons, List.map_nil]); first | done | rfl | (simp only [List.length_drop, List.length_take]; rfl)) ?_; (with_reducible refine (varint_read.calls a0 t267 t268 t269 _ A2.out).mono ?_); rintro e w9 ⟨rfl, hb⟩; refine ⟨_, rfl, ?_⟩; have n0_ := Aside0.mk (below_step (by repeat (first | (with_reducible first | exact HB.out | apply below_alloc | apply pw_below_drewN | apply below_drew1) | exact HB.out)) hb); clear HB; have HB := n0_; clear n0_; (try clear hb); (try clear hb2); (try clear hk); (try clear hi)))
  go_ret3
  exact ⟨by first | rfl | (simp [errW_none, errW_some] <;> rfl) | (simp [*, errW_none, errW_some] <;> rfl), by repeat (first | (with_reducible first | exact HB.out | apply below_alloc | apply pw_below_drewN | apply below_drew1) | exact HB.out)⟩

end Go.Proofs.Ytcgimjoebkeifaa.PQ

/- Written by a program of this session (wip/patch_print.py): Go functions as Lean functions, each with a proof that the call does what its function says. No conditions beyond each theorem's own. -/
namespace Go.Proofs.Ytcgimjoebkeifaa.PQ
open Go.RowKit Go.Proofs.YtcgimjoebkeifaaW.PrintWords Go.Proofs.YtcgimjoebkeifaaW.PrintLast Go.Proofs.YtcgimjoebkeifaaW.PrintMore
attribute [local go_sem] max2_int min2_int max_two min_two max_three min_three max_four min_four   -- for this text's walks alone
set_option linter.unusedVariables false
set_option linter.unusedSimpArgs false

/-! ### varint_Decode: function 42 -/
def varint_Decode.l0 : Nat → ByteArray → Int → List Int → Int → Int → Option (List Int × Int)
 | 0, _, _, _, _, _ => none
 | k + 1, x0, x5, x7, x27, x28 => if x28 < x27 then (if 0 ≤ x5 then (if x5 ≤ (x0.size : Int) then ((varint_ReadSigned.f (x0.extract (x5 : Int).toNat x0.size)).bind fun bt278 => (if bt278.2.2 = 0 then (if x7.length < 17592186044416 then (varint_Decode.l0 k x0 (wrap64 (x5 + bt278.2.1)) (x7 ++ [bt278.1]) x27 (wrap64 (x28 + 1))) else (none)) else (some (([] : List Int), bt278.2.2)))) else (none)) else (none)) else (if x5 = (x0.size : Int) then (some (x7, 0)) else (some (([] : List Int), 12)))
def varint_Decode.f (k : Nat) (a0 : ByteArray) : Option (List Int × Int) := (varint_Read.f a0).bind fun bt272 => (if bt272.2.2 = 0 then (if bt272.1 > 20000 then (some (([] : List Int), 4)) else (if 0 ≤ (mn bt272.1 (a0.size : Int)) then (if (mn bt272.1 (a0.size : Int) : Int).toNat ≤ 35184372088832 then (varint_Decode.l0 k a0 bt272.2.1 (([] : List Int)) bt272.1 0) else (none)) else (none))) else (some (([] : List Int), bt272.2.2)))
theorem varint_Decode.mono_l : ∀ k, (∀ y0 y1 y2 y3 y4, LeO (varint_Decode.l0 k y0 y1 y2 y3 y4) (varint_Decode.l0 (k + 1) y0 y1 y2 y3 y4))
 | 0 => fun _ _ _ _ _ r h => by simp [varint_Decode.l0] at h
 | k + 1 => by
  have ih0 := varint_Decode.mono_l k
  ·intro y0 y1 y2 y3 y4
   unfold varint_Decode.l0
   repeat' first
   | (with_reducible exact ih0 _ _ _ _ _)
   | (with_reducible exact LeO.refl _)
   | (with_reducible exact LeO.none _)
   | (with_reducible refine LeO.ite ?_ ?_)
   | (with_reducible refine LeO.bind ?_ (fun _ => ?_))
   | exact ih0 _ _ _ _ _
   | exact LeO.none _
   | refine LeO.ite ?_ ?_
   | refine LeO.bind ?_ (fun _ => ?_)
theorem varint_Decode.mono : ∀ a0 k, LeO (varint_Decode.f k a0) (varint_Decode.f (k + 1) a0) := by
 intro a0 k
 have ih0 := varint_Decode.mono_l k
 unfold varint_Decode.f
 repeat' first
   | (with_reducible exact ih0 _ _ _ _ _)
   | (with_reducible exact LeO.refl _)
   | (with_reducible exact LeO.none _)
   | (with_reducible refine LeO.ite ?_ ?_)
   | (with_reducible refine LeO.bind ?_ (fun _ => ?_))
   | exact ih0 _ _ _ _ _
   | exact LeO.none _
   | refine LeO.ite ?_ ?_
   | refine LeO.bind ?_ (fun _ => ?_)
set_option maxHeartbeats 8000000 in
set_option maxRecDepth 100000 in
theorem varint_Decode.calls (k : Nat) (a0 : ByteArray) (r1 : List Int) (r2 : Int) (w : World) (h : varint_Decode.f k a0 = some (r1, r2)) :
  Calls Try.prog 42 #[.string a0] w fun e w' => ∃ v0_ : Value, e = .returned (.tuple #[v0_, .int .i64 r2]) ∧ Kd.R (Kd.int .i64) 3 w' w.heap.size (fun _ => True) v0_ r1 ∧ Below w.heap.size w w' := by
 have HB := Aside0.mk (Below.refl w.heap.size w)
 have H : ((varint_Read.f a0).bind fun bt272 => (if bt272.2.2 = 0 then (if bt272.1 > 20000 then (some (([] : List Int), 4)) else (if 0 ≤ (mn bt272.1 (a0.size : Int)) then (if (mn bt272.1 (a0.size : Int) : Int).toNat ≤ 35184372088832 then (varint_Decode.l0 k a0 bt272.2.1 (([] : List Int)) bt272.1 0) else (none)) else (none))) else (some (([] : List Int), bt272.2.2)))) = some (r1, r2) := h
 clear h
 replace H := Option.bind_eq_some_iff.mp H
 obtain ⟨⟨t272, t273, t274⟩, A20, H⟩ := H
 replace H : (if t274 = 0 then (if t272 > 20000 then (some (([] : List Int), 4)) else (if 0 ≤ (mn t272 (a0.size : Int)) then (if (mn t272 (a0.size : Int) : Int).toNat ≤ 35184372088832 then (varint_Decode.l0 k a0 t273 (([] : List Int)) t272 0) else (none)) else (none))) else (some (([] : List Int), t274))) = some (r1, r2) := H
 have A2 := Aside0.mk A20
 clear A20
 by_cases c3 : t274 = 0
 ·rw [if_pos c3] at H
  have c3b0 : (t274 == 0) = true := beq_iff_eq.mpr c3
  have c3b1 : (t274 != 0) = false := bne_eq_false_iff_eq.mpr c3
  clear c3
  by_cases c4 : t272 > 20000
  ·rw [if_pos c4] at H
   have c4b0 : decide (20000 < t272) = true := decide_eq_true c4
   clear c4
   simp only [Option.some.injEq, Prod.mk.injEq] at H
   obtain ⟨rfl, rfl⟩ := H
   go_enter Try.func42, Try.ntmps42
   go_wp2_with (first | ((with_reducible refine gate_callee (f := 69) rfl ?_); refine goesL_ (some 13) rfl rfl Try.func69 (by kernel_rfl) rfl #[.string a0] rfl (by (try simp only [List.map_toArray, List.map_cons, List.map_nil]); first | done | rfl | (simp only [List.length_drop, List.length_take]; rfl)) ?_; (with_reducible refine (varint_Read.calls a0 t272 t273 t274 _ A2.out).mono ?_); rintro e w5 ⟨rfl, hb⟩; refine ⟨_, rfl, ?_⟩; have n0_ := Aside0.mk (below_step (by repeat (first | (with_reducible first | exact HB.out | apply below_alloc | apply pw_below_drewN | apply below_drew1) | exact HB.out)) hb); clear HB; have HB := n0_; clear n0_; (try clear hb); (try clear hb2); (try clear hk); (try clear hi)))
   go_ret2
   exact ⟨_, by first | rfl | (simp [errW_none, errW_some] <;> rfl) | (simp [*, errW_none, errW_some] <;> rfl), by first | exact Kd.R_nil _ _ _ _ _ | exact Kd.N_nil _ _ _ _ _ | exact Kd.V_nil _ _ _ _ _ | exact Kd.Q_nil _ _ _ _ _ | exact Kd.S_nil _ _ _ _ _, by repeat (first | (with_reducible first | exact HB.out | apply below_alloc | apply pw_below_drewN | apply below_drew1) | exact HB.out)⟩
  ·rw [if_neg c4] at H
   have c4b0 : decide (20000 < t272) = false := decide_eq_false c4
   clear c4
   obtain ⟨ji6, hji6⟩ : ∃ j_ : Int, (mn t272 (a0.size : Int)) = j_ := ⟨_, rfl⟩
   replace H : (if 0 ≤ (ji6) then (if (ji6 : Int).toNat ≤ 35184372088832 then (varint_Decode.l0 k a0 t273 (([] : List Int)) t272 0) else (none)) else (none)) = some (r1, r2) := by first | (rw [hji6] at H; exact H) | (simp only [hji6] at H ⊢; exact H)
   (try rw [hji6] at A2)
   have hji6_ : (if (a0.size : Int) < t272 then (a0.size : Int) else t272) = ji6 := hji6
   by_cases c7 : 0 ≤ (ji6)
   ·rw [if_pos c7] at H
    have c7b0 := eq_true c7
    have c7b1 : decide (0 ≤ (ji6)) = true := decide_eq_true c7
    clear c7
    by_cases c8 : (ji6 : Int).toNat ≤ 35184372088832
    ·rw [if_pos c8] at H
     have c8b0 := eq_true c8
     have c8b1 : decide ((ji6 : Int).toNat ≤ 35184372088832) = true := decide_eq_true c8
     clear c8
     obtain ⟨y275, hy275⟩ : ∃ y_ : List Int, y_ = (([] : List Int)) := ⟨_, rfl⟩
     replace H : (varint_Decode.l0 k a0 t273 y275 t272 0) = some (r1, r2) := by first | (rw [hy275]; with_reducible exact H) | (have H2_ := (Option.bind_some _ _).symm.trans H; rw [hy275]; with_reducible exact H2_) | (have H2_ := (Option.bind_some _ _).symm.trans H; with_reducible exact H2_) | with_reducible exact H | (rw [hy275]; exact H) | exact H
     have Ny275 := Aside0.mk hy275
     clear hy275
     have H' := Aside0.mk H
     clear H
     go_enter Try.func42, Try.ntmps42
     go_wp2_with (first | ((with_reducible refine gate_callee (f := 69) rfl ?_); refine goesL_ (some 13) rfl rfl Try.func69 (by kernel_rfl) rfl #[.string a0] rfl (by (try simp only [List.map_toArray, List.map_cons, List.map_nil]); first | done | rfl | (simp only [List.length_drop, List.length_take]; rfl)) ?_; (with_reducible refine (varint_Read.calls a0 t272 t273 t274 _ A2.out).mono ?_); rintro e w9 ⟨rfl, hb⟩; refine ⟨_, rfl, ?_⟩; have n0_ := Aside0.mk (below_step (by repeat (first | (with_reducible first | exact HB.out | apply below_alloc | apply pw_below_drewN | apply below_drew1) | exact HB.out)) hb); clear HB; have HB := n0_; clear n0_; (try clear hb); (try clear hb2); (try clear hk); (try clear hi)) | ((with_reducible refine gate_dst (N := 26) rfl ?_); refine Kd.R_make0 (Kd.int .i64) _ 3 rfl (N := 26) rfl 40 _ _ rfl ji6 rfl rfl Try.underlying40 (.int .i64 0) 8 info3 rfl (by decide) (by omega) (ok := fun _ => True) (okp := fun _ => True) (fun _ hk => hk) trivial (of_decide_eq_true (by first | (with_reducible assumption) | assumption)) (Nat.le_trans (Nat.mul_le_mul_right _ (of_decide_eq_true (by first | (with_reducible assumption) | assumption) : ji6.toNat ≤ 35184372088832)) (by omega)) (Below.refl _ _) (Nat.le_refl _) ?_; intro v276 w10 ho11 hb hg_ hnew_; clear hg_ hnew_; (first | rw [← Ny275.out] at ho11 | (simp only [Int.reduceToNat] at ho11; rw [← Ny275.out] at ho11)); have n0_ := Aside0.mk (Kd.R_lower ho11 (below_size (by repeat (first | (with_reducible first | exact HB.out | apply below_alloc | apply pw_below_drewN | apply below_drew1) | exact HB.out)))); have n1_ := Aside0.mk (below_step (by repeat (first | (with_reducible first | exact HB.out | apply below_alloc | apply pw_below_drewN | apply below_drew1) | exact HB.out)) hb); clear HB; have HO277 := n0_; have HB := n1_; clear n0_ n1_; clear hb ho11))
     go_loopg [5, 7, 28] k (fun kq v5 v7 v28 w' => ∃ (x5_1 : Int) (x7_1 : List Int) (x28_1 : Int), v5 = .int .i64 x5_1 ∧ v28 = .int .i64 x28_1 ∧ Aside0 (varint_Decode.l0 kq a0 x5_1 x7_1 t272 x28_1 = some (r1, r2)) ∧ Aside0 (kq ≤ k) ∧ Aside0 (Kd.R (Kd.int .i64) 3 w' w.heap.size (fun _ => True) v7 x7_1) ∧ Aside0 (Below w.heap.size w w'))
     case atStart => exact ⟨(t273), (y275), (0), (by first | rfl | (simp; done) | (simp [*]; done)), (by first | rfl | (simp; done) | (simp [*]; done)), H', ⟨Nat.le_refl _⟩, ⟨by (with_reducible repeat (first | apply Kd.R_alloc | apply Kd.R_drewN | apply Kd.R_drew)); exact HO277.out⟩, ⟨by repeat (first | (with_reducible first | exact HB.out | apply below_alloc | apply pw_below_drewN | apply below_drew1) | exact HB.out)⟩⟩
     case round =>
      clear H'
      try clear p2
      try clear c3
      try clear c3b0
      try clear c3b1
      try clear c4
      try clear c4b0
      try clear c6
      try clear c7
      try clear c7b0
      try clear c7b1
      try clear c8
      try clear c8b0
      try clear c8b1
      obtain ⟨x5_1, x7_1, x28_1, rfl, rfl, HA, HK1, HO_7, HB⟩ := hrel
      cases gk with
      | zero => exact absurd HA.out (by simp [varint_Decode.l0])
      | succ k1 =>
       have H := HA.out
       clear HA
       simp only [varint_Decode.l0] at H
       by_cases c12 : x28_1 < t272
       ·rw [if_pos c12] at H
        have c12b0 : decide (x28_1 < t272) = true := decide_eq_true c12
        clear c12
        by_cases c13 : 0 ≤ x5_1
        ·rw [if_pos c13] at H
         have c13b0 := eq_true c13
         have c13b1 : decide (0 ≤ x5_1) = true := decide_eq_true c13
         clear c13
         by_cases c14 : x5_1 ≤ (a0.size : Int)
         ·rw [if_pos c14] at H
          have c14b0 := eq_true c14
          have c14b1 : decide (x5_1 ≤ (a0.size : Int)) = true := decide_eq_true c14
          clear c14
          replace H := Option.bind_eq_some_iff.mp H
          obtain ⟨⟨t278, t279, t280⟩, A150, H⟩ := H
          replace H : (if t280 = 0 then (if x7_1.length < 17592186044416 then (varint_Decode.l0 k1 a0 (wrap64 (x5_1 + t279)) (x7_1 ++ [t278]) t272 (wrap64 (x28_1 + 1))) else (none)) else (some (([] : List Int), t280))) = some (r1, r2) := H
          have A15 := Aside0.mk A150
          clear A150
          by_cases c16 : t280 = 0
          ·rw [if_pos c16] at H
           have c16b0 : (t280 == 0) = true := beq_iff_eq.mpr c16
           have c16b1 : (t280 != 0) = false := bne_eq_false_iff_eq.mpr c16
           clear c16
           by_cases c17 : x7_1.length < 17592186044416
           ·rw [if_pos c17] at H
            have LMc17 := Aside0.mk c17
            clear c17
            obtain ⟨y281, hy281⟩ : ∃ y_ : List Int, y_ = (x7_1 ++ [t278]) := ⟨_, rfl⟩
            replace H : (varint_Decode.l0 k1 a0 (wrap64 (x5_1 + t279)) y281 t272 (wrap64 (x28_1 + 1))) = some (r1, r2) := by first | (rw [hy281]; with_reducible exact H) | (have H2_ := (Option.bind_some _ _).symm.trans H; rw [hy281]; with_reducible exact H2_) | (have H2_ := (Option.bind_some _ _).symm.trans H; with_reducible exact H2_) | with_reducible exact H | (rw [hy281]; exact H) | exact H
            have Ny281 := Aside0.mk hy281
            clear hy281
            have H' := Aside0.mk H
            clear H
            go_wp2_with (first | ((with_reducible refine gate_callee (f := 70) rfl ?_); refine goesL_ (some 34) rfl rfl Try.func70 (by kernel_rfl) rfl #[.string (a0.extract (x5_1 : Int).toNat a0.size)] rfl (by (try simp only [List.map_toArray, List.map_cons, List.map_nil]); first | done | rfl | (simp only [List.length_drop, List.length_take]; rfl)) ?_; (with_reducible refine (varint_ReadSigned.calls (a0.extract (x5_1 : Int).toNat a0.size) t278 t279 t280 _ A15.out).mono ?_); rintro e w18 ⟨rfl, hb⟩; refine ⟨_, rfl, ?_⟩; have n0_ := Aside0.mk (Kd.R_below (by (with_reducible repeat (first | apply Kd.R_alloc | apply Kd.R_drewN | apply Kd.R_drew)); exact HO_7.out) hb); have n1_ := Aside0.mk (below_step (by repeat (first | (with_reducible first | exact HB.out | apply below_alloc | apply pw_below_drewN | apply below_drew1) | exact HB.out)) hb); clear HO_7; clear HB; have HO_7 := n0_; have HB := n1_; clear n0_ n1_; (try clear hb); (try clear hb2); (try clear hk); (try clear hi)) | ((with_reducible refine gate_builtin (b := .append) (xs := #[.tmp 41, .tmp 43]) rfl ?_); at_builtin; refine Kd.R_append (Kd.int .i64) (w0 := w) w.heap.size rfl (.tmp 41) (.tmp 43) 40 3 (.int .i64 0) 8 rfl Try.underlying40 info3 rfl (by decide) (by omega) u7 x7_1 t278 [.int .i64 t278] (fun _ => True) (fun _ => False) rfl rfl ?aP (fun _ hk => hk.elim) ?aF ?aO ?aB ?aS ?aL ?_; (case aP => exact rfl); (case aB => exact (by repeat (first | (with_reducible first | exact HB.out | apply below_alloc | apply pw_below_drewN | apply below_drew1) | exact HB.out))); (case aF => exact (fun _ _ => trivial)); (case aO => exact (by (with_reducible repeat (first | apply Kd.R_alloc | apply Kd.R_drewN | apply Kd.R_drew)); exact HO_7.out)); (case aS => exact (below_size (by repeat (first | (with_reducible first | exact HB.out | apply below_alloc | apply pw_below_drewN | apply below_drew1) | exact HB.out)))); (case aL => have := LMc17.out; omega); intro v282 w19 ho hb hg hat; rw [← Ny281.out] at ho; have n0_ := Aside0.mk (hb); have n1_ := Aside0.mk (ho); clear HB; clear HO_7; have HB := n0_; have HO283 := n1_; clear n0_ n1_; clear ho hb hg hat))
            go_roundg k1
            case measure => have := HK1.out; omega
            case rel => exact ⟨(wrap64 (x5_1 + t279)), (y281), (wrap64 (x28_1 + 1)), (by first | rfl | (simp; done) | (simp [*]; done)), (by first | rfl | (simp; done) | (simp [*]; done)), H', ⟨by have := HK1.out; omega⟩, ⟨by (with_reducible repeat (first | apply Kd.R_alloc | apply Kd.R_drewN | apply Kd.R_drew)); exact HO283.out⟩, ⟨by repeat (first | (with_reducible first | exact HB.out | apply below_alloc | apply pw_below_drewN | apply below_drew1) | exact HB.out)⟩⟩
           ·rw [if_neg c17] at H
            exact absurd H (by simp)
          ·rw [if_neg c16] at H
           have c16b0 : (t280 == 0) = false := beq_eq_false_iff_ne.mpr c16
           have c16b1 : (t280 != 0) = true := bne_iff_ne.mpr c16
           simp only [Option.some.injEq, Prod.mk.injEq] at H
           obtain ⟨rfl, rfl⟩ := H
           go_wp2_with (first | ((with_reducible refine gate_callee (f := 70) rfl ?_); refine goesL_ (some 34) rfl rfl Try.func70 (by kernel_rfl) rfl #[.string (a0.extract (x5_1 : Int).toNat a0.size)] rfl (by (try simp only [List.map_toArray, List.map_cons, List.map_nil]); first | done | rfl | (simp only [List.length_drop, List.length_take]; rfl)) ?_; (with_reducible refine (varint_ReadSigned.calls (a0.extract (x5_1 : Int).toNat a0.size) t278 t279 t280 _ A15.out).mono ?_); rintro e w20 ⟨rfl, hb⟩; refine ⟨_, rfl, ?_⟩; have n0_ := Aside0.mk (Kd.R_below (by (with_reducible repeat (first | apply Kd.R_alloc | apply Kd.R_drewN | apply Kd.R_drew)); exact HO_7.out) hb); have n1_ := Aside0.mk (below_step (by repeat (first | (with_reducible first | exact HB.out | apply below_alloc | apply pw_below_drewN | apply below_drew1) | exact HB.out)) hb); clear HO_7; clear HB; have HO_7 := n0_; have HB := n1_; clear n0_ n1_; (try clear hb); (try clear hb2); (try clear hk); (try clear hi)))
           go_ret2
           exact ⟨_, by first | rfl | (simp [errW_none, errW_some] <;> rfl) | (simp only [← hji6]; first | rfl | (simp [errW_none, errW_some] <;> rfl)) | (simp [*, errW_none, errW_some] <;> rfl), by first | exact Kd.R_nil _ _ _ _ _ | exact Kd.N_nil _ _ _ _ _ | exact Kd.V_nil _ _ _ _ _ | exact Kd.Q_nil _ _ _ _ _ | exact Kd.S_nil _ _ _ _ _, by repeat (first | (with_reducible first | exact HB.out | apply below_alloc | apply pw_below_drewN | apply below_drew1) | exact HB.out)⟩
         ·rw [if_neg c14] at H
          exact absurd H (by simp)
        ·rw [if_neg c13] at H
         exact absurd H (by simp)
       ·rw [if_neg c12] at H
        have c12b0 : decide (x28_1 < t272) = false := decide_eq_false c12
        clear c12
        by_cases c21 : x5_1 = (a0.size : Int)
        ·rw [if_pos c21] at H
         have c21b0 : (x5_1 == (a0.size : Int)) = true := beq_iff_eq.mpr c21
         have c21b1 : (x5_1 != (a0.size : Int)) = false := bne_eq_false_iff_eq.mpr c21
         clear c21
         simp only [Option.some.injEq, Prod.mk.injEq] at H
         obtain ⟨rfl, rfl⟩ := H
         go_wp2
         go_ret2
         exact ⟨_, by first | rfl | (simp [errW_none, errW_some] <;> rfl) | (simp only [← hji6]; first | rfl | (simp [errW_none, errW_some] <;> rfl)) | (simp [*, errW_none, errW_some] <;> rfl), by (with_reducible repeat (first | apply Kd.R_alloc | apply Kd.R_drewN | apply Kd.R_drew)); exact HO_7.out, by repeat (first | (with_reducible first | exact HB.out | apply below_alloc | apply pw_below_drewN | apply below_drew1) | exact HB.out)⟩
        ·rw [if_neg c21] at H
         have c21b0 : (x5_1 == (a0.size : Int)) = false := beq_eq_false_iff_ne.mpr c21
         have c21b1 : (x5_1 != (a0.size : Int)) = true := bne_iff_ne.mpr c21
         simp only [Option.some.injEq, Prod.mk.injEq] at H
         obtain ⟨rfl, rfl⟩ := H
         go_wp2
         go_ret2
         exact ⟨_, by first | rfl | (simp [errW_none, errW_some] <;> rfl) | (simp only [← hji6]; first | rfl | (simp [errW_none, errW_some] <;> rfl)) | (simp [*, errW_none, errW_some] <;> rfl), by first | exact Kd.R_nil _ _ _ _ _ | exact Kd.N_nil _ _ _ _ _ | exact Kd.V_nil _ _ _ _ _ | exact Kd.Q_nil _ _ _ _ _ | exact Kd.S_nil _ _ _ _ _, by repeat (first | (with_reducible first | exact HB.out | apply below_alloc | apply pw_below_drewN | apply below_drew1) | exact HB.out)⟩
    ·rw [if_neg c8] at H
     exact absurd H (by simp)
   ·rw [if_neg c7] at H
    exact absurd H (by simp)
 ·rw [if_neg c3] at H
  have c3b0 : (t274 == 0) = false := beq_eq_false_iff_ne.mpr c3
  have c3b1 : (t274 != 0) = true := bne_iff_ne.mpr c3
  simp only [Option.some.injEq, Prod.mk.injEq] at H
  obtain ⟨rfl, rfl⟩ := H
  go_enter Try.func42, Try.ntmps42
  go_wp2_with (first | ((with_reducible refine gate_callee (f := 69) rfl ?_); refine goesL_ (some 13) rfl rfl Try.func69 (by kernel_rfl) rfl #[.string a0] rfl (by (try simp only [List.map_toArray, List.map_cons, List.map_nil]); first | done | rfl | (simp only [List.length_drop, List.length_take]; rfl)) ?_; (with_reducible refine (varint_Read.calls a0 t272 t273 t274 _ A2.out).mono ?_); rintro e w22 ⟨rfl, hb⟩; refine ⟨_, rfl, ?_⟩; have n0_ := Aside0.mk (below_step (by repeat (first | (with_reducible first | exact HB.out | apply below_alloc | apply pw_below_drewN | apply below_drew1) | exact HB.out)) hb); clear HB; have HB := n0_; clear n0_; (try clear hb); (try clear hb2); (try clear hk); (try clear hi)))
  go_ret2
  exact ⟨_, by first | rfl | (simp [errW_none, errW_some] <;> rfl) | (simp [*, errW_none, errW_some] <;> rfl), by first | exact Kd.R_nil _ _ _ _ _ | exact Kd.N_nil _ _ _ _ _ | exact Kd.V_nil _ _ _ _ _ | exact Kd.Q_nil _ _ _ _ _ | exact Kd.S_nil _ _ _ _ _, by repeat (first | (with_reducible first | exact HB.out | apply below_alloc | apply pw_below_drewN | apply below_drew1) | exact HB.out)⟩

end Go.Proofs.Ytcgimjoebkeifaa.PQ
