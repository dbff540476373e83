/- Parts of one proof, one behind the other (put together by wip/merge.py out of: HeapPure, CompPure, PureE, PureF, PureG, PureH, PQx0). No conditions beyond each theorem's own. -/
import Derived.RowKit
import Derived.Test.YtcgimjoebkeifaaProg
import Derived.Below
import Derived.Deep.Draws
import Derived.Deep.AppendLies
import Derived.Maps.AppendAt
import Derived.OwnWalk
import Derived.Laws.BytesArg
import Derived.Laws.MakeOwn
import Derived.Laws.OwnMore
import Derived.Deep.OwnRows
import Derived.Tactics
import Derived.Lib.ConvBytes
import Derived.Laws.Slices
import Derived.WalkKit
import Derived.KernelRfl
import Derived.RowKit3
import Derived.Deep.LoopGhost
import Derived.Deep.QuietTactic
import Derived.BigQuiet
import Derived.WideLaws
import Derived.Deep.DeepCutAuto
import Derived.Deep.CutBlock
import Derived.Deep.RegionHeld3
import Derived.Laws.Rows
import Derived.Lib.AppendStr
import Derived.ArgAppend
import Derived.Laws.IdiomCopy
import Derived.OrdersHeld
import Derived.Laws.BitsLemmas
import Derived.Test.YtcgimjoebkeifaaWWords
import Derived.Test.YtcgimjoebkeifaaWLast
import Derived.Test.YtcgimjoebkeifaaWTab
import Derived.Test.YtcgimjoebkeifaaWFour
import Derived.Test.YtcgimjoebkeifaaWQPut
import Derived.Test.YtcgimjoebkeifaaWApart
import Derived.Test.YtcgimjoebkeifaaWArr
import Derived.Test.YtcgimjoebkeifaaWZeros
import Derived.Test.YtcgimjoebkeifaaWFoot
import Derived.Test.YtcgimjoebkeifaaWKept
import Derived.Test.YtcgimjoebkeifaaWShare
import Derived.Test.YtcgimjoebkeifaaWN
import Derived.Test.YtcgimjoebkeifaaWFootNe
import Derived.Test.YtcgimjoebkeifaaWAt
import Derived.Test.YtcgimjoebkeifaaWEqStruct
import Derived.Test.YtcgimjoebkeifaaWRepsOne
import Derived.Test.YtcgimjoebkeifaaWInv
import Derived.Test.YtcgimjoebkeifaaWInvWords
import Derived.Test.YtcgimjoebkeifaaWGuard
import Derived.Test.YtcgimjoebkeifaaWNEv
import Derived.Test.YtcgimjoebkeifaaWMore
import Derived.Test.YtcgimjoebkeifaaMk
/- The lists that a binary heap's steps (up, down) make, as plain functions; no program in sight. No conditions. -/
namespace Go.Proofs.QHeap

def swapL (L : List Int) (i j : Nat) : List Int := (L.set i (L.getD j 0)).set j (L.getD i 0)
theorem swapL_length (L : List Int) (i j : Nat) : (swapL L i j).length = L.length := by simp [swapL]

def upL : Nat → List Int → Nat → List Int
  | 0, L, _ => L
  | k + 1, L, j => if (j - 1) / 2 = j then L else if L.getD ((j - 1) / 2) 0 < L.getD j 0 then upL k (swapL L ((j - 1) / 2) j) ((j - 1) / 2) else L
theorem upL_more : ∀ (k m : Nat) (L : List Int) (j : Nat), j < k → j < m → upL k L j = upL m L j
  | 0, _, _, _, h, _ => by omega
  | _ + 1, 0, _, _, _, h => by omega
  | k + 1, m + 1, L, j, hk, hm => by
    unfold upL
    by_cases h : (j - 1) / 2 = j
    · rw [if_pos h, if_pos h]
    · rw [if_neg h, if_neg h, upL_more k m _ _ (by omega) (by omega)]
def upF (L : List Int) (j : Nat) : List Int := upL (j + 1) L j
theorem upF_top (L : List Int) (j : Nat) (h : (j - 1) / 2 = j) : upF L j = L := by unfold upF upL; rw [if_pos h]
theorem upF_stay (L : List Int) (j : Nat) (h : ¬ L.getD ((j - 1) / 2) 0 < L.getD j 0) : upF L j = L := by
  unfold upF upL
  by_cases h0 : (j - 1) / 2 = j
  · rw [if_pos h0]
  · rw [if_neg h0, if_neg h]
theorem upF_go (L : List Int) (j : Nat) (h0 : ¬ (j - 1) / 2 = j) (h : L.getD ((j - 1) / 2) 0 < L.getD j 0) : upF L j = upF (swapL L ((j - 1) / 2) j) ((j - 1) / 2) := by
  conv => lhs; unfold upF upL
  rw [if_neg h0, if_pos h]
  exact upL_more _ _ _ _ (by omega) (by omega)
theorem upF_length (L : List Int) (j : Nat) : (upF L j).length = L.length := by
  have key : ∀ k L j, (upL k L j).length = L.length := by
    intro k
    induction k with
    | zero => intro L j; rfl
    | succ k ih =>
      intro L j
      unfold upL
      split
      · rfl
      · split
        · rw [ih, swapL_length]
        · rfl
  exact key _ _ _

/-- The greater child's place. -/
def kid (L : List Int) (i n : Nat) : Nat := if 2 * i + 2 < n ∧ L.getD (2 * i + 1) 0 < L.getD (2 * i + 2) 0 then 2 * i + 2 else 2 * i + 1
theorem kid_lt (L : List Int) (i n : Nat) (h : 2 * i + 1 < n) : kid L i n < n ∧ i < kid L i n := by unfold kid; split <;> omega
def downL : Nat → List Int → Nat → Nat → List Int
  | 0, L, _, _ => L
  | k + 1, L, i, n => if n ≤ 2 * i + 1 then L else if L.getD i 0 < L.getD (kid L i n) 0 then downL k (swapL L i (kid L i n)) (kid L i n) n else L
theorem downL_more : ∀ (k m : Nat) (L : List Int) (i n : Nat), n - i < k → n - i < m → downL k L i n = downL m L i n
  | 0, _, _, _, _, h, _ => by omega
  | _ + 1, 0, _, _, _, _, h => by omega
  | k + 1, m + 1, L, i, n, hk, hm => by
    unfold downL
    by_cases h : n ≤ 2 * i + 1
    · rw [if_pos h, if_pos h]
    · have hl := kid_lt L i n (by omega)
      rw [if_neg h, if_neg h, downL_more k m _ _ _ (by omega) (by omega)]
def dnF (L : List Int) (i n : Nat) : List Int := downL (n + 1) L i n
theorem dnF_leaf (L : List Int) (i n : Nat) (h : n ≤ 2 * i + 1) : dnF L i n = L := by unfold dnF downL; rw [if_pos h]
theorem dnF_stay (L : List Int) (i n : Nat) (h : ¬ L.getD i 0 < L.getD (kid L i n) 0) : dnF L i n = L := by
  unfold dnF downL
  by_cases h0 : n ≤ 2 * i + 1
  · rw [if_pos h0]
  · rw [if_neg h0, if_neg h]
theorem dnF_go (L : List Int) (i n : Nat) (h0 : 2 * i + 1 < n) (h : L.getD i 0 < L.getD (kid L i n) 0) : dnF L i n = dnF (swapL L i (kid L i n)) (kid L i n) n := by
  conv => lhs; unfold dnF downL
  have hl := kid_lt L i n h0
  rw [if_neg (by omega), if_pos h]
  exact downL_more _ _ _ _ _ (by omega) (by omega)
theorem dnF_length (L : List Int) (i n : Nat) : (dnF L i n).length = L.length := by
  have key : ∀ k L i n, (downL k L i n).length = L.length := by
    intro k
    induction k with
    | zero => intro L i n; rfl
    | succ k ih =>
      intro L i n
      unfold downL
      split
      · rfl
      · split
        · rw [ih, swapL_length]
        · rfl
  exact key _ _ _ _

/-- heap.Init: down from each parent, the last one first. -/
def initL (n : Nat) : Nat → List Int → List Int
  | 0, L => L
  | i + 1, L => initL n i (dnF L i n)
theorem initL_length (n : Nat) : ∀ (i : Nat) (L : List Int), (initL n i L).length = L.length
  | 0, _ => rfl
  | i + 1, L => by unfold initL; rw [initL_length n i, dnF_length]
def heapInit (L : List Int) : List Int := initL L.length (L.length / 2) L
/-- heap.Pop: the greatest, and what is left. -/
def popL (L : List Int) : List Int := dnF (swapL L 0 (L.length - 1)) 0 (L.length - 1)
def popV (L : List Int) : Int := (popL L).getD (L.length - 1) 0
def popR (L : List Int) : List Int := (popL L).take (L.length - 1)
theorem popL_length (L : List Int) : (popL L).length = L.length := by unfold popL; rw [dnF_length, swapL_length]
theorem popR_length (L : List Int) : (popR L).length = L.length - 1 := by unfold popR; rw [List.length_take, popL_length]; omega
def pushL (L : List Int) (x : Int) : List Int := upF (L ++ [x]) L.length
theorem pushL_length (L : List Int) (x : Int) : (pushL L x).length = L.length + 1 := by unfold pushL; rw [upF_length]; simp

end Go.Proofs.QHeap

/- qdigest.Compress as a plain function: a map as a list of pairs, the heap as a list, a number of rounds; no program in sight. No conditions. -/
namespace Go.Proofs.QComp
open Go.Proofs.QHeap
abbrev Cs := List (Int × Int)
def get (cs : Cs) (k : Int) : Int := (cs.lookup k).getD 0
def del (cs : Cs) (k : Int) : Cs := cs.filter (fun p => p.1 != k)
def put (cs : Cs) (k v : Int) : Cs := (k, v) :: del cs k

theorem lookup_del_same (cs : Cs) (k : Int) : (del cs k).lookup k = none := by
  induction cs with
  | nil => rfl
  | cons p cs ih =>
    unfold del at ih ⊢
    rw [List.filter_cons]
    by_cases h : p.1 = k
    · rw [if_neg (by simp [h])]; exact ih
    · rw [if_pos (by simpa using h)]
      obtain ⟨a, b⟩ := p
      rw [List.lookup_cons]
      have : (k == a) = false := by simpa using fun e => h e.symm
      rw [this]
      exact ih
theorem lookup_del_other (cs : Cs) (k j : Int) (hne : j ≠ k) : (del cs k).lookup j = cs.lookup j := by
  induction cs with
  | nil => rfl
  | cons p cs ih =>
    unfold del at ih ⊢
    obtain ⟨a, b⟩ := p
    rw [List.filter_cons]
    by_cases h : a = k
    · rw [if_neg (by simp [h]), List.lookup_cons]
      have : (j == a) = false := by simpa using fun e => hne (e.trans h)
      rw [this]
      exact ih
    · rw [if_pos (by simpa using h), List.lookup_cons, List.lookup_cons, ih]
theorem lookup_put_same (cs : Cs) (k v : Int) : (put cs k v).lookup k = some v := by simp [put]
theorem lookup_put_other (cs : Cs) (k v j : Int) (hne : j ≠ k) : (put cs k v).lookup j = cs.lookup j := by
  unfold put
  rw [List.lookup_cons]
  have : (j == k) = false := by simpa using hne
  rw [this]
  exact lookup_del_other cs k j hne
theorem mem_del {cs : Cs} {k : Int} {p : Int × Int} : p ∈ del cs k ↔ p ∈ cs ∧ p.1 ≠ k := by simp [del]
def keys (cs : Cs) : List Int := cs.map (·.1)
theorem keys_del_sub (cs : Cs) (k : Int) : (keys (del cs k)).Sublist (keys cs) := by
  unfold keys del
  exact List.Sublist.map _ List.filter_sublist
theorem nodup_del {cs : Cs} (h : (keys cs).Nodup) (k : Int) : (keys (del cs k)).Nodup := h.sublist (keys_del_sub cs k)
theorem nodup_put {cs : Cs} (h : (keys cs).Nodup) (k v : Int) : (keys (put cs k v)).Nodup := by
  unfold put keys
  rw [List.map_cons, List.nodup_cons]
  refine ⟨?_, nodup_del h k⟩
  intro hm
  obtain ⟨p, hp, he⟩ := List.mem_map.1 hm
  exact (mem_del.1 hp).2 he
theorem lookup_mem {cs : Cs} (h : (keys cs).Nodup) {k v : Int} : cs.lookup k = some v ↔ (k, v) ∈ cs := by
  induction cs with
  | nil => simp
  | cons p cs ih =>
    obtain ⟨a, b⟩ := p
    unfold keys at h ih
    rw [List.map_cons, List.nodup_cons] at h
    rw [List.lookup_cons, List.mem_cons]
    by_cases e : k = a
    · subst e
      simp only [beq_self_eq_true]
      constructor
      · intro hh; injection hh with hh; subst hh; exact .inl rfl
      · rintro (hh | hh)
        · injection hh with _ hh; rw [hh]
        · exact absurd (List.mem_map.2 ⟨_, hh, rfl⟩) h.1
    · have : (k == a) = false := by simpa using e
      rw [this]
      show List.lookup k cs = some v ↔ _
      rw [ih h.2]
      constructor
      · exact .inr
      · rintro (hh | hh)
        · injection hh with hh _; exact absurd hh e
        · exact hh
theorem lookup_isSome_iff {cs : Cs} {k : Int} : (cs.lookup k).isSome = true ↔ k ∈ keys cs := by
  induction cs with
  | nil => simp [keys]
  | cons p cs ih =>
    obtain ⟨a, b⟩ := p
    unfold keys at ih ⊢
    rw [List.lookup_cons, List.map_cons, List.mem_cons]
    by_cases e : k = a
    · subst e; simp
    · have : (k == a) = false := by simpa using e
      rw [this]
      simp only [e, false_or]
      exact ih

/-- The nodes into the map, their parents into the heap's list. -/
def fillS : List (Int × Int) → Cs → List Int → Cs × List Int
  | [], cs, td => (cs, td)
  | p :: xs, cs, td => fillS xs (put cs p.1 p.2) (if 1 < p.1 then td ++ [p.1 / 2] else td)
theorem fillS_append (xs ys : List (Int × Int)) (cs : Cs) (td : List Int) : fillS (xs ++ ys) cs td = fillS ys (fillS xs cs td).1 (fillS xs cs td).2 := by
  induction xs generalizing cs td with
  | nil => rfl
  | cons p xs ih => simp only [List.cons_append, fillS, ih]
theorem fillS_td_len (xs : List (Int × Int)) (cs : Cs) (td : List Int) : (fillS xs cs td).2.length ≤ td.length + xs.length := by
  induction xs generalizing cs td with
  | nil => simp [fillS]
  | cons p xs ih =>
    unfold fillS
    refine Nat.le_trans (ih _ _) ?_
    split <;> simp <;> omega
theorem fillS_cs_len (xs : List (Int × Int)) (cs : Cs) (td : List Int) : (fillS xs cs td).1.length ≤ cs.length + xs.length := by
  induction xs generalizing cs td with
  | nil => simp [fillS]
  | cons p xs ih =>
    unfold fillS
    refine Nat.le_trans (ih _ _) ?_
    have : (put cs p.1 p.2).length ≤ cs.length + 1 := by
      unfold put del
      have := List.length_filter_le (fun q : Int × Int => q.1 != p.1) cs
      simp only [List.length_cons]
      omega
    simp only [List.length_cons]
    omega

/-- A number that is a small key, and what its triple counts. -/
def Fine (cs : Cs) (m : Int) : Prop := (0 ≤ m ∧ m ≤ 1099511627776) ∧ (0 ≤ get cs m ∧ get cs m ≤ 1125899906842624) ∧ (0 ≤ get cs (2 * m) ∧ get cs (2 * m) ≤ 1125899906842624) ∧ (0 ≤ get cs (2 * m + 1) ∧ get cs (2 * m + 1) ≤ 1125899906842624)
instance (cs : Cs) (m : Int) : Decidable (Fine cs m) := by unfold Fine; exact inferInstance
def Small (cs : Cs) (td : List Int) : Prop := td.length ≤ 1073741824 ∧ cs.length ≤ 1073741824
instance (cs : Cs) (td : List Int) : Decidable (Small cs td) := by unfold Small; exact inferInstance

def kids (cs : Cs) (m : Int) : Int := get cs (2 * m) + get cs (2 * m + 1)
/-- The triple's counts go into the node m. -/
def merged (cs : Cs) (m : Int) : Cs := del (del (put cs m (get cs m + kids cs m)) (2 * m)) (2 * m + 1)
def todo (lim m : Int) (td : List Int) : List Int :=
  let t1 := if 2 * m < lim then pushL (pushL td (2 * m)) (2 * m + 1) else td
  if 1 < m then pushL t1 (m / 2) else t1
def loop (thr lim : Int) : Nat → Cs → List Int → Option Cs
  | 0, _, _ => none
  | k + 1, cs, td =>
    if td.length = 0 then some cs
    else if Small cs td ∧ Fine cs (popV td) then
      (if kids cs (popV td) = 0 ∨ thr < get cs (popV td) + kids cs (popV td) then loop thr lim k cs (popR td)
       else loop thr lim k (merged cs (popV td)) (todo lim (popV td) (popR td)))
    else none
theorem loop_mono (thr lim : Int) : ∀ (k : Nat) (cs : Cs) (td : List Int) (r : Cs), loop thr lim k cs td = some r → loop thr lim (k + 1) cs td = some r
  | 0, _, _, _, h => by simp [loop] at h
  | k + 1, cs, td, r, h => by
    unfold loop at h ⊢
    by_cases h0 : td.length = 0
    · rw [if_pos h0] at h ⊢; exact h
    · rw [if_neg h0] at h ⊢
      by_cases h1 : Small cs td ∧ Fine cs (popV td)
      · rw [if_pos h1] at h ⊢
        by_cases h2 : kids cs (popV td) = 0 ∨ thr < get cs (popV td) + kids cs (popV td)
        · rw [if_pos h2] at h ⊢; exact loop_mono thr lim k _ _ _ h
        · rw [if_neg h2] at h ⊢; exact loop_mono thr lim k _ _ _ h
      · rw [if_neg h1] at h; cases h

/-- In the order of the ids. -/
def sorted (cs : Cs) : Cs := cs.mergeSort (fun x y => decide (x.1 ≤ y.1))
/-- The nodes are such that the walk's bounds hold. -/
def Okay (xs : List (Int × Int)) : Prop := xs.length ≤ 1073741824 ∧ ∀ p ∈ xs, (0 ≤ p.1 ∧ p.1 ≤ 1099511627776) ∧ (0 ≤ p.2 ∧ p.2 ≤ 1125899906842624)
instance (xs : List (Int × Int)) : Decidable (Okay xs) := by unfold Okay; exact inferInstance
def Keyed (cs : Cs) : Prop := ∀ p ∈ cs, (0 ≤ p.1 ∧ p.1 ≤ 1099511627776) ∧ (0 ≤ p.2 ∧ p.2 ≤ 1125899906842624)
instance (cs : Cs) : Decidable (Keyed cs) := by unfold Keyed; exact inferInstance
/-- The compressed nodes. -/
def comp (k : Nat) (bits K count : Int) (xs : List (Int × Int)) : Option Cs :=
  if (1 ≤ bits ∧ bits ≤ 40) ∧ (1 ≤ K ∧ K ≤ 1099511627776) ∧ (0 ≤ count ∧ count ≤ 1125899906842624) ∧ Okay xs then
    (loop (count / K) (2 ^ bits.toNat) k (fillS xs [] []).1 (heapInit (fillS xs [] []).2)).bind fun cs => if Keyed cs ∧ cs.length ≤ 1000000 then some (sorted cs) else none
  else none
theorem comp_mono (k : Nat) (bits K count : Int) (xs : List (Int × Int)) (r : Cs) (h : comp k bits K count xs = some r) : comp (k + 1) bits K count xs = some r := by
  unfold comp at h ⊢
  by_cases h0 : (1 ≤ bits ∧ bits ≤ 40) ∧ (1 ≤ K ∧ K ≤ 1099511627776) ∧ (0 ≤ count ∧ count ≤ 1125899906842624) ∧ Okay xs
  · rw [if_pos h0] at h ⊢
    obtain ⟨cs, h1, h2⟩ := Option.bind_eq_some_iff.1 h
    rw [loop_mono _ _ _ _ _ _ h1]
    exact h2
  · rw [if_neg h0] at h; cases h
end Go.Proofs.QComp

/- The heap's steps move what is in the list, no more. No conditions. -/
namespace Go.Proofs.QHeap
theorem swapL_perm (L : List Int) (i j : Nat) (hi : i < L.length) (hj : j < L.length) : (swapL L i j).Perm L := by
  unfold swapL
  have e1 : L.getD j 0 = L[j] := by simp [List.getD_eq_getElem?_getD, hj]
  have e2 : L.getD i 0 = L[i] := by simp [List.getD_eq_getElem?_getD, hi]
  rw [e1, e2]
  exact List.set_set_perm hi hj
theorem upL_perm : ∀ (k : Nat) (L : List Int) (j : Nat), j < L.length → (upL k L j).Perm L
  | 0, L, _, _ => List.Perm.refl L
  | k + 1, L, j, h => by
    unfold upL
    split
    · exact List.Perm.refl L
    · split
      · exact (upL_perm k _ _ (by rw [swapL_length]; omega)).trans (swapL_perm L _ _ (by omega) h)
      · exact List.Perm.refl L
theorem pushL_perm (L : List Int) (x : Int) : (pushL L x).Perm (x :: L) := by
  unfold pushL upF
  refine (upL_perm _ _ _ (by simp)).trans ?_
  exact List.perm_append_comm (l₁ := L) (l₂ := [x])
theorem downL_perm : ∀ (k : Nat) (L : List Int) (i n : Nat), n ≤ L.length → i < L.length → (downL k L i n).Perm L
  | 0, L, _, _, _, _ => List.Perm.refl L
  | k + 1, L, i, n, h, hi => by
    unfold downL
    split
    · exact List.Perm.refl L
    · rename_i h1
      have hl := kid_lt L i n (by omega)
      split
      · exact (downL_perm k _ _ _ (by rw [swapL_length]; exact h) (by rw [swapL_length]; omega)).trans (swapL_perm L _ _ hi (by omega))
      · exact List.Perm.refl L
theorem dnF_perm (L : List Int) (i n : Nat) (h : n ≤ L.length) (hi : i < L.length) : (dnF L i n).Perm L := downL_perm _ _ _ _ h hi
theorem initL_perm (n : Nat) : ∀ (i : Nat) (L : List Int), n ≤ L.length → i ≤ L.length → (initL n i L).Perm L
  | 0, L, _, _ => List.Perm.refl L
  | i + 1, L, h, hi => by
    unfold initL
    exact (initL_perm n i _ (by rw [dnF_length]; exact h) (by rw [dnF_length]; omega)).trans (dnF_perm L i n h (by omega))
theorem heapInit_perm (L : List Int) : (heapInit L).Perm L := initL_perm _ _ L (Nat.le_refl _) (by omega)
theorem popL_perm (L : List Int) (h : L.length ≠ 0) : (popL L).Perm L := by
  unfold popL
  exact (dnF_perm _ _ _ (by rw [swapL_length]; omega) (by rw [swapL_length]; omega)).trans (swapL_perm L _ _ (by omega) (by omega))
/-- What pop takes out, and what is left. -/
theorem pop_perm (L : List Int) (h : L.length ≠ 0) : (popV L :: popR L).Perm L := by
  refine List.Perm.trans ?_ (popL_perm L h)
  have hl := popL_length L
  unfold popV popR
  generalize popL L = M at *
  have hi : L.length - 1 < M.length := by omega
  have e : M.getD (L.length - 1) 0 = M[L.length - 1] := by simp [List.getD_eq_getElem?_getD, hi]
  rw [e]
  refine (List.perm_append_comm (l₁ := [M[L.length - 1]]) (l₂ := M.take (L.length - 1))).trans ?_
  have e2 : M.take (L.length - 1) ++ [M[L.length - 1]] = M := by
    rw [← List.take_succ_eq_append_getElem hi, show L.length - 1 + 1 = M.length from by omega, List.take_length]
  rw [e2]
end Go.Proofs.QHeap

/- Compress in plain numbers: sums over a map, and what one step of the loop does to them. No conditions. -/
namespace Go.Proofs.QComp
open Go.Proofs.QHeap
def wsum (h : Int → Int → Int) : Cs → Int
  | [] => 0
  | p :: cs => h p.1 p.2 + wsum h cs
theorem wsum_perm (h : Int → Int → Int) {a b : Cs} (hp : a.Perm b) : wsum h a = wsum h b := by
  induction hp with
  | nil => rfl
  | cons x _ ih => simp only [wsum, ih]
  | swap x y l => simp only [wsum]; omega
  | trans _ _ h1 h2 => exact h1.trans h2
theorem del_none {cs : Cs} {k : Int} (h : k ∉ keys cs) : del cs k = cs := by
  unfold del
  rw [List.filter_eq_self]
  intro p hp
  have : p.1 ≠ k := fun e => h (by unfold keys; exact List.mem_map.2 ⟨p, hp, e⟩)
  simpa using this
theorem lookup_none {cs : Cs} {k : Int} (h : k ∉ keys cs) : cs.lookup k = none := by
  cases hl : cs.lookup k with
  | none => rfl
  | some v => exact absurd (lookup_isSome_iff.1 (by rw [hl]; rfl)) h
/-- What goes when a key is deleted. -/
def gone (h : Int → Int → Int) (cs : Cs) (k : Int) : Int := match cs.lookup k with | some v => h k v | none => 0
theorem wsum_del (h : Int → Int → Int) (k : Int) : ∀ (cs : Cs), (keys cs).Nodup → wsum h cs = wsum h (del cs k) + gone h cs k
  | [], _ => by simp [wsum, del, gone]
  | p :: cs, hn => by
    obtain ⟨a, v⟩ := p
    unfold keys at hn
    rw [List.map_cons, List.nodup_cons] at hn
    have ih := wsum_del h k cs hn.2
    unfold gone at ih ⊢
    unfold del at ih ⊢
    rw [List.filter_cons, List.lookup_cons]
    by_cases e : a = k
    · subst e
      rw [if_neg (by simp)]
      simp only [beq_self_eq_true]
      have : del cs a = cs := del_none hn.1
      unfold del at this
      rw [this]
      simp only [wsum]
      omega
    · have : (k == a) = false := by simpa using fun e2 => e e2.symm
      rw [if_pos (by simpa using e), this]
      simp only [wsum]
      omega
theorem gone_get {h : Int → Int → Int} (h0 : ∀ k, h k 0 = 0) (cs : Cs) (k : Int) : gone h cs k = h k (get cs k) := by
  unfold gone get
  cases cs.lookup k with
  | none => simp [h0]
  | some v => rfl
theorem wsum_put (h : Int → Int → Int) (cs : Cs) (k v : Int) : wsum h (put cs k v) = h k v + wsum h (del cs k) := rfl
theorem get_put_same (cs : Cs) (k v : Int) : get (put cs k v) k = v := by unfold get; rw [lookup_put_same]; rfl
theorem get_put_other (cs : Cs) (k v j : Int) (h : j ≠ k) : get (put cs k v) j = get cs j := by unfold get; rw [lookup_put_other _ _ _ _ h]
theorem get_del_same (cs : Cs) (k : Int) : get (del cs k) k = 0 := by unfold get; rw [lookup_del_same]; rfl
theorem get_del_other (cs : Cs) (k j : Int) (h : j ≠ k) : get (del cs k) j = get cs j := by unfold get; rw [lookup_del_other _ _ _ h]
theorem nodup_merged {cs : Cs} (h : (keys cs).Nodup) (m : Int) : (keys (merged cs m)).Nodup := nodup_del (nodup_del (nodup_put h _ _) _) _
theorem get_merged (cs : Cs) {m : Int} (h1 : 1 ≤ m) (x : Int) : get (merged cs m) x = if x = 2 * m ∨ x = 2 * m + 1 then 0 else if x = m then get cs m + kids cs m else get cs x := by
  unfold merged
  by_cases e2 : x = 2 * m + 1
  · subst e2
    rw [get_del_same, if_pos (.inr rfl)]
  · rw [get_del_other _ _ _ e2]
    by_cases e1 : x = 2 * m
    · subst e1
      rw [get_del_same, if_pos (.inl rfl)]
    · rw [get_del_other _ _ _ e1, if_neg (by omega)]
      by_cases e : x = m
      · subst e
        rw [get_put_same, if_pos rfl]
      · rw [get_put_other _ _ _ _ e, if_neg e]
theorem gone_other {h : Int → Int → Int} {a b : Cs} {k : Int} (e : a.lookup k = b.lookup k) : gone h a k = gone h b k := by unfold gone; rw [e]
/-- A sum behind one step. -/
theorem wsum_merged (h : Int → Int → Int) {cs : Cs} (hn : (keys cs).Nodup) {m : Int} (h1 : 1 ≤ m) :
    wsum h (merged cs m) = wsum h cs - gone h cs m + h m (get cs m + kids cs m) - gone h cs (2 * m) - gone h cs (2 * m + 1) := by
  have n1 := nodup_put hn m (get cs m + kids cs m)
  have n2 := nodup_del n1 (2 * m)
  have a1 := wsum_del h m cs hn
  have a2 := wsum_put h cs m (get cs m + kids cs m)
  have a3 := wsum_del h (2 * m) _ n1
  have a4 := wsum_del h (2 * m + 1) _ n2
  rw [gone_other (lookup_put_other cs m _ (2 * m) (by omega))] at a3
  rw [gone_other ((lookup_del_other _ (2 * m) (2 * m + 1) (by omega)).trans (lookup_put_other cs m _ (2 * m + 1) (by omega)))] at a4
  unfold merged
  omega
/-- The state of a compression. -/
structure Inv (p thr c : Int) (cs : Cs) : Prop where
  nd : (keys cs).Nodup
  ent : ∀ q ∈ cs, 1 ≤ q.1 ∧ q.1 < 2 * p ∧ 1 ≤ q.2 ∧ (q.1 < p → q.2 ≤ thr)
  sum : wsum (fun _ v => v) cs = c
theorem mem_le_sum : ∀ (cs : Cs), (∀ q ∈ cs, 0 ≤ q.2) → 0 ≤ wsum (fun _ v => v) cs ∧ ∀ q ∈ cs, q.2 ≤ wsum (fun _ v => v) cs
  | [], _ => ⟨Int.le_refl _, fun q hq => by simp at hq⟩
  | p :: cs, h => by
    obtain ⟨h1, h2⟩ := mem_le_sum cs (fun q hq => h q (List.mem_cons_of_mem _ hq))
    have h3 := h p (List.mem_cons_self ..)
    simp only [wsum]
    refine ⟨by omega, fun q hq => ?_⟩
    rcases List.mem_cons.1 hq with rfl | hq
    · omega
    · have := h2 q hq; omega
section
variable {p thr c : Int} {cs : Cs}
theorem get_zero_or (hI : Inv p thr c cs) (k : Int) : get cs k = 0 ∨ ((k, get cs k) ∈ cs) := by
  unfold get
  cases hl : cs.lookup k with
  | none => exact .inl rfl
  | some v => exact .inr ((lookup_mem hI.nd).1 hl)
theorem Inv.get (hI : Inv p thr c cs) (k : Int) : 0 ≤ get cs k ∧ get cs k ≤ c ∧ (get cs k ≠ 0 → 1 ≤ k ∧ k < 2 * p) := by
  obtain ⟨h1, h2⟩ := mem_le_sum cs (fun q hq => by have := (hI.ent q hq).2.2.1; omega)
  rw [hI.sum] at h1 h2
  rcases get_zero_or hI k with h | h
  · rw [h]; exact ⟨Int.le_refl _, h1, fun h => absurd rfl h⟩
  · have := hI.ent _ h
    have := h2 _ h
    simp only at *
    exact ⟨by omega, by omega, fun _ => by omega⟩
/-- A node that still takes its children. -/
def Cand (thr : Int) (cs : Cs) (m : Int) : Prop := 1 ≤ m ∧ kids cs m ≠ 0 ∧ Go.Proofs.QComp.get cs m + kids cs m ≤ thr
theorem Inv.merged (hI : Inv p thr c cs) {m : Int} (h : Cand thr cs m) : Inv p thr c (merged cs m) := by
  obtain ⟨h1, h2, h3⟩ := h
  have g0 := hI.get m
  have g1 := hI.get (2 * m)
  have g2 := hI.get (2 * m + 1)
  have hk : 1 ≤ kids cs m := by unfold kids at h2 ⊢; omega
  have hmp : m < p := by
    unfold kids at h2
    by_cases e : Go.Proofs.QComp.get cs (2 * m) = 0
    · have := g2.2.2 (by omega); omega
    · have := g1.2.2 e; omega
  refine ⟨nodup_merged hI.nd m, fun q hq => ?_, ?_⟩
  · unfold QComp.merged at hq
    have hq1 := (mem_del.1 (mem_del.1 hq).1).1
    unfold put at hq1
    rcases List.mem_cons.1 hq1 with rfl | hq1
    · simp only
      exact ⟨h1, by omega, by omega, fun _ => h3⟩
    · exact hI.ent q (mem_del.1 hq1).1
  · rw [wsum_merged _ hI.nd h1, gone_get (fun _ => rfl), gone_get (fun _ => rfl), gone_get (fun _ => rfl), hI.sum]
    unfold kids
    omega
/-- What a rank counts. -/
def rk (ed : Int → Int) (v : Int) (k n : Int) : Int := if ed k ≤ v then n else 0
/-- What the ranks' sums do. -/
theorem wsum_step (hI : Inv p thr c cs) {m : Int} (h : Cand thr cs m) (ed : Int → Int) (v : Int) :
    ((∀ id, (id = 2 * m ∨ id = 2 * m + 1) → id < 2 * p → ed id ≤ ed m) → wsum (rk ed v) (QComp.merged cs m) ≤ wsum (rk ed v) cs) ∧
    ((∀ id, (id = 2 * m ∨ id = 2 * m + 1) → id < 2 * p → ed m ≤ ed id) → wsum (rk ed v) cs ≤ wsum (rk ed v) (QComp.merged cs m)) := by
  have g1 := hI.get (2 * m)
  have g2 := hI.get (2 * m + 1)
  have h0 : ∀ k, rk ed v k 0 = 0 := fun k => by simp [rk]
  rw [wsum_merged _ hI.nd h.1, gone_get h0, gone_get h0, gone_get h0]
  generalize wsum (rk ed v) cs = S
  unfold kids rk
  generalize QComp.get cs m = a at *
  generalize QComp.get cs (2 * m) = b1 at *
  generalize QComp.get cs (2 * m + 1) = b2 at *
  constructor
  · intro hed
    have e1 : b1 = 0 ∨ ed (2 * m) ≤ ed m := by
      by_cases e : b1 = 0
      · exact .inl e
      · exact .inr (hed _ (.inl rfl) (g1.2.2 e).2)
    have e2 : b2 = 0 ∨ ed (2 * m + 1) ≤ ed m := by
      by_cases e : b2 = 0
      · exact .inl e
      · exact .inr (hed _ (.inr rfl) (g2.2.2 e).2)
    repeat' split
    all_goals omega
  · intro hed
    have e1 : b1 = 0 ∨ ed m ≤ ed (2 * m) := by
      by_cases e : b1 = 0
      · exact .inl e
      · exact .inr (hed _ (.inl rfl) (g1.2.2 e).2)
    have e2 : b2 = 0 ∨ ed m ≤ ed (2 * m + 1) := by
      by_cases e : b2 = 0
      · exact .inl e
      · exact .inr (hed _ (.inr rfl) (g2.2.2 e).2)
    repeat' split
    all_goals omega
theorem gone_key (h : Int → Int → Int) (cs : Cs) (k : Int) (hk : QComp.get cs k ≠ 0) : ∃ v, gone h cs k = h k v := by
  unfold QComp.get at hk
  unfold gone
  cases hl : cs.lookup k with
  | none => rw [hl] at hk; exact absurd rfl hk
  | some v => exact ⟨v, rfl⟩
theorem gone_ids (hI : Inv p thr c cs) (k : Int) : 0 ≤ gone (fun k _ => k) cs k := by
  unfold gone
  cases hl : cs.lookup k with
  | none => exact Int.le_refl _
  | some v =>
    have := (hI.ent _ ((lookup_mem hI.nd).1 hl)).1
    simp only at *
    omega
theorem gone_ones (cs : Cs) (k : Int) : 0 ≤ gone (fun _ _ => 1) cs k := by
  unfold gone
  cases cs.lookup k <;> simp
/-- The ids' sum falls, and the map does not grow. -/
theorem ids_fall (hI : Inv p thr c cs) {m : Int} (h : Cand thr cs m) : wsum (fun k _ => k) (QComp.merged cs m) + 1 ≤ wsum (fun k _ => k) cs ∧ wsum (fun _ _ => 1) (QComp.merged cs m) ≤ wsum (fun _ _ => 1) cs := by
  obtain ⟨h1, h2, _⟩ := h
  rw [wsum_merged _ hI.nd h1, wsum_merged _ hI.nd h1]
  have a0 := gone_ids hI m
  have a1 := gone_ids hI (2 * m)
  have a2 := gone_ids hI (2 * m + 1)
  have b0 := gone_ones cs m
  have b1 := gone_ones cs (2 * m)
  have b2 := gone_ones cs (2 * m + 1)
  unfold kids at h2
  by_cases e : QComp.get cs (2 * m) = 0
  · have hk : QComp.get cs (2 * m + 1) ≠ 0 := by omega
    obtain ⟨v, e1⟩ := gone_key (fun k _ => k) cs _ hk
    obtain ⟨v', e2⟩ := gone_key (fun _ _ => 1) cs _ hk
    rw [e1, e2]
    constructor <;> omega
  · obtain ⟨v, e1⟩ := gone_key (fun k _ => k) cs _ e
    obtain ⟨v', e2⟩ := gone_key (fun _ _ => 1) cs _ e
    rw [e1, e2]
    constructor <;> omega
theorem wsum_ones : ∀ (cs : Cs), wsum (fun _ _ => 1) cs = cs.length
  | [] => rfl
  | p :: cs => by simp only [wsum, wsum_ones cs, List.length_cons]; omega
end
end Go.Proofs.QComp

/- Compress in plain numbers: the loop ends, and what holds then. No conditions. -/
namespace Go.Proofs.QComp
open Go.Proofs.QHeap
section
variable {p thr c : Int}
theorem ids_nonneg : ∀ (cs : Cs), (∀ q ∈ cs, 1 ≤ q.1) → 0 ≤ wsum (fun k _ => k) cs
  | [], _ => Int.le_refl _
  | q :: cs, h => by
    have h1 := ids_nonneg cs (fun x hx => h x (List.mem_cons_of_mem _ hx))
    have h2 := h q (List.mem_cons_self ..)
    simp only [wsum]
    omega
theorem todo_len (lim m : Int) (td : List Int) : (todo lim m td).length ≤ td.length + 3 := by
  unfold todo
  simp only
  split <;> split
  all_goals (try simp only [pushL_length])
  all_goals omega
theorem mem_todo (lim m : Int) (td : List Int) (x : Int) : x ∈ todo lim m td ↔ x ∈ td ∨ (2 * m < lim ∧ (x = 2 * m ∨ x = 2 * m + 1)) ∨ (1 < m ∧ x = m / 2) := by
  have push : ∀ (l : List Int) (y : Int), x ∈ pushL l y ↔ x = y ∨ x ∈ l := fun l y => by rw [(pushL_perm l y).mem_iff, List.mem_cons]
  unfold todo
  simp only
  by_cases h1 : 2 * m < lim
  · rw [if_pos h1]
    by_cases h2 : 1 < m
    · rw [if_pos h2, push, push, push]
      constructor
      · rintro (h | h | h | h)
        · exact .inr (.inr ⟨h2, h⟩)
        · exact .inr (.inl ⟨h1, .inr h⟩)
        · exact .inr (.inl ⟨h1, .inl h⟩)
        · exact .inl h
      · rintro (h | ⟨_, h | h⟩ | ⟨_, h⟩)
        · exact .inr (.inr (.inr h))
        · exact .inr (.inr (.inl h))
        · exact .inr (.inl h)
        · exact .inl h
    · rw [if_neg h2, push, push]
      constructor
      · rintro (h | h | h)
        · exact .inr (.inl ⟨h1, .inr h⟩)
        · exact .inr (.inl ⟨h1, .inl h⟩)
        · exact .inl h
      · rintro (h | ⟨_, h | h⟩ | ⟨h, _⟩)
        · exact .inr (.inr h)
        · exact .inr (.inl h)
        · exact .inl h
        · exact absurd h h2
  · rw [if_neg h1]
    by_cases h2 : 1 < m
    · rw [if_pos h2, push]
      constructor
      · rintro (h | h)
        · exact .inr (.inr ⟨h2, h⟩)
        · exact .inl h
      · rintro (h | ⟨h, _⟩ | ⟨_, h⟩)
        · exact .inr h
        · exact absurd h h1
        · exact .inl h
    · rw [if_neg h2]
      constructor
      · exact .inl
      · rintro (h | ⟨h, _⟩ | ⟨h, _⟩)
        · exact h
        · exact absurd h h1
        · exact absurd h h2
/-- A node that takes its children behind a step took them before, or is looked at again. -/
theorem cand_merged {cs : Cs} (hI : Inv p thr c cs) {m x : Int} (h : Cand thr cs m) (hx : Cand thr (merged cs m) x) : x ≠ m ∧ (Cand thr cs x ∨ (2 * m < p ∧ (x = 2 * m ∨ x = 2 * m + 1)) ∨ (1 < m ∧ x = m / 2)) := by
  obtain ⟨h1, h2, h3⟩ := h
  obtain ⟨x1, x2, x3⟩ := hx
  have hne : x ≠ m := by
    rintro rfl
    unfold kids at x2
    rw [get_merged cs h1, get_merged cs h1, if_pos (.inl rfl), if_pos (.inr rfl)] at x2
    exact x2 rfl
  refine ⟨hne, ?_⟩
  by_cases e1 : x = 2 * m ∨ x = 2 * m + 1
  · by_cases e2 : 2 * m < p
    · exact .inr (.inl ⟨e2, e1⟩)
    · exfalso
      have z1 := (hI.get (2 * x)).2.2
      have z2 := (hI.get (2 * x + 1)).2.2
      unfold kids at x2
      rw [get_merged cs h1, get_merged cs h1, if_neg (by omega), if_neg (by omega), if_neg (by omega), if_neg (by omega)] at x2
      by_cases z : get cs (2 * x) = 0
      · have := z2 (by omega); omega
      · have := z1 z; omega
  · by_cases e2 : 1 < m ∧ x = m / 2
    · exact .inr (.inr e2)
    · left
      have a0 := get_merged cs h1 x
      have a1 := get_merged cs h1 (2 * x)
      have a2 := get_merged cs h1 (2 * x + 1)
      rw [if_neg e1, if_neg hne] at a0
      rw [if_neg (by omega), if_neg (by omega)] at a1
      rw [if_neg (by omega), if_neg (by omega)] at a2
      unfold kids at x2 x3
      rw [a1, a2] at x2
      rw [a0, a1, a2] at x3
      exact ⟨x1, x2, x3⟩
/-- What the loop leaves. -/
structure Done (p thr c : Int) (cs cs' : Cs) : Prop where
  inv : Inv p thr c cs'
  none : ∀ m, ¬ Cand thr cs' m
  len : cs'.length ≤ cs.length
  least : ∀ (ed : Int → Int) (v : Int), (∀ m id, 1 ≤ m → (id = 2 * m ∨ id = 2 * m + 1) → id < 2 * p → ed id ≤ ed m) → wsum (rk ed v) cs' ≤ wsum (rk ed v) cs
  most : ∀ (ed : Int → Int) (v : Int), (∀ m id, 1 ≤ m → (id = 2 * m ∨ id = 2 * m + 1) → id < 2 * p → ed m ≤ ed id) → wsum (rk ed v) cs ≤ wsum (rk ed v) cs'
theorem loop_runs (hp : 1 ≤ p ∧ p ≤ 1048576) (hc : c ≤ 1099511627776) (N : Nat) : ∀ (cs : Cs) (td : List Int), Inv p thr c cs → (∀ t ∈ td, 1 ≤ t ∧ t < 2 * p) → (∀ m, Cand thr cs m → m ∈ td) →
    4 * wsum (fun k _ => k) cs + (td.length : Int) ≤ (N : Int) → N ≤ 1073741824 → cs.length ≤ 1073741824 → ∃ cs', (∀ k, N < k → loop thr p k cs td = some cs') ∧ Done p thr c cs cs' := by
  have stop : ∀ (cs : Cs) (td : List Int), Inv p thr c cs → (∀ m, Cand thr cs m → m ∈ td) → td.length = 0 → ∃ cs', (∀ k, 0 < k → loop thr p k cs td = some cs') ∧ Done p thr c cs cs' := by
    intro cs td hI hcd h0
    obtain rfl := List.eq_nil_of_length_eq_zero h0
    refine ⟨cs, fun k hk => ?_, hI, fun m hm => by have := hcd m hm; simp at this, Nat.le_refl _, fun _ _ _ => Int.le_refl _, fun _ _ _ => Int.le_refl _⟩
    obtain ⟨j, rfl⟩ : ∃ j, k = j + 1 := ⟨k - 1, by omega⟩
    unfold loop
    rw [if_pos h0]
  induction N with
  | zero =>
    intro cs td hI htd hcd hN hN2 hl
    have h1 := ids_nonneg cs (fun q hq => (hI.ent q hq).1)
    exact stop cs td hI hcd (by omega)
  | succ N ih =>
    intro cs td hI htd hcd hN hN2 hl
    have h1 := ids_nonneg cs (fun q hq => (hI.ent q hq).1)
    by_cases h0 : td.length = 0
    · obtain ⟨cs', a, b⟩ := stop cs td hI hcd h0
      exact ⟨cs', fun k hk => a k (by omega), b⟩
    · have hpp := pop_perm td h0
      have hrl := popR_length td
      have hm := htd (popV td) (hpp.mem_iff.1 (List.mem_cons_self ..))
      have hrm : ∀ t ∈ popR td, t ∈ td := fun t ht => hpp.mem_iff.1 (List.mem_cons_of_mem _ ht)
      have hsplit : ∀ t ∈ td, t = popV td ∨ t ∈ popR td := fun t ht => List.mem_cons.1 (hpp.mem_iff.2 ht)
      have hf : Small cs td ∧ Fine cs (popV td) := by
        have g0 := hI.get (popV td)
        have g1 := hI.get (2 * popV td)
        have g2 := hI.get (2 * popV td + 1)
        exact ⟨⟨by omega, hl⟩, ⟨by omega, by omega⟩, ⟨by omega, by omega⟩, ⟨by omega, by omega⟩, ⟨by omega, by omega⟩⟩
      obtain ⟨m, hmd⟩ : ∃ m, m = popV td := ⟨_, rfl⟩
      rw [← hmd] at hpp hm hsplit hf
      by_cases hk : kids cs m = 0 ∨ thr < get cs m + kids cs m
      · have hnc : ¬ Cand thr cs m := fun ⟨_, a, b⟩ => by rcases hk with h | h <;> omega
        obtain ⟨cs', a, b⟩ := ih cs (popR td) hI (fun t ht => htd t (hrm t ht)) (fun x hx => by
          rcases hsplit x (hcd x hx) with rfl | h
          · exact absurd hx hnc
          · exact h) (by omega) (by omega) hl
        refine ⟨cs', fun k hkk => ?_, b⟩
        obtain ⟨j, rfl⟩ : ∃ j, k = j + 1 := ⟨k - 1, by omega⟩
        unfold loop
        rw [if_neg h0, ← hmd, if_pos hf, if_pos hk]
        exact a j (by omega)
      · have hcm : Cand thr cs m := ⟨hm.1, fun h => hk (.inl h), by
          have : ¬ thr < get cs m + kids cs m := fun h => hk (.inr h)
          omega⟩
        obtain ⟨f1, f2⟩ := ids_fall hI hcm
        rw [wsum_ones, wsum_ones] at f2
        have htl := todo_len p m (popR td)
        obtain ⟨cs', a, b⟩ := ih (merged cs m) (todo p m (popR td)) (hI.merged hcm) (fun t ht => by
          rcases (mem_todo p m (popR td) t).1 ht with h | ⟨h, e | e⟩ | ⟨h, e⟩
          · exact htd t (hrm t h)
          · omega
          · omega
          · omega) (fun x hx => by
          obtain ⟨hne, hor⟩ := cand_merged hI hcm hx
          refine (mem_todo p m (popR td) x).2 ?_
          rcases hor with h | h
          · rcases hsplit x (hcd x h) with e | e
            · exact absurd e hne
            · exact .inl e
          · exact .inr h) (by omega) (by omega) (by omega)
        refine ⟨cs', fun k hkk => ?_, b.inv, b.none, by have := b.len; omega, fun ed v hed => Int.le_trans (b.least ed v hed) ((wsum_step hI hcm ed v).1 (fun id h1 h2 => hed m id hm.1 h1 h2)), fun ed v hed => Int.le_trans ((wsum_step hI hcm ed v).2 (fun id h1 h2 => hed m id hm.1 h1 h2)) (b.most ed v hed)⟩
        obtain ⟨j, rfl⟩ : ∃ j, k = j + 1 := ⟨k - 1, by omega⟩
        unfold loop
        rw [if_neg h0, ← hmd, if_pos hf, if_neg hk]
        exact a j (by omega)
end
end Go.Proofs.QComp

/- Compress in plain numbers: fewer than 4 K nodes; the map that is filled; a compressed map stays. No conditions. -/
namespace Go.Proofs.QComp
open Go.Proofs.QHeap
theorem sum_get_le : ∀ (L : List Int) (cs : Cs), L.Nodup → (keys cs).Nodup → (∀ q ∈ cs, 0 ≤ q.2) → (L.map (get cs)).sum ≤ wsum (fun _ v => v) cs
  | [], cs, _, _, h => by simpa using (mem_le_sum cs h).1
  | x :: L, cs, hL, hn, h => by
    obtain ⟨h1, h2⟩ := List.nodup_cons.1 hL
    have ih := sum_get_le L (del cs x) h2 (nodup_del hn x) (fun q hq => h q (mem_del.1 hq).1)
    have e : L.map (get (del cs x)) = L.map (get cs) := List.map_congr_left (fun y hy => get_del_other cs x y (fun e => h1 (by rw [← e]; exact hy)))
    rw [e] at ih
    have hd := wsum_del (fun _ v => v) x cs hn
    rw [gone_get (fun _ => rfl)] at hd
    rw [List.map_cons, List.sum_cons]
    omega
theorem subset_length : ∀ (A B : List Int), A.Nodup → (∀ a ∈ A, a ∈ B) → A.length ≤ B.length
  | [], _, _, _ => Nat.zero_le _
  | a :: A, B, hA, h => by
    obtain ⟨h1, h2⟩ := List.nodup_cons.1 hA
    have hm := h a (List.mem_cons_self ..)
    have ih := subset_length A (B.erase a) h2 (fun x hx => (List.mem_erase_of_ne (fun e => h1 (by rw [← e]; exact hx))).2 (h x (List.mem_cons_of_mem _ hx)))
    rw [List.length_erase_of_mem hm] at ih
    have := List.length_pos_of_mem hm
    simp only [List.length_cons]
    omega
section
variable {p thr c : Int} {cs : Cs}
theorem few (hI : Inv p thr c cs) (hn : ∀ m, ¬ Cand thr cs m) (hp : 1 ≤ p) {K : Int} (hK : 1 ≤ K) (hthr : thr = c / K) (hc : 0 ≤ c) : (cs.length : Int) < 4 * K := by
  have hpos : ∀ q ∈ cs, 0 ≤ q.2 := fun q hq => by have := (hI.ent q hq).2.2.1; omega
  obtain ⟨L, hL⟩ : ∃ L : List Nat, L = (List.range p.toNat).filter (fun n : Nat => decide (1 ≤ n) && decide (kids cs (n : Int) ≠ 0)) := ⟨_, rfl⟩
  have hLn : L.Nodup := by rw [hL]; exact List.nodup_range.sublist List.filter_sublist
  have hLm : ∀ n : Nat, n ∈ L ↔ (n < p.toNat ∧ 1 ≤ n ∧ kids cs n ≠ 0) := fun n => by rw [hL, List.mem_filter, List.mem_range]; simp
  have nd1 : (L.map (fun n : Nat => (n : Int))).Nodup := List.Pairwise.map _ (fun a b h => by omega) hLn
  have ndE : (L.map (fun n : Nat => 2 * (n : Int))).Nodup := List.Pairwise.map _ (fun a b h => by omega) hLn
  have ndO : (L.map (fun n : Nat => 2 * (n : Int) + 1)).Nodup := List.Pairwise.map _ (fun a b h => by omega) hLn
  have nd2 : (L.map (fun n : Nat => 2 * (n : Int)) ++ L.map (fun n : Nat => 2 * (n : Int) + 1)).Nodup := by
    refine List.pairwise_append.2 ⟨ndE, ndO, ?_⟩
    intro a ha b hb
    obtain ⟨x, _, rfl⟩ := List.mem_map.1 ha
    obtain ⟨y, _, rfl⟩ := List.mem_map.1 hb
    omega
  have s1 := sum_get_le _ cs nd1 hI.nd hpos
  have s2 := sum_get_le _ cs nd2 hI.nd hpos
  rw [hI.sum] at s1 s2
  have low : ∀ (M : List Nat), (∀ n ∈ M, n ∈ L) → (M.length : Int) * (thr + 1) ≤ ((M.map (fun n : Nat => (n : Int))).map (get cs)).sum + ((M.map (fun n : Nat => 2 * (n : Int)) ++ M.map (fun n : Nat => 2 * (n : Int) + 1)).map (get cs)).sum := by
    intro M
    induction M with
    | nil => intro _; simp
    | cons n M ih =>
      intro hM
      have i1 := ih (fun x hx => hM x (List.mem_cons_of_mem _ hx))
      obtain ⟨_, n1, n2⟩ := (hLm n).1 (hM n (List.mem_cons_self ..))
      have hnc := hn n
      have hh : thr + 1 ≤ get cs n + kids cs n := by
        rcases (show thr < get cs n + kids cs n ∨ get cs n + kids cs n ≤ thr by omega) with h | h
        · omega
        · exact absurd ⟨by omega, n2, h⟩ hnc
      unfold kids at hh
      simp only [List.map_append, List.sum_append, List.map_map, List.map_cons, List.sum_cons, List.length_cons] at i1 ⊢
      rw [show ((M.length + 1 : Nat) : Int) * (thr + 1) = (M.length : Int) * (thr + 1) + (thr + 1) from by rw [Int.natCast_add, Int.add_mul]; simp]
      omega
  have h1 := low L (fun _ h => h)
  have h2 := subset_length (keys cs) (1 :: (L.map (fun n : Nat => 2 * (n : Int)) ++ L.map (fun n : Nat => 2 * (n : Int) + 1))) hI.nd (by
    intro k hk
    unfold keys at hk
    obtain ⟨q, hq, rfl⟩ := List.mem_map.1 hk
    have he := hI.ent q hq
    by_cases e1 : q.1 = 1
    · rw [e1]; exact List.mem_cons_self ..
    · refine List.mem_cons_of_mem _ ?_
      have hg : get cs q.1 = q.2 := by
        unfold get
        rw [(lookup_mem hI.nd).2 (show (q.1, q.2) ∈ cs from hq)]
        rfl
      have hm : (q.1 / 2).toNat ∈ L := by
        refine (hLm _).2 ⟨by omega, by omega, ?_⟩
        have g1 := (hI.get (2 * (q.1 / 2))).1
        have g2 := (hI.get (2 * (q.1 / 2) + 1)).1
        rw [Int.toNat_of_nonneg (by omega)]
        unfold kids
        rcases (show q.1 = 2 * (q.1 / 2) ∨ q.1 = 2 * (q.1 / 2) + 1 by omega) with e | e
        · have h3 : get cs (2 * (q.1 / 2)) = q.2 := by rw [← e]; exact hg
          omega
        · have h3 : get cs (2 * (q.1 / 2) + 1) = q.2 := by rw [← e]; exact hg
          omega
      refine List.mem_append.2 ?_
      rcases (show q.1 = 2 * (q.1 / 2) ∨ q.1 = 2 * (q.1 / 2) + 1 by omega) with e | e
      · exact .inl (List.mem_map.2 ⟨_, hm, by omega⟩)
      · exact .inr (List.mem_map.2 ⟨_, hm, by omega⟩))
  have hkl : (keys cs).length = cs.length := by unfold keys; simp
  simp only [List.length_cons, List.length_append, List.length_map] at h2
  rw [hkl] at h2
  have hq : c < K * (thr + 1) := by
    rw [hthr, Int.mul_comm]
    exact Int.lt_ediv_add_one_mul_self c (by omega)
  have ht0 : 0 ≤ thr := by rw [hthr]; exact Int.ediv_nonneg hc (by omega)
  have h3 : (L.length : Int) < 2 * K := by
    rcases (show (L.length : Int) < 2 * K ∨ 2 * K ≤ L.length by omega) with h | h
    · exact h
    · exfalso
      have h4 := Int.mul_le_mul_of_nonneg_right h (show 0 ≤ thr + 1 by omega)
      have e5 : 2 * K * (thr + 1) = 2 * (K * (thr + 1)) := Int.mul_assoc ..
      omega
  omega
end
theorem loop_idle {p thr c : Int} {cs : Cs} (hI : Inv p thr c cs) (hp : 1 ≤ p ∧ p ≤ 1048576) (hc : c ≤ 1099511627776) (hn : ∀ m, ¬ Cand thr cs m) (hl : cs.length ≤ 1073741824) (N : Nat) : ∀ (td : List Int), td.length ≤ N → N ≤ 1073741824 → (∀ t ∈ td, 1 ≤ t ∧ t < 2 * p) → ∀ k, N < k → loop thr p k cs td = some cs := by
  induction N with
  | zero =>
    intro td hN _ _ k hk
    obtain ⟨j, rfl⟩ : ∃ j, k = j + 1 := ⟨k - 1, by omega⟩
    unfold loop
    rw [if_pos (by omega)]
  | succ N ih =>
    intro td hN hN2 htd k hk
    obtain ⟨j, rfl⟩ : ∃ j, k = j + 1 := ⟨k - 1, by omega⟩
    unfold loop
    by_cases h0 : td.length = 0
    · rw [if_pos h0]
    · have hpp := pop_perm td h0
      have hrl := popR_length td
      have hm := htd (popV td) (hpp.mem_iff.1 (List.mem_cons_self ..))
      have hrm : ∀ t ∈ popR td, t ∈ td := fun t ht => hpp.mem_iff.1 (List.mem_cons_of_mem _ ht)
      obtain ⟨m, hmd⟩ : ∃ m, m = popV td := ⟨_, rfl⟩
      rw [← hmd] at hm ⊢
      have hf : Small cs td ∧ Fine cs m := by
        have g0 := hI.get m
        have g1 := hI.get (2 * m)
        have g2 := hI.get (2 * m + 1)
        exact ⟨⟨by omega, hl⟩, ⟨by omega, by omega⟩, ⟨by omega, by omega⟩, ⟨by omega, by omega⟩, ⟨by omega, by omega⟩⟩
      have hk2 : kids cs m = 0 ∨ thr < get cs m + kids cs m := by
        by_cases e : kids cs m = 0
        · exact .inl e
        · right
          rcases (show thr < get cs m + kids cs m ∨ get cs m + kids cs m ≤ thr by omega) with h | h
          · exact h
          · exact absurd ⟨hm.1, e, h⟩ (hn m)
      rw [if_neg h0, if_pos hf, if_pos hk2]
      exact ih (popR td) (by omega) (by omega) (fun t ht => htd t (hrm t ht)) j (by omega)
theorem fill_perm : ∀ (L cs : Cs) (td : List Int), (keys (L ++ cs)).Nodup → (fillS L cs td).1.Perm (L ++ cs)
  | [], cs, _, _ => List.Perm.refl _
  | q :: L, cs, td, h => by
    unfold fillS
    have h' : q.1 ∉ keys cs ∧ (keys (L ++ q :: cs)).Nodup := by
      unfold keys at h ⊢
      rw [List.map_append, List.map_cons, List.cons_append, List.nodup_cons] at h
      refine ⟨fun hm => h.1 (List.mem_append.2 (.inr hm)), ?_⟩
      rw [List.map_append, List.map_cons]
      exact (List.perm_middle.nodup_iff).2 (List.nodup_cons.2 h)
    have e : put cs q.1 q.2 = q :: cs := by unfold put; rw [del_none h'.1]
    rw [e]
    exact (fill_perm L (q :: cs) _ h'.2).trans List.perm_middle
theorem fill_td : ∀ (L cs : Cs) (td : List Int) (x : Int), x ∈ (fillS L cs td).2 ↔ x ∈ td ∨ ∃ q ∈ L, 1 < q.1 ∧ x = q.1 / 2
  | [], _, td, x => by simp [fillS]
  | q :: L, cs, td, x => by
    unfold fillS
    rw [fill_td L]
    by_cases h : 1 < q.1
    · rw [if_pos h]
      simp only [List.mem_append, List.mem_cons, List.not_mem_nil, or_false, exists_eq_or_imp]
      constructor
      · rintro ((h1 | h1) | h1)
        · exact .inl h1
        · exact .inr (.inl ⟨h, h1⟩)
        · exact .inr (.inr h1)
      · rintro (h1 | ⟨_, h1⟩ | h1)
        · exact .inl (.inl h1)
        · exact .inl (.inr h1)
        · exact .inr h1
    · rw [if_neg h]
      simp only [List.mem_cons, exists_eq_or_imp]
      constructor
      · rintro (h1 | h1)
        · exact .inl h1
        · exact .inr (.inr h1)
      · rintro (h1 | ⟨h2, _⟩ | h1)
        · exact .inl h1
        · exact absurd h2 h
        · exact .inr h1
theorem get_perm {a b : Cs} (hp : a.Perm b) (hn : (keys a).Nodup) (k : Int) : get a k = get b k := by
  have hn2 : (keys b).Nodup := ((hp.map (fun q : Int × Int => q.1)).nodup_iff).1 hn
  unfold get
  cases hl : a.lookup k with
  | some v =>
    rw [(lookup_mem hn2).2 (hp.mem_iff.1 ((lookup_mem hn).1 hl))]
  | none =>
    cases hl2 : b.lookup k with
    | none => rfl
    | some v =>
      have := (lookup_mem hn).2 (hp.mem_iff.2 ((lookup_mem hn2).1 hl2))
      rw [hl] at this
      cases this
end Go.Proofs.QComp

/- Written by a program of this session (wip/patch_print.py): Go functions as Lean functions, each with a proof that the call does what its function says. No conditions beyond each theorem's own. -/
namespace Go.Proofs.Ytcgimjoebkeifaa.PQ
open Go.RowKit Go.Proofs.YtcgimjoebkeifaaW.PrintWords Go.Proofs.YtcgimjoebkeifaaW.PrintLast Go.Proofs.YtcgimjoebkeifaaW.PrintMore
attribute [local go_sem] max2_int min2_int max_two min_two max_three min_three max_four min_four   -- for this text's walks alone
set_option linter.unusedVariables false
set_option linter.unusedSimpArgs false



def errW : Option Int → Value
  | none => .nilIface
  | some c => .iface 0 (.int .i64 c)
theorem errW_none : errW none = .nilIface := rfl
theorem errW_some (c : Int) : errW (some c) = .iface 0 (.int .i64 c) := rfl

theorem info3 : (Try.prog.info? 3).map (fun i => (i.zero, i.size, i.bytes)) = some (some (.int .i64 0), 1, 8) := by kernel_rfl
theorem info5 : (Try.prog.info? 5).map (fun i => (i.zero, i.size, i.bytes)) = some (some (.int .u8 0), 1, 1) := by kernel_rfl
theorem info63 : (Try.prog.info? 63).map (fun i => (i.zero, i.size, i.bytes)) = some (some (.agg #[(.int .i64 0), (.int .i64 0)]), 2, 16) := by kernel_rfl
-- the values' own types
/-! #### struct type 63 -/
structure S63 where
  f0 : Int
  f1 : Int
def z63 : S63 := ⟨(0 : Int), (0 : Int)⟩
def k63 : Kd S63 := Kd.iso (Kd.pair (Kd.int .i64) (Kd.int .i64)) (fun x : S63 => (x.f0, x.f1))
theorem k63_open {w : World} {x : S63} {cs : List Value} (h : k63.K w x cs) : cs = [.int .i64 x.f0, .int .i64 x.f1] := by
  obtain ⟨_, _, rfl, rfl, rfl⟩ := h
  exact rfl
theorem k63_openM {w : World} {base : Nat} {ok : Nat → Prop} {x : S63} {cs : List Value} (h : k63.M w base ok x cs) : cs = [.int .i64 x.f0, .int .i64 x.f1] := by
  obtain ⟨_, _, rfl, rfl, rfl⟩ := h
  exact rfl
theorem k63_mk (w : World) (x : S63)  : k63.K w x [.int .i64 x.f0, .int .i64 x.f1] := ⟨[.int .i64 x.f0], [.int .i64 x.f1], rfl, rfl, rfl⟩
theorem k63_mkM (w : World) (base : Nat) (ok : Nat → Prop) (x : S63)  : k63.M w base ok x [.int .i64 x.f0, .int .i64 x.f1] := ⟨[.int .i64 x.f0], [.int .i64 x.f1], rfl, rfl, rfl⟩
def rd_T63 (xs : List S63) (i : Int) : S63 := xs.getD i.toNat z63
theorem at_T63 {w : World} {A : Option Addr} {n : Nat} {xs : List S63} (h : Kd.C k63 w A n xs) (i : Int) (h0 : 0 ≤ i) (h1 : i < n) : ∃ ad , A = some ad ∧ w.cell? (ad.add (i.toNat * 2)) = some (.int .i64 (rd_T63 xs i).f0) ∧ w.cell? ⟨(ad.add (i.toNat * 2)).block, (ad.add (i.toNat * 2)).off + 1, none⟩ = some (.int .i64 (rd_T63 xs i).f1) := by
  obtain ⟨ad, c, e, _, hK, hc0⟩ := Kd.C_get h z63 i h0 h1
  have hc : ∀ j u, c[j]? = some u → w.cell? (ad.add (i.toNat * 2 + j)) = some u := hc0
  obtain rfl := k63_open hK
  exact ⟨ad, e, hc 0 _ rfl, by rw [← add_field _ _ 1 (by omega)]; exact hc 1 _ rfl⟩

def rd_L3 (xs : List (List S63)) (i : Int) : (List S63) := xs.getD i.toNat ([] : List S63)
theorem at_L3 {w : World} {A : Option Addr} {n : Nat} {xs : List (List S63)} (h : Kd.C (Kd.slice 63 k63) w A n xs) (i : Int) (h0 : 0 ≤ i) (h1 : i < n) : ∃ ad A0 c0, A = some ad ∧ w.cell? (ad.add i.toNat) = some (.slice A0 (rd_L3 xs i).length c0) ∧ (rd_L3 xs i).length ≤ c0 ∧ k63.C w A0 (rd_L3 xs i).length (rd_L3 xs i) := by
  obtain ⟨ad, c, e, _, hK, hc0⟩ := Kd.C_get h ([] : List S63) i h0 h1
  have hc : ∀ j u, c[j]? = some u → w.cell? (ad.add (i.toNat * 1 + j)) = some u := hc0
  obtain ⟨A0, c0, rfl, l0, g0⟩ := hK
  exact ⟨ad, A0, c0, e, by have hq := hc 0 _ rfl; rwa [Nat.mul_one, Nat.add_zero] at hq, l0, g0⟩

/-! #### struct type 24 -/
structure S24 where
  f0 : Int
  f1 : Int
  f2 : Int
  f3 : (List S63)
def z24 : S24 := ⟨(0 : Int), (0 : Int), (0 : Int), ([] : List S63)⟩
def k24 : Kd S24 := Kd.iso (Kd.pair (Kd.int .i64) (Kd.pair (Kd.int .i64) (Kd.pair (Kd.int .i64) (Kd.slice 63 k63)))) (fun x : S24 => (x.f0, x.f1, x.f2, x.f3))
theorem k24_open {w : World} {x : S24} {cs : List Value} (h : k24.K w x cs) : ∃ A3 c3, cs = [.int .i64 x.f0, .int .i64 x.f1, .int .i64 x.f2, .slice A3 x.f3.length c3] ∧ x.f3.length ≤ c3 ∧ k63.C w A3 x.f3.length x.f3 := by
  obtain ⟨_, _, rfl, rfl, ⟨_, _, rfl, rfl, ⟨_, _, rfl, rfl, ⟨A3, c3, rfl, l3, g3⟩⟩⟩⟩ := h
  exact ⟨A3, c3, rfl, l3, g3⟩
theorem k24_openM {w : World} {base : Nat} {ok : Nat → Prop} {x : S24} {cs : List Value} (h : k24.M w base ok x cs) : ∃ v3, cs = [.int .i64 x.f0, .int .i64 x.f1, .int .i64 x.f2, v3] ∧ k63.R 63 w base ok v3 x.f3 := by
  obtain ⟨_, _, rfl, rfl, ⟨_, _, rfl, rfl, ⟨_, _, rfl, rfl, ⟨v3, rfl, g3⟩⟩⟩⟩ := h
  exact ⟨v3, rfl, g3⟩
theorem k24_mk (w : World) (x : S24) {A3 : Option Addr} {c3 : Nat} (l3 : x.f3.length ≤ c3) (g3 : k63.C w A3 x.f3.length x.f3) : k24.K w x [.int .i64 x.f0, .int .i64 x.f1, .int .i64 x.f2, .slice A3 x.f3.length c3] := ⟨[.int .i64 x.f0], [.int .i64 x.f1, .int .i64 x.f2, .slice A3 x.f3.length c3], rfl, rfl, ⟨[.int .i64 x.f1], [.int .i64 x.f2, .slice A3 x.f3.length c3], rfl, rfl, ⟨[.int .i64 x.f2], [.slice A3 x.f3.length c3], rfl, rfl, ⟨A3, c3, rfl, l3, g3⟩⟩⟩⟩
theorem k24_mkM (w : World) (base : Nat) (ok : Nat → Prop) (x : S24) {v3 : Value} (g3 : k63.R 63 w base ok v3 x.f3) : k24.M w base ok x [.int .i64 x.f0, .int .i64 x.f1, .int .i64 x.f2, v3] := ⟨[.int .i64 x.f0], [.int .i64 x.f1, .int .i64 x.f2, v3], rfl, rfl, ⟨[.int .i64 x.f1], [.int .i64 x.f2, v3], rfl, rfl, ⟨[.int .i64 x.f2], [v3], rfl, rfl, ⟨v3, rfl, g3⟩⟩⟩⟩
def rd_T24 (xs : List S24) (i : Int) : S24 := xs.getD i.toNat z24
theorem at_T24 {w : World} {A : Option Addr} {n : Nat} {xs : List S24} (h : Kd.C k24 w A n xs) (i : Int) (h0 : 0 ≤ i) (h1 : i < n) : ∃ ad A3 c3, A = some ad ∧ w.cell? (ad.add (i.toNat * 4)) = some (.int .i64 (rd_T24 xs i).f0) ∧ w.cell? ⟨(ad.add (i.toNat * 4)).block, (ad.add (i.toNat * 4)).off + 1, none⟩ = some (.int .i64 (rd_T24 xs i).f1) ∧ w.cell? ⟨(ad.add (i.toNat * 4)).block, (ad.add (i.toNat * 4)).off + 2, none⟩ = some (.int .i64 (rd_T24 xs i).f2) ∧ w.cell? ⟨(ad.add (i.toNat * 4)).block, (ad.add (i.toNat * 4)).off + 3, none⟩ = some (.slice A3 (rd_T24 xs i).f3.length c3) ∧ (rd_T24 xs i).f3.length ≤ c3 ∧ k63.C w A3 (rd_T24 xs i).f3.length (rd_T24 xs i).f3 := by
  obtain ⟨ad, c, e, _, hK, hc0⟩ := Kd.C_get h z24 i h0 h1
  have hc : ∀ j u, c[j]? = some u → w.cell? (ad.add (i.toNat * 4 + j)) = some u := hc0
  obtain ⟨A3, c3, rfl, l3, g3⟩ := k24_open hK
  exact ⟨ad, A3, c3, e, hc 0 _ rfl, by rw [← add_field _ _ 1 (by omega)]; exact hc 1 _ rfl, by rw [← add_field _ _ 2 (by omega)]; exact hc 2 _ rfl, by rw [← add_field _ _ 3 (by omega)]; exact hc 3 _ rfl, l3, g3⟩

/-! #### struct type 54 -/
structure S54 where
  f0 : Int
  f1 : Int
def z54 : S54 := ⟨(0 : Int), (0 : Int)⟩
def k54 : Kd S54 := Kd.iso (Kd.pair (Kd.int .i64) (Kd.int .i64)) (fun x : S54 => (x.f0, x.f1))
theorem k54_open {w : World} {x : S54} {cs : List Value} (h : k54.K w x cs) : cs = [.int .i64 x.f0, .int .i64 x.f1] := by
  obtain ⟨_, _, rfl, rfl, rfl⟩ := h
  exact rfl
theorem k54_openM {w : World} {base : Nat} {ok : Nat → Prop} {x : S54} {cs : List Value} (h : k54.M w base ok x cs) : cs = [.int .i64 x.f0, .int .i64 x.f1] := by
  obtain ⟨_, _, rfl, rfl, rfl⟩ := h
  exact rfl
theorem k54_mk (w : World) (x : S54)  : k54.K w x [.int .i64 x.f0, .int .i64 x.f1] := ⟨[.int .i64 x.f0], [.int .i64 x.f1], rfl, rfl, rfl⟩
theorem k54_mkM (w : World) (base : Nat) (ok : Nat → Prop) (x : S54)  : k54.M w base ok x [.int .i64 x.f0, .int .i64 x.f1] := ⟨[.int .i64 x.f0], [.int .i64 x.f1], rfl, rfl, rfl⟩
def rd_T54 (xs : List S54) (i : Int) : S54 := xs.getD i.toNat z54
theorem at_T54 {w : World} {A : Option Addr} {n : Nat} {xs : List S54} (h : Kd.C k54 w A n xs) (i : Int) (h0 : 0 ≤ i) (h1 : i < n) : ∃ ad , A = some ad ∧ w.cell? (ad.add (i.toNat * 2)) = some (.int .i64 (rd_T54 xs i).f0) ∧ w.cell? ⟨(ad.add (i.toNat * 2)).block, (ad.add (i.toNat * 2)).off + 1, none⟩ = some (.int .i64 (rd_T54 xs i).f1) := by
  obtain ⟨ad, c, e, _, hK, hc0⟩ := Kd.C_get h z54 i h0 h1
  have hc : ∀ j u, c[j]? = some u → w.cell? (ad.add (i.toNat * 2 + j)) = some u := hc0
  obtain rfl := k54_open hK
  exact ⟨ad, e, hc 0 _ rfl, by rw [← add_field _ _ 1 (by omega)]; exact hc 1 _ rfl⟩

/-! #### struct type 79 -/
structure S79 where
  f0 : Int
  f1 : Bool
def z79 : S79 := ⟨(0 : Int), false⟩
def k79 : Kd S79 := Kd.iso (Kd.pair (Kd.int .u8) Kd.bool) (fun x : S79 => (x.f0, x.f1))
theorem k79_open {w : World} {x : S79} {cs : List Value} (h : k79.K w x cs) : cs = [.int .u8 x.f0, .bool x.f1] := by
  obtain ⟨_, _, rfl, rfl, rfl⟩ := h
  exact rfl
theorem k79_openM {w : World} {base : Nat} {ok : Nat → Prop} {x : S79} {cs : List Value} (h : k79.M w base ok x cs) : cs = [.int .u8 x.f0, .bool x.f1] := by
  obtain ⟨_, _, rfl, rfl, rfl⟩ := h
  exact rfl
theorem k79_mk (w : World) (x : S79)  : k79.K w x [.int .u8 x.f0, .bool x.f1] := ⟨[.int .u8 x.f0], [.bool x.f1], rfl, rfl, rfl⟩
theorem k79_mkM (w : World) (base : Nat) (ok : Nat → Prop) (x : S79)  : k79.M w base ok x [.int .u8 x.f0, .bool x.f1] := ⟨[.int .u8 x.f0], [.bool x.f1], rfl, rfl, rfl⟩
def rd_T79 (xs : List S79) (i : Int) : S79 := xs.getD i.toNat z79
theorem at_T79 {w : World} {A : Option Addr} {n : Nat} {xs : List S79} (h : Kd.C k79 w A n xs) (i : Int) (h0 : 0 ≤ i) (h1 : i < n) : ∃ ad , A = some ad ∧ w.cell? (ad.add (i.toNat * 2)) = some (.int .u8 (rd_T79 xs i).f0) ∧ w.cell? ⟨(ad.add (i.toNat * 2)).block, (ad.add (i.toNat * 2)).off + 1, none⟩ = some (.bool (rd_T79 xs i).f1) := by
  obtain ⟨ad, c, e, _, hK, hc0⟩ := Kd.C_get h z79 i h0 h1
  have hc : ∀ j u, c[j]? = some u → w.cell? (ad.add (i.toNat * 2 + j)) = some u := hc0
  obtain rfl := k79_open hK
  exact ⟨ad, e, hc 0 _ rfl, by rw [← add_field _ _ 1 (by omega)]; exact hc 1 _ rfl⟩

end Go.Proofs.Ytcgimjoebkeifaa.PQ
