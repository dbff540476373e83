/- Parts of one proof, one behind the other (put together by wip/merge2.py out of: RowD, CodA, CodB, CodC, CodD, PureA, PureB, CodE, CodF, CodG, PureC, PureD, PureCod). No conditions beyond each theorem's own. -/
import Derived.Test.YtcgimjoebkeifaaRows
import Derived.Test.YtcgimjoebkeifaaOpen
import Derived.WalkKit
import Derived.ProofKit
import Derived.OpenShut
import Derived.ShutString
import Derived.ChangeOld
import Derived.Below
import Derived.SizedLaws
import Derived.Carry
import Derived.Test.YtcgimjoebkeifaaPQxf41
import Derived.Laws.BitsLemmas
import Derived.Lib.Strings
import Derived.Test.YtcgimjoebkeifaaPQxf13
import Derived.Lib.Hide
import Derived.Test.YtcgimjoebkeifaaPQxf14
import Derived.Test.YtcgimjoebkeifaaPQxf20
import Derived.Test.YtcgimjoebkeifaaQE1
import Derived.Test.YtcgimjoebkeifaaQE2
import Derived.Test.YtcgimjoebkeifaaQE3
import Derived.Test.YtcgimjoebkeifaaQE4
import Derived.Test.YtcgimjoebkeifaaQE5
import Derived.Test.YtcgimjoebkeifaaQE6
import Derived.Test.YtcgimjoebkeifaaQE7
import Derived.Test.YtcgimjoebkeifaaQE8
/- The law QdigestCodec: the row, out of the walk and the pure part. -/
namespace Go.Proofs.Ytcgimjoebkeifaa.qdigestCodec
open Go.ChangeShapes Go.WideShapes Go.ChangeAt Go.RowKit Go.Proofs.YtcgimjoebkeifaaW.PrintWords Go.Proofs.Ytcgimjoebkeifaa.PQ Go.Proofs.Ytcgimjoebkeifaa.LawC
open Go.ChangeMaps (open_string shut_string)
set_option linter.unusedVariables false
theorem own : ownKnob Try.prog.godebug = none := by kernel_rfl
theorem laidOut : laidOutB Try.prog = true := by kernel_rfl
/-- What is to be shown in plain numbers. -/
def Pure : Prop := ∀ (b K c : Int) (xs : List S63) (s : ByteArray), I64 b → I64 K → I64 c → (∀ x ∈ xs, I64 x.f0 ∧ I64 x.f1) → s.size ≤ 140737488351232 → ∃ k, lookoutlaw31_QdigestCodec.f k b K c xs s = some true
theorem walk (P : Pure) (b K c : Int) (A : Option Addr) (cap : Nat) (xs : List S63) (s : ByteArray) (w : World) (wb : I64 b) (wK : I64 K) (wc : I64 c) (hn : ∀ x ∈ xs, I64 x.f0 ∧ I64 x.f1) (hs : s.size ≤ 140737488351232) (hr : Kd.C k63 w A xs.length xs) (hc : xs.length ≤ cap) :
    Calls Try.prog 5 #[.agg #[.int .i64 b, .int .i64 K, .int .i64 c, .slice A xs.length cap], .string s] w fun e w' => e = .returned (.bool true) ∧ Below w.heap.size w w' := by
  obtain ⟨k, h⟩ := P b K c xs s wb wK wc hn hs
  exact lookoutlaw31_QdigestCodec.calls k b K c A cap xs s true w hr hc h
set_option maxRecDepth 100000 in
theorem lifted (P : Pure) (os : Os) (started : os.Started) (H : Type) (enc : TypeId × Value → H) :
    ReturnsInHanded {} Try.checked os 5 .any (Rows.qdigestCodecSpec.pre6 enc Try.prog Try.f5 Rows.qdigestCodecRow.domain false) (Rows.qdigestCodecSpec.post enc Try.prog Try.f5 false true false false) := by
  refine returnsInHanded_of_change_sized (C := Try.checked) own started (by kernel_rfl) Try.func5
    (ChangeSpec.witness6 (enc := enc) (C := Try.checked) false ⟨#[], #[.agg #[.int .i64 0, .int .i64 0, .int .i64 0, .slice none 0 0], .string ByteArray.empty], []⟩ 8 (by kernel_rfl) (by kernel_rfl) (by kernel_rfl) (by kernel_rfl)) ?_
  intro W base args ds gs before hval0 hW hcnd hsz0 _
  have hsz : (DataW.weightsEach Try.prog (Try.f5.params.toList ++ Rows.qdigestCodecSpec.plain.varTypes Try.prog) (ds ++ gs)).all (· ≤ reachBytes) = true := hsz0
  have hval : ∀ (j : Nat) t v, Try.f5.params[j]? = some t → args[j]? = some v → Value.okWide Try.prog W .any base t v := hval0
  have hW' := hW
  obtain ⟨p, q, hA0, hV, rfl, hfz, hnd⟩ := hW
  have hA : DataW.TrodAll enc Try.prog W 0 (fun _ => true) true Try.f5.params.toList args.toList ds p := hA0
  rw [Try.params5] at hA hval hsz
  obtain ⟨v0, vs0, d0, ds0, p0, q0, hargs, rfl, rfl, h0, r0⟩ := trodAll_cons hA
  obtain ⟨v1, vs1, d1, ds1, p1, q1, rfl, rfl, rfl, h1, r1⟩ := trodAll_cons r0
  obtain ⟨rfl, rfl, rfl⟩ := trodAll_nil r1
  obtain rfl : args = #[v0, v1] := by cases args; simp_all
  obtain ⟨rfl, rfl⟩ := trodVars_none hV
  have k0 := h0
  have lt0 : ∀ x ∈ p0, x.block < W.heap.size := by obtain ⟨m, hm⟩ := k0; exact DataW.trod_lt m _ _ _ hm
  obtain ⟨b, K, c, A, cap, xs, rfl, wb, wK, wc, hcap, hC, hn⟩ := open_digest (hval 0 24 v0 rfl rfl) h0
  obtain ⟨a1, rfl, rfl, rfl, y1⟩ := open_string Try.underlying9 (hval 1 9 v1 rfl rfl) h1
  have w1 : a1.size ≤ 140737488351232 := by
    have z := sized_string hsz (j := 1) (t := 9) rfl rfl
    rw [Array.length_toList] at z
    exact z
  clear hA0 hval0 hsz0 hsz
  refine (walk P b K c A cap xs a1 W wb wK wc hn w1 hC hcap).mono fun e W' ⟨he, bel⟩ => ?_
  subst he
  exact ⟨_, rfl, _, _, _, [], _, [], hW', trodAll_mk1 (shut_bool Try.underlying4 _), (trodAll_cons_mk (Below.trod laidOut (by kernel_rfl) (of_decide_eq_true (by kernel_rfl)) k0 bel lt0) (trodAll_cons_mk (shut_string Try.underlying9 y1) trodAll_mk0)), rfl, bel.frame _, fun h => by cases h⟩
theorem over (P : Pure) : Rows.qdigestCodecRow.holds Try.pinned (OpenSpec.ofChange Rows.qdigestCodecSpec) :=
  OpenClaim.holds_of_wide 5 Try.f5 rfl rfl rfl rfl rfl rfl rfl ⟨rfl, rfl, rfl, rfl, rfl⟩ rfl rfl rfl rfl rfl (by kernel_rfl) Try.func5 (by kernel_rfl)
    (of_decide_eq_true (by kernel_rfl)) (by unfold Func.isWrapper; first | (rw [if_pos (by decide +kernel)]; kernel_rfl) | (rw [if_neg (by decide +kernel)]; exact ⟨rfl, rfl⟩))
    (fun os started H enc _ => lifted P os started H enc)
end Go.Proofs.Ytcgimjoebkeifaa.qdigestCodec

/- Groups of seven bits, and what varint.read makes of them. -/
namespace Go.Proofs.Ytcgimjoebkeifaa.Cod
set_option linter.unusedSimpArgs false
set_option linter.unusedVariables false
open Go.Proofs.Ytcgimjoebkeifaa.Rd
/-- The groups of a number. -/
def grp (n : Nat) : List Nat := if h : n < 128 then [n] else (n % 128 + 128) :: grp (n / 128)
termination_by n
decreasing_by omega
theorem grp_small {n : Nat} (h : n < 128) : grp n = [n] := by rw [grp, dif_pos h]
theorem grp_big {n : Nat} (h : ¬ n < 128) : grp n = (n % 128 + 128) :: grp (n / 128) := by rw [grp, dif_neg h]
theorem grp_len_pos (n : Nat) : 0 < (grp n).length := by
  by_cases h : n < 128
  · simp [grp_small h]
  · simp [grp_big h]
theorem grp_len_le : ∀ (k n : Nat), n < 128 ^ (k + 1) → (grp n).length ≤ k + 1
  | 0, n, h => by rw [grp_small (by simpa using h)]; simp
  | k + 1, n, h => by
    by_cases h1 : n < 128
    · rw [grp_small h1]; simp
    · rw [grp_big h1]
      have := grp_len_le k (n / 128) (by rw [Nat.div_lt_iff_lt_mul (by decide)]; rwa [Nat.pow_succ] at h)
      simp only [List.length_cons]
      omega
theorem grp_len9 {n : Nat} (h : n < 2 ^ 63) : (grp n).length ≤ 9 := grp_len_le 8 n (by simpa using h)
theorem grp_byte : ∀ (n : Nat), ∀ x ∈ grp n, x < 256
  | n, x, hx => by
    by_cases h : n < 128
    · rw [grp_small h] at hx; simp at hx; omega
    · rw [grp_big h] at hx
      rcases List.mem_cons.1 hx with h1 | h1
      · omega
      · exact grp_byte (n / 128) x h1
/-- The bytes of a string, as numbers. -/
def bl (s : ByteArray) : List Nat := s.data.toList.map UInt8.toNat
theorem bl_len (s : ByteArray) : (bl s).length = s.size := by
  unfold bl
  rw [List.length_map, Array.length_toList]; rfl
theorem bl_get (s : ByteArray) (i : Nat) (h : i < s.size) : (bl s)[i]'(by rw [bl_len]; exact h) = (s[i]'h).toNat := by
  simp only [bl, List.getElem_map]
  rfl
theorem bl_drop (s : ByteArray) (i : Nat) (h : i < s.size) : (bl s).drop i = (s[i]'h).toNat :: (bl s).drop (i + 1) := by
  rw [List.drop_eq_getElem_cons (by rw [bl_len]; exact h), bl_get s i h]
theorem bl_inj {s t : ByteArray} (h : bl s = bl t) : s = t := by
  have h1 : s.data.toList = t.data.toList := by
    have : Function.Injective UInt8.toNat := fun a b h => UInt8.toNat_inj.1 h
    exact List.map_inj_right (fun x y => this (a₁ := x) (a₂ := y)) |>.1 h
  cases s; cases t
  simp only at h1
  rw [Array.toList_inj.1 h1]
theorem bl_toList {s t : ByteArray} : s.toList = t.toList ↔ bl s = bl t := by
  rw [Go.ByteArray.toList_eq, Go.ByteArray.toList_eq]
  exact ⟨fun h => by unfold bl; rw [h], fun h => by rw [bl_inj h]⟩
/-- Groups joined. -/
theorem or_add (n b i : Nat) (hn : n < 2 ^ (7 * i)) : n ||| (b &&& 127) <<< (7 * i) = n + (b % 128) * 2 ^ (7 * i) := by
  have h1 : b &&& 127 = b % 128 := Nat.and_two_pow_sub_one_eq_mod b 7
  rw [h1, Nat.shiftLeft_eq, Nat.or_comm, Nat.mul_comm, ← Nat.two_pow_add_eq_or_of_lt hn, Nat.add_comm]
theorem acc_bound {n b i : Nat} (hn : n < 2 ^ (7 * i)) : n + (b % 128) * 2 ^ (7 * i) < 2 ^ (7 * (i + 1)) := by
  have h2 : b % 128 < 128 := Nat.mod_lt _ (by decide)
  have h3 : 2 ^ (7 * (i + 1)) = 128 * 2 ^ (7 * i) := by rw [show 7 * (i + 1) = 7 * i + 7 from by omega, Nat.pow_add, Nat.mul_comm]
  rw [h3]
  have : (b % 128 + 1) * 2 ^ (7 * i) ≤ 128 * 2 ^ (7 * i) := Nat.mul_le_mul_right _ h2
  rw [Nat.add_mul] at this
  omega
/-- Reading what has been written. -/
theorem read_back (s : ByteArray) : ∀ (f i n m : Nat) (rest : List Nat), (bl s).drop i = grp m ++ rest → i + (grp m).length ≤ 9 → f = 9 - i → n < 2 ^ (7 * i) → (0 < i → 0 < m) →
    readG s f i n = (((n + m * 2 ^ (7 * i) : Nat) : Int), ((i + (grp m).length : Nat) : Int), 0)
  | 0, i, n, m, rest, hd, hl, hf, hn, hm => by have := grp_len_pos m; omega
  | f + 1, i, n, m, rest, hd, hl, hf, hn, hm => by
    have hlt : i < s.size := by
      rcases Nat.lt_or_ge i s.size with h | h
      · exact h
      · rw [List.drop_eq_nil_of_le (by rw [bl_len]; exact h)] at hd
        have := grp_len_pos m
        have h2 := congrArg List.length hd
        simp at h2
        omega
    rw [bl_drop s i hlt] at hd
    rw [readG, dif_pos hlt, or_add n _ i hn]
    by_cases h : m < 128
    · rw [grp_small h] at hd hl ⊢
      simp only [List.cons_append, List.nil_append, List.cons.injEq] at hd
      rw [hd.1, if_neg (by omega), if_pos h, Nat.mod_eq_of_lt h]
      simp
    · rw [grp_big h] at hd hl ⊢
      simp only [List.cons_append, List.cons.injEq, List.length_cons] at hd hl
      have := grp_len_pos (m / 128)
      rw [hd.1, if_neg (by omega), if_neg (by omega), show (m % 128 + 128) % 128 = m % 128 from by omega]
      rw [read_back s f (i + 1) _ (m / 128) rest hd.2 (by omega) (by omega) (by have := acc_bound (b := m) hn; exact this) (by omega)]
      have h3 : 2 ^ (7 * (i + 1)) = 128 * 2 ^ (7 * i) := by rw [show 7 * (i + 1) = 7 * i + 7 from by omega, Nat.pow_add, Nat.mul_comm]
      have h4 : n + m % 128 * 2 ^ (7 * i) + m / 128 * 2 ^ (7 * (i + 1)) = n + m * 2 ^ (7 * i) := by
        rw [h3, ← Nat.mul_assoc, Nat.add_assoc, ← Nat.add_mul]
        congr 2
        omega
      rw [h4, List.length_cons, show i + 1 + (grp (m / 128)).length = i + ((grp (m / 128)).length + 1) from by omega]
/-- What has been read is what was written. -/
theorem read_is (s : ByteArray) : ∀ (f i n : Nat) (v k : Int), f = 9 - i → i ≤ 9 → n < 2 ^ (7 * i) → readG s f i n = (v, k, 0) →
    ∃ (m : Nat) (rest : List Nat), (bl s).drop i = grp m ++ rest ∧ i + (grp m).length ≤ 9 ∧ v = ((n + m * 2 ^ (7 * i) : Nat) : Int) ∧ k = ((i + (grp m).length : Nat) : Int) ∧ (0 < i → 0 < m)
  | 0, i, n, v, k, hf, hi, hn, h => by simp [readG] at h
  | f + 1, i, n, v, k, hf, hi, hn, h => by
    rw [readG] at h
    by_cases hlt : i < s.size
    case neg => rw [dif_neg hlt] at h; simp at h
    rw [dif_pos hlt] at h
    by_cases h1 : (128 ≤ (s[i]'hlt).toNat ∧ i = 8) ∨ ((s[i]'hlt).toNat = 0 ∧ 0 < i)
    · rw [if_pos h1] at h; simp at h
    rw [if_neg h1, or_add n _ i hn] at h
    rw [bl_drop s i hlt]
    have hb := (s[i]'hlt).toNat_lt
    generalize (s[i]'hlt).toNat = b at *
    by_cases h2 : b < 128
    · rw [if_pos h2, Nat.mod_eq_of_lt h2] at h
      simp only [Prod.mk.injEq] at h
      refine ⟨b, (bl s).drop (i + 1), by rw [grp_small h2]; rfl, by rw [grp_small h2]; simp; omega, h.1.symm, by rw [grp_small h2, ← h.2.1]; simp, fun h0 => by omega⟩
    · rw [if_neg h2] at h
      obtain ⟨m, rest, hd, hl, hv, hk, hm⟩ := read_is s f (i + 1) _ v k (by omega) (by omega) (acc_bound hn) h
      have hm0 := hm (by omega)
      have e : (b % 128 + m * 128) / 128 = m := by omega
      have e2 : (b % 128 + m * 128) % 128 + 128 = b := by omega
      have hg : grp (b % 128 + m * 128) = b :: grp m := by rw [grp_big (by omega), e, e2]
      have h3 : 2 ^ (7 * (i + 1)) = 128 * 2 ^ (7 * i) := by rw [show 7 * (i + 1) = 7 * i + 7 from by omega, Nat.pow_add, Nat.mul_comm]
      refine ⟨b % 128 + m * 128, rest, by rw [hg, hd]; rfl, by rw [hg]; simp; omega, ?_, by rw [hk, hg, List.length_cons]; congr 1; omega, fun _ => by omega⟩
      rw [hv, h3, Nat.add_mul, ← Nat.mul_assoc, Nat.add_assoc]
end Go.Proofs.Ytcgimjoebkeifaa.Cod

/- varint.Encode in plain numbers. -/
namespace Go.Proofs.Ytcgimjoebkeifaa.Cod
set_option linter.unusedSimpArgs false
set_option linter.unusedVariables false
open Go.RowKit Go.Proofs.YtcgimjoebkeifaaW.PrintWords Go.Proofs.Ytcgimjoebkeifaa.PQ Go.Proofs.Ytcgimjoebkeifaa.Rd
def ints (l : List Nat) : List Int := l.map fun (x : Nat) => (x : Int)
theorem ints_append (a b : List Nat) : ints (a ++ b) = ints a ++ ints b := by simp [ints]
theorem ints_length (a : List Nat) : (ints a).length = a.length := by simp [ints]
theorem bl_str (l : List Nat) (h : ∀ x ∈ l, x < 256) : bl (strOfNums (ints l)) = l := by
  unfold bl strOfNums ints
  simp only [List.map_map]
  have : ∀ x ∈ l, ((UInt8.toNat ∘ fun n : Int => UInt8.ofNat n.toNat) ∘ fun x : Nat => (x : Int)) x = x := fun x hx => by
    have := h x hx
    simp only [Function.comp, Int.toNat_natCast]
    rw [UInt8.toNat_ofNat']
    omega
  exact (List.map_congr_left this).trans (List.map_id _)
theorem byte_lo (n : Nat) (h : n < 2 ^ 63) : Go.bits .or .u8 ((Go.bits .and .u64 (n : Int) 127) % 256) 128 = ((n % 128 + 128 : Nat) : Int) := by
  have h1 : Go.bits .and .u64 (n : Int) 127 = ((n % 128 : Nat) : Int) := by
    have := (bits_nat .u64 63 (by decide) (fun n h0 h1 => by obtain ⟨k, rfl⟩ := Int.eq_ofNat_of_zero_le h0; exact wrap_u64 k (by exact_mod_cast h1)) n 127 h (by decide)).1
    rw [show ((127 : Nat) : Int) = 127 from rfl] at this
    rw [this, Nat.and_two_pow_sub_one_eq_mod n 7]
  rw [h1]
  have h2 : n % 128 < 128 := Nat.mod_lt _ (by decide)
  rw [show ((n % 128 : Nat) : Int) % 256 = ((n % 128 : Nat) : Int) from by omega]
  have h3 := (bits_nat .u8 8 (by decide) (fun n h0 h1 => wraps_u8 n h0 h1) (n % 128) 128 (by omega) (by decide)).2
  rw [show ((128 : Nat) : Int) = 128 from rfl] at h3
  rw [h3, Nat.or_comm]
  have := Nat.two_pow_add_eq_or_of_lt (b := n % 128) (i := 7) h2 1
  simp only [Nat.reducePow, Nat.mul_one] at this
  rw [← this, Nat.add_comm]
theorem app_groups : ∀ (k : Nat) (n : Nat) (l : List Int), n < 2 ^ 63 → (grp n).length ≤ k → l.length + (grp n).length ≤ 140737488355328 → varint_appendGroups.l0 k l (n : Int) = some (l ++ ints (grp n))
  | 0, n, l, hn, hk, hb => by have := grp_len_pos n; omega
  | k + 1, n, l, hn, hk, hb => by
    rw [varint_appendGroups.l0]
    have hp0 := grp_len_pos n
    by_cases h : n < 128
    · rw [if_neg (by omega), if_pos (by omega), grp_small h]
      simp only [ints, List.map_cons, List.map_nil]
      rw [show (n : Int) % 256 = n from by omega]
    · rw [grp_big h] at hk hb ⊢
      simp only [List.length_cons] at hk hb
      rw [if_pos (by omega), if_pos (by omega), byte_lo n hn, show (n : Int) / 128 = ((n / 128 : Nat) : Int) from by omega]
      have hlen : (l ++ [((n % 128 + 128 : Nat) : Int)]).length = l.length + 1 := by simp
      have hp := grp_len_pos (n / 128)
      rw [app_groups k (n / 128) _ (by omega) (by omega) (by rw [hlen]; omega)]
      simp [ints]
def InR (n : Int) : Prop := -1152921504606846976 ≤ n ∧ n ≤ 1152921504606846976
instance (n : Int) : Decidable (InR n) := by unfold InR; exact inferInstance
def foldN (n : Int) : Nat := if 0 ≤ n then 2 * n.toNat else 2 * (-n).toNat - 1
theorem inRange_f (n : Int) : varint_inRange.f n = some (decide (InR n)) := by
  unfold varint_inRange.f InR
  by_cases h : -1152921504606846976 ≤ n
  · rw [if_pos h]; simp [h]
  · rw [if_neg h]; simp [h]
theorem folded_f {n : Int} (h : InR n) : varint_folded.f n = some ((foldN n : Nat) : Int) := by
  obtain ⟨h1, h2⟩ := h
  unfold varint_folded.f foldN
  by_cases h0 : 0 ≤ n
  · obtain ⟨m, rfl⟩ := Int.eq_ofNat_of_zero_le h0
    rw [if_pos (by omega), if_pos h0, wrap_u64 m (by omega), show 2 * (m : Int) = ((2 * m : Nat) : Int) from by omega, wrap_u64 _ (by omega), Int.toNat_natCast]
  · obtain ⟨m, hm⟩ := Int.eq_ofNat_of_zero_le (by omega : 0 ≤ -n)
    rw [if_neg (by omega), if_neg h0, hm, show wrap64 (m : Int) = m from by unfold wrap64; omega, wrap_u64 m (by omega), show 2 * (m : Int) = ((2 * m : Nat) : Int) from by omega, wrap_u64 _ (by omega), Int.toNat_natCast,
      show ((2 * m : Nat) : Int) - 1 = ((2 * m - 1 : Nat) : Int) from by omega, wrap_u64 _ (by omega)]
theorem foldN_lt {n : Int} (h : InR n) : foldN n < 2 ^ 62 := by
  unfold foldN InR at *
  split <;> omega
/-- The groups of a list. -/
def encN (l : List Int) : List Nat := grp l.length ++ l.flatMap fun n => grp (foldN n)
theorem flat_len (l : List Int) (h : ∀ x ∈ l, InR x) : (l.flatMap fun n => grp (foldN n)).length ≤ 9 * l.length := by
  induction l with
  | nil => simp
  | cons x l ih =>
    have h1 := grp_len9 (n := foldN x) (by have := foldN_lt (h x (by simp)); omega)
    have h2 := ih fun y hy => h y (List.mem_cons_of_mem _ hy)
    simp only [List.flatMap_cons, List.length_append, List.length_cons]
    omega
theorem enc_loop (l : List Int) (hl : l.length ≤ 20000) (hr : ∀ x ∈ l, InR x) : ∀ (d i : Nat) (acc : List Nat), i + d = l.length → acc.length + 9 * d ≤ 1000000000 → ∀ k, d + 12 ≤ k →
    varint_Encode.l0 k (ints acc) l (l.length : Int) (i : Int) = some (strOfNums (ints (acc ++ (l.drop i).flatMap fun n => grp (foldN n))), 0)
  | 0, i, acc, hi, ha, k, hk => by
    obtain ⟨k, rfl⟩ : ∃ m, k = m + 1 := ⟨k - 1, by omega⟩
    rw [varint_Encode.l0, if_neg (by omega), List.drop_eq_nil_of_le (by omega)]
    simp
  | d + 1, i, acc, hi, ha, k, hk => by
    obtain ⟨k, rfl⟩ : ∃ m, k = m + 1 := ⟨k - 1, by omega⟩
    have hlt : i < l.length := by omega
    have hrd : rd l (i : Int) = l[i] := by simp [rd, List.getD_eq_getElem?_getD, hlt]
    have hx := hr l[i] (List.getElem_mem _)
    have h9 := grp_len9 (n := foldN l[i]) (by have := foldN_lt hx; omega)
    rw [varint_Encode.l0, if_pos (by omega), if_pos (by omega), if_pos (by omega), hrd, inRange_f, Option.bind_some, if_pos (by simp [hx]), folded_f hx, Option.bind_some]
    unfold varint_appendGroups.f
    rw [app_groups k _ _ (by have := foldN_lt hx; omega) (by omega) (by rw [ints_length]; omega), Option.bind_some, ← ints_append]
    rw [show wrap64 ((i : Int) + 1) = ((i + 1 : Nat) : Int) from by unfold wrap64; omega]
    rw [enc_loop l hl hr d (i + 1) _ (by omega) (by rw [List.length_append]; omega) k (by omega), List.drop_eq_getElem_cons hlt, List.flatMap_cons, List.append_assoc]
theorem enc_all (l : List Int) (hl : l.length ≤ 20000) (hr : ∀ x ∈ l, InR x) : ∀ k, l.length + 12 ≤ k → varint_Encode.f k l = some (strOfNums (ints (encN l)), 0) := by
  intro k hk
  unfold varint_Encode.f varint_appendGroups.f
  rw [if_neg (by omega), wrap_u64 _ (by omega), show ([] : List Int) = ints [] from rfl, app_groups k l.length (ints []) (by omega) (by have := grp_len9 (n := l.length) (by omega); omega) (by have := grp_len9 (n := l.length) (by omega); simp [ints]; omega), Option.bind_some, ← ints_append, List.nil_append]
  have h0 := grp_len9 (n := l.length) (by omega)
  have := enc_loop l hl hr l.length 0 (grp l.length) (by omega) (by omega) k (by omega)
  rw [show ((0 : Nat) : Int) = 0 from rfl] at this
  rw [this]
  rfl
theorem encN_byte (l : List Int) : ∀ x ∈ encN l, x < 256 := by
  intro x hx
  rcases List.mem_append.1 hx with h | h
  · exact grp_byte _ x h
  · obtain ⟨n, _, hn⟩ := List.mem_flatMap.1 h
    exact grp_byte _ x hn
end Go.Proofs.Ytcgimjoebkeifaa.Cod

/- varint.Decode in plain numbers. -/
namespace Go.Proofs.Ytcgimjoebkeifaa.Cod
set_option linter.unusedSimpArgs false
set_option linter.unusedVariables false
open Go.RowKit Go.Proofs.YtcgimjoebkeifaaW.PrintWords Go.Proofs.Ytcgimjoebkeifaa.PQ Go.Proofs.Ytcgimjoebkeifaa.Rd
theorem bl_extract (s : ByteArray) (a : Nat) : bl (s.extract a s.size) = (bl s).drop a := by
  unfold bl
  rw [Go.Lib.extract_data, List.take_of_length_le (by rw [List.length_drop, Array.length_toList]; exact Nat.le_refl _), List.map_drop]
/-- The number of a folded one. -/
def unfoldN (m : Nat) : Int := if m % 2 = 0 then ((m / 2 : Nat) : Int) else -((m / 2 : Nat) : Int) - 1
theorem unfold_fold {n : Int} (h : InR n) : unfoldN (foldN n) = n := by
  unfold unfoldN foldN InR at *
  split <;> split <;> omega
theorem fold_unfold (m : Nat) : foldN (unfoldN m) = m := by
  unfold unfoldN foldN
  split <;> split <;> omega
theorem unfolded_f (m : Nat) (h : m < 2 ^ 63) : varint_unfolded.f (m : Int) = some (unfoldN m) := by
  unfold varint_unfolded.f unfoldN
  rw [Int.tmod_eq_emod_of_nonneg (by omega), Int.tdiv_eq_ediv_of_nonneg (by omega), show (m : Int) / 2 = ((m / 2 : Nat) : Int) from by omega, wrap_u64 _ (by omega)]
  by_cases h2 : m % 2 = 0
  · rw [if_pos (by omega), if_pos h2, show wrap64 ((m / 2 : Nat) : Int) = ((m / 2 : Nat) : Int) from by unfold wrap64; omega]
  · rw [if_neg (by omega), if_neg h2]
    congr 1
    unfold wrap64
    omega
/-- ReadSigned: what the string begins with, or an error. -/
theorem readSigned_ok (s : ByteArray) (hs : s.size ≤ 140737488351232) (n : Int) (rest : List Nat) (hn : InR n) (h : bl s = grp (foldN n) ++ rest) : varint_ReadSigned.f s = some (n, ((grp (foldN n)).length : Int), 0) := by
  unfold varint_ReadSigned.f varint_read.f
  have hf := foldN_lt hn
  have h9 := grp_len9 (n := foldN n) (by omega)
  have := read_back s 9 0 0 (foldN n) rest (by rw [List.drop_zero]; exact h) (by omega) rfl (by decide) (by omega)
  rw [if_pos hs, Option.bind_some]
  unfold readF
  rw [this]
  simp only [Nat.mul_zero, Nat.pow_zero, Nat.mul_one, Nat.zero_add, if_true]
  rw [unfolded_f _ (by omega), Option.bind_some, unfold_fold hn, inRange_f, Option.bind_some, if_pos (by simp [hn])]
theorem readG_err (s : ByteArray) : ∀ f i n, (readG s f i n).2.2 = 0 ∨ (readG s f i n).2.2 = 11 ∨ (readG s f i n).2.2 = 12
  | 0, i, n => by simp [readG]
  | f + 1, i, n => by
    rw [readG]
    split
    · split
      · simp
      · split
        · simp
        · exact readG_err s f _ _
    · simp
theorem readG_lt (s : ByteArray) : ∀ (f i n : Nat) (v k e : Int), f = 9 - i → n < 2 ^ (7 * i) → readG s f i n = (v, k, e) → 0 ≤ v ∧ v < 9223372036854775808
  | 0, i, n, v, k, e, hf, hn, h => by simp [readG] at h; omega
  | f + 1, i, n, v, k, e, hf, hn, h => by
    rw [readG] at h
    split at h
    · split at h
      · simp only [Prod.mk.injEq] at h; omega
      · rename_i h1 h2
        rw [or_add n _ i hn] at h
        have hb := acc_bound (b := (s[i]'h1).toNat) hn
        split at h
        · simp only [Prod.mk.injEq] at h
          have hp : 2 ^ (7 * (i + 1)) ≤ 2 ^ 63 := Nat.pow_le_pow_right (by decide) (by omega)
          rw [← h.1]
          have : (2 : Nat) ^ 63 = 9223372036854775808 := by decide
          omega
        · exact readG_lt s f (i + 1) _ v k e (by omega) hb h
    · simp only [Prod.mk.injEq] at h; omega
theorem readSigned_cases (s : ByteArray) (hs : s.size ≤ 140737488351232) :
    (∃ e : Int, ¬ e = 0 ∧ ∃ a b, varint_ReadSigned.f s = some (a, b, e)) ∨ (∃ (n : Int) (rest : List Nat), InR n ∧ bl s = grp (foldN n) ++ rest ∧ varint_ReadSigned.f s = some (n, ((grp (foldN n)).length : Int), 0)) := by
  obtain ⟨⟨v, k, e⟩, hr⟩ : ∃ r, readG s 9 0 0 = r := ⟨_, rfl⟩
  by_cases he : e = 0
  · subst he
    obtain ⟨m, rest, hd, hl, hv, hk, _⟩ := read_is s 9 0 0 v k rfl (by omega) (by decide) hr
    rw [List.drop_zero] at hd
    simp only [Nat.mul_zero, Nat.pow_zero, Nat.mul_one, Nat.zero_add] at hv hk
    have hm : m < 2 ^ 63 := by
      have h1 := readG_lt s 9 0 0 v k 0 rfl (by decide) hr
      have : (2 : Nat) ^ 63 = 9223372036854775808 := by decide
      omega
    by_cases hin : InR (unfoldN m)
    · right
      exact ⟨unfoldN m, rest, hin, by rw [fold_unfold]; exact hd, readSigned_ok s hs _ rest hin (by rw [fold_unfold]; exact hd)⟩
    · left
      refine ⟨12, by omega, 0, 0, ?_⟩
      unfold varint_ReadSigned.f varint_read.f
      rw [if_pos hs, Option.bind_some]
      unfold readF
      rw [hr]
      simp only [if_true]
      rw [hv, unfolded_f _ hm, Option.bind_some, inRange_f, Option.bind_some, if_neg (by simp [hin])]
  · left
    refine ⟨e, he, 0, 0, ?_⟩
    unfold varint_ReadSigned.f varint_read.f
    rw [if_pos hs, Option.bind_some]
    unfold readF
    rw [hr]
    simp only
    rw [if_neg he]
end Go.Proofs.Ytcgimjoebkeifaa.Cod

/- varint.Decode in plain numbers: the loop. -/
namespace Go.Proofs.Ytcgimjoebkeifaa.Cod
set_option linter.unusedSimpArgs false
set_option linter.unusedVariables false
open Go.RowKit Go.Proofs.YtcgimjoebkeifaaW.PrintWords Go.Proofs.Ytcgimjoebkeifaa.PQ Go.Proofs.Ytcgimjoebkeifaa.Rd
def fl (m : List Int) : List Nat := m.flatMap fun n => grp (foldN n)
theorem size_ext (s : ByteArray) (a : Nat) : (s.extract a s.size).size = s.size - a := by simp [ByteArray.size_extract]
theorem dec_step {s : ByteArray} {at_ : Nat} {l : List Int} {c i : Nat} (hs : s.size ≤ 140737488351232) (ha : at_ ≤ s.size) (hi : i < c) (k : Nat) :
    varint_Decode.l0 (k + 1) s (at_ : Int) l (c : Int) (i : Int) = (varint_ReadSigned.f (s.extract at_ s.size)).bind fun bt => (if bt.2.2 = 0 then (if l.length < 17592186044416 then (varint_Decode.l0 k s (wrap64 ((at_ : Int) + bt.2.1)) (l ++ [bt.1]) (c : Int) (wrap64 ((i : Int) + 1))) else (none)) else (some (([] : List Int), bt.2.2))) := by
  rw [varint_Decode.l0, if_pos (by omega), if_pos (by omega), if_pos (by omega), Int.toNat_natCast]
theorem drop_pre {s : ByteArray} {at_ : Nat} {g rest : List Nat} (h : (bl s).drop at_ = g ++ rest) (hg : 0 < g.length) : at_ + g.length ≤ s.size ∧ (bl s).drop (at_ + g.length) = rest := by
  have h1 := congrArg List.length h
  rw [List.length_drop, bl_len, List.length_append] at h1
  refine ⟨by omega, ?_⟩
  rw [← List.drop_drop, h, List.drop_left]
theorem dec_back (s : ByteArray) (hs : s.size ≤ 140737488351232) (c : Nat) (hc : c ≤ 20000) : ∀ (m : List Int) (at_ i : Nat) (l : List Int), i + m.length = c → (∀ x ∈ m, InR x) → l.length = i → at_ ≤ s.size → (bl s).drop at_ = fl m → ∀ k, m.length + 1 ≤ k →
    varint_Decode.l0 k s (at_ : Int) l (c : Int) (i : Int) = some (l ++ m, 0)
  | [], at_, i, l, hi, hr, hl, ha, hd, k, hk => by
    obtain ⟨k, rfl⟩ : ∃ q, k = q + 1 := ⟨k - 1, by omega⟩
    have h1 := congrArg List.length hd
    rw [List.length_drop, bl_len] at h1
    simp only [fl, List.flatMap_nil, List.length_nil] at h1 hi
    rw [varint_Decode.l0, if_neg (by omega), if_pos (by omega)]
    simp
  | x :: m, at_, i, l, hi, hr, hl, ha, hd, k, hk => by
    obtain ⟨k, rfl⟩ : ∃ q, k = q + 1 := ⟨k - 1, by omega⟩
    have hx := hr x (by simp)
    simp only [List.length_cons] at hi hk
    have hd' : (bl s).drop at_ = grp (foldN x) ++ fl m := by rw [hd]; simp [fl]
    obtain ⟨h1, h2⟩ := drop_pre hd' (grp_len_pos _)
    rw [dec_step hs ha (by omega) k, readSigned_ok _ (by rw [size_ext]; omega) x (fl m) hx (by rw [bl_extract]; exact hd'), Option.bind_some, if_pos rfl, if_pos (by omega)]
    rw [show wrap64 ((at_ : Int) + ((grp (foldN x)).length : Int)) = ((at_ + (grp (foldN x)).length : Nat) : Int) from by unfold wrap64; omega, show wrap64 ((i : Int) + 1) = ((i + 1 : Nat) : Int) from by unfold wrap64; omega]
    rw [dec_back s hs c hc m _ (i + 1) (l ++ [x]) (by omega) (fun y hy => hr y (List.mem_cons_of_mem _ hy)) (by simp; omega) h1 h2 k (by omega)]
    simp
theorem dec_is (s : ByteArray) (hs : s.size ≤ 140737488351232) (c : Nat) (hc : c ≤ 20000) : ∀ (d at_ i : Nat) (l : List Int), i + d = c → l.length = i → at_ ≤ s.size → ∀ k, d + 1 ≤ k →
    (∃ e : Int, ¬ e = 0 ∧ varint_Decode.l0 k s (at_ : Int) l (c : Int) (i : Int) = some ([], e)) ∨ (∃ m : List Int, m.length = d ∧ (∀ x ∈ m, InR x) ∧ (bl s).drop at_ = fl m ∧ varint_Decode.l0 k s (at_ : Int) l (c : Int) (i : Int) = some (l ++ m, 0))
  | 0, at_, i, l, hi, hl, ha, k, hk => by
    obtain ⟨k, rfl⟩ : ∃ q, k = q + 1 := ⟨k - 1, by omega⟩
    rw [varint_Decode.l0, if_neg (by omega)]
    by_cases h : at_ = s.size
    · right
      refine ⟨[], rfl, fun x hx => by simp at hx, ?_, ?_⟩
      · rw [List.drop_eq_nil_of_le (by rw [bl_len]; omega)]; rfl
      · rw [if_pos (by omega)]; simp
    · left
      exact ⟨12, by omega, by rw [if_neg (by omega)]⟩
  | d + 1, at_, i, l, hi, hl, ha, k, hk => by
    obtain ⟨k, rfl⟩ : ∃ q, k = q + 1 := ⟨k - 1, by omega⟩
    rw [dec_step hs ha (by omega) k]
    rcases readSigned_cases (s.extract at_ s.size) (by rw [size_ext]; omega) with ⟨e, he, a, b, hr⟩ | ⟨n, rest, hn, hd, hr⟩
    · left
      exact ⟨e, he, by rw [hr, Option.bind_some, if_neg he]⟩
    · rw [bl_extract] at hd
      obtain ⟨h1, h2⟩ := drop_pre hd (grp_len_pos _)
      rw [hr, Option.bind_some, if_pos rfl, if_pos (by omega)]
      rw [show wrap64 ((at_ : Int) + ((grp (foldN n)).length : Int)) = ((at_ + (grp (foldN n)).length : Nat) : Int) from by unfold wrap64; omega, show wrap64 ((i : Int) + 1) = ((i + 1 : Nat) : Int) from by unfold wrap64; omega]
      rcases dec_is s hs c hc d _ (i + 1) (l ++ [n]) (by omega) (by simp; omega) h1 k (by omega) with ⟨e, he, hx⟩ | ⟨m, hm, hr2, hd2, hx⟩
      · left
        exact ⟨e, he, hx⟩
      · right
        refine ⟨n :: m, by simp [hm], fun x hx => (List.mem_cons.1 hx).elim (fun h => h ▸ hn) (hr2 x), ?_, by rw [hx]; simp⟩
        rw [hd, ← h2, hd2]
        simp [fl]
/-- Read, for the number of elements. -/
theorem read_cases (s : ByteArray) (hs : s.size ≤ 140737488351232) :
    (∃ e : Int, ¬ e = 0 ∧ ∃ a b, varint_Read.f s = some (a, b, e)) ∨ (∃ (n : Nat) (rest : List Nat), n ≤ 1152921504606846976 ∧ bl s = grp n ++ rest ∧ varint_Read.f s = some ((n : Int), ((grp n).length : Int), 0)) := by
  obtain ⟨⟨v, k, e⟩, hr⟩ : ∃ r, readG s 9 0 0 = r := ⟨_, rfl⟩
  have hf : varint_read.f s = some (v, k, e) := by unfold varint_read.f readF; rw [if_pos hs, hr]
  unfold varint_Read.f
  rw [hf, Option.bind_some]
  by_cases he : e = 0
  · subst he
    obtain ⟨m, rest, hd, hl, hv, hk, _⟩ := read_is s 9 0 0 v k rfl (by omega) (by decide) hr
    rw [List.drop_zero] at hd
    simp only [Nat.mul_zero, Nat.pow_zero, Nat.mul_one, Nat.zero_add] at hv hk
    subst hv
    subst hk
    simp only [if_true]
    by_cases hb : (m : Int) > 1152921504606846976
    · left
      exact ⟨12, by omega, 0, 0, by rw [if_pos hb]⟩
    · right
      exact ⟨m, rest, by omega, hd, by rw [if_neg hb, show wrap64 (m : Int) = m from by unfold wrap64; omega]⟩
  · left
    exact ⟨e, he, 0, 0, by simp only; rw [if_neg he]⟩
theorem read_ok (s : ByteArray) (hs : s.size ≤ 140737488351232) (n : Nat) (rest : List Nat) (hn : n ≤ 1152921504606846976) (h : bl s = grp n ++ rest) : varint_Read.f s = some ((n : Int), ((grp n).length : Int), 0) := by
  have h9 := grp_len9 (n := n) (by omega)
  have := read_back s 9 0 0 n rest (by rw [List.drop_zero]; exact h) (by omega) rfl (by decide) (by omega)
  unfold varint_Read.f varint_read.f readF
  rw [if_pos hs, Option.bind_some, this]
  simp only [Nat.mul_zero, Nat.pow_zero, Nat.mul_one, Nat.zero_add, if_true]
  rw [if_neg (by omega), show wrap64 (n : Int) = n from by unfold wrap64; omega]
theorem decode_back (s : ByteArray) (hs : s.size ≤ 140737488351232) (l : List Int) (hl : l.length ≤ 20000) (hr : ∀ x ∈ l, InR x) (h : bl s = encN l) : ∀ k, l.length + 1 ≤ k → varint_Decode.f k s = some (l, 0) := by
  intro k hk
  unfold varint_Decode.f
  rw [read_ok s hs l.length _ (by omega) h, Option.bind_some, if_pos rfl, if_neg (by omega)]
  have hmn : 0 ≤ mn (l.length : Int) (s.size : Int) ∧ (mn (l.length : Int) (s.size : Int)).toNat ≤ 35184372088832 := by unfold mn; split <;> omega
  rw [if_pos hmn.1, if_pos hmn.2]
  obtain ⟨h1, h2⟩ := drop_pre (s := s) (at_ := 0) (by rw [List.drop_zero]; exact h) (grp_len_pos _)
  rw [Nat.zero_add] at h1 h2
  have := dec_back s hs l.length hl l (grp l.length).length 0 [] (by omega) hr rfl h1 h2 k hk
  rw [show ((0 : Nat) : Int) = 0 from rfl] at this
  rw [this, List.nil_append]
theorem decode_cases (s : ByteArray) (hs : s.size ≤ 140737488351232) : ∀ k, 20001 ≤ k →
    (∃ e : Int, ¬ e = 0 ∧ varint_Decode.f k s = some ([], e)) ∨ (∃ l : List Int, l.length ≤ 20000 ∧ (∀ x ∈ l, InR x) ∧ bl s = encN l ∧ varint_Decode.f k s = some (l, 0)) := by
  intro k hk
  unfold varint_Decode.f
  rcases read_cases s hs with ⟨e, he, a, b, hr⟩ | ⟨n, rest, hn, hd, hr⟩
  · left
    exact ⟨e, he, by rw [hr, Option.bind_some, if_neg he]⟩
  · rw [hr, Option.bind_some, if_pos rfl]
    by_cases hc : (n : Int) > 20000
    · left
      exact ⟨4, by omega, by simp only; rw [if_pos hc]⟩
    · simp only
      have hmn : 0 ≤ mn (n : Int) (s.size : Int) ∧ (mn (n : Int) (s.size : Int)).toNat ≤ 35184372088832 := by unfold mn; split <;> omega
      rw [if_neg hc, if_pos hmn.1, if_pos hmn.2]
      obtain ⟨h1, h2⟩ := drop_pre (s := s) (at_ := 0) (by rw [List.drop_zero]; exact hd) (grp_len_pos _)
      rw [Nat.zero_add] at h1 h2
      have := dec_is s hs n (by omega) n (grp n).length 0 [] (by omega) rfl h1 k (by omega)
      rw [show ((0 : Nat) : Int) = 0 from rfl] at this
      rcases this with ⟨e, he, hx⟩ | ⟨m, hm, hr2, hd2, hx⟩
      · exact .inl ⟨e, he, hx⟩
      · right
        refine ⟨m, by omega, hr2, ?_, by rw [hx, List.nil_append]⟩
        unfold encN
        rw [hd, ← h2, hd2, hm]
        rfl
end Go.Proofs.Ytcgimjoebkeifaa.Cod

/- What a valid digest is; both Checks say so. No conditions. -/
namespace Go.Proofs.Ytcgimjoebkeifaa.Law
set_option linter.unusedSimpArgs false
set_option linter.unusedVariables false
open Go.RowKit Go.Proofs.YtcgimjoebkeifaaW.PrintWords Go.Proofs.Ytcgimjoebkeifaa.PQ Go.Proofs.Ytcgimjoebkeifaa.Quan Go.Proofs.Ytcgimjoebkeifaa.QAdd
def NodeV (p thr c : Int) (x : S63) : Prop := 1 ≤ x.f0 ∧ x.f0 < 2 * p ∧ 1 ≤ x.f1 ∧ x.f1 ≤ c ∧ (x.f0 < p → x.f1 ≤ thr)
instance (p thr c : Int) (x : S63) : Decidable (NodeV p thr c x) := by unfold NodeV; exact inferInstance
structure Valid (b K c : Int) (xs : List S63) : Prop where
  b1 : 1 ≤ b
  b2 : b ≤ 20
  K1 : 1 ≤ K
  K2 : K ≤ 10000
  c1 : 0 ≤ c
  c2 : c ≤ 1099511627776
  len : xs.length ≤ 2000
  asc : Asc xs
  node : ∀ x ∈ xs, NodeV (2 ^ b.toNat) (c / K) c x
  sum : tot xs = c
theorem shl1 {b : Int} (h1 : 1 ≤ b) (h2 : b ≤ 20) : shl .i64 1 b = 2 ^ b.toNat := by
  obtain ⟨n, rfl⟩ := Int.eq_ofNat_of_zero_le (by omega : 0 ≤ b)
  have : ∀ n : Nat, n ≤ 20 → shl .i64 1 (n : Int) = 2 ^ (n : Int).toNat := by decide
  exact this n (by omega)
theorem shl2 {b : Int} (h1 : 1 ≤ b) (h2 : b ≤ 20) : shl .i64 2 b = 2 * 2 ^ b.toNat := by
  obtain ⟨n, rfl⟩ := Int.eq_ofNat_of_zero_le (by omega : 0 ≤ b)
  have : ∀ n : Nat, n ≤ 20 → shl .i64 2 (n : Int) = 2 * 2 ^ (n : Int).toNat := by decide
  exact this n (by omega)
theorem quo_thr {c K : Int} (h1 : 0 ≤ c) (h2 : c ≤ 1099511627776) (hK : 1 ≤ K) : wrap64 (Int.tdiv c K) = c / K := by
  rw [Int.tdiv_eq_ediv_of_nonneg h1]
  have := Int.ediv_nonneg h1 (by omega : 0 ≤ K)
  have := Int.ediv_le_self K h1
  unfold wrap64
  omega
theorem pow_pos20 {b : Int} (h1 : 1 ≤ b) (h2 : b ≤ 20) : (2 : Int) ≤ 2 ^ b.toNat ∧ (2 : Int) ^ b.toNat ≤ 1048576 := by
  obtain ⟨n, rfl⟩ := Int.eq_ofNat_of_zero_le (by omega : 0 ≤ b)
  have : ∀ n : Nat, n ≤ 20 → 1 ≤ n → (2 : Int) ≤ 2 ^ (n : Int).toNat ∧ (2 : Int) ^ (n : Int).toNat ≤ 1048576 := by decide
  exact this n (by omega) (by omega)
section ref
variable (b K c : Int) (xs : List S63)
theorem ref_step (m : Nat) (sum i : Int) (hb1 : 1 ≤ b) (hb2 : b ≤ 20) (hK : 1 ≤ K) (hc1 : 0 ≤ c) (hc2 : c ≤ 1099511627776) (h0 : 0 ≤ i) (h1 : i < xs.length) (hl : xs.length ≤ 2000) :
    lookoutref31_Check.l0 (m + 2) sum i b K c xs = (if NodeV (2 ^ b.toNat) (c / K) c (rd_T63 xs i) ∧ (0 < i → (rd_T63 xs (i - 1)).f0 < (rd_T63 xs i).f0) then lookoutref31_Check.l0 m (wrap64 (sum + (rd_T63 xs i).f1)) (wrap64 (i + 1)) b K c xs else some 1) := by
  rw [lookoutref31_Check.l0]
  have hw : wrap64 (i - 1) = i - 1 := by unfold wrap64; omega
  simp only [lookoutref31_Check.j2, shl1 hb1 hb2, shl2 hb1 hb2, quo_thr hc1 hc2 hK, hw, if_true, Bool.false_eq_true, if_false, decide_eq_true_eq]
  generalize rd_T63 xs i = x
  generalize rd_T63 xs (i - 1) = y
  generalize (2 : Int) ^ b.toNat = p
  generalize c / K = thr
  generalize lookoutref31_Check.l0 m (wrap64 (sum + x.f1)) (wrap64 (i + 1)) b K c xs = R
  have no : ∀ {q : Prop} [Decidable q], ¬ q → (some (1 : Int) = if q then R else some 1) := fun h => (if_neg h).symm
  rw [if_pos h1, if_pos h0, if_pos (by omega : 0 ≤ b)]
  by_cases g1 : x.f0 < 1
  · rw [if_pos g1]
    exact no (fun ⟨⟨a1, a2, a3, a4, a5⟩, a6⟩ => by omega)
  rw [if_neg g1]
  by_cases g2 : x.f0 ≥ 2 * p
  · rw [if_pos g2]
    exact no (fun ⟨⟨a1, a2, a3, a4, a5⟩, a6⟩ => by omega)
  rw [if_neg g2]
  have tail : (if x.f1 < 1 then some 1 else if x.f1 > c then some 1 else if x.f0 < p then if K = 0 then none else (if x.f1 > thr then some 1 else R) else R) =
      if 1 ≤ x.f1 ∧ x.f1 ≤ c ∧ (x.f0 < p → x.f1 ≤ thr) then R else some 1 := by
    by_cases g3 : x.f1 < 1
    · rw [if_pos g3]
      exact no (fun ⟨a3, a4, a5⟩ => by omega)
    rw [if_neg g3]
    by_cases g4 : x.f1 > c
    · rw [if_pos g4]
      exact no (fun ⟨a3, a4, a5⟩ => by omega)
    rw [if_neg g4]
    by_cases g5 : x.f0 < p
    · rw [if_pos g5, if_neg (by omega : ¬ K = 0)]
      by_cases g6 : x.f1 > thr
      · rw [if_pos g6]
        exact no (fun ⟨a3, a4, a5⟩ => by omega)
      · rw [if_neg g6, if_pos ⟨by omega, by omega, fun _ => by omega⟩]
    · rw [if_neg g5, if_pos ⟨by omega, by omega, fun h => absurd h g5⟩]
  by_cases g7 : i > 0
  · rw [if_pos g7, if_pos (by omega : 0 ≤ i - 1), if_pos (by omega : i - 1 < (xs.length : Int))]
    by_cases g8 : y.f0 ≥ x.f0
    · rw [if_pos g8]
      exact no (fun ⟨_, a6⟩ => by have := a6 g7; omega)
    rw [if_neg g8, tail]
    by_cases g9 : 1 ≤ x.f1 ∧ x.f1 ≤ c ∧ (x.f0 < p → x.f1 ≤ thr)
    · rw [if_pos g9, if_pos ⟨⟨by omega, by omega, g9⟩, fun _ => by omega⟩]
    · rw [if_neg g9]
      exact no (fun h => g9 h.1.2.2)
  · rw [if_neg g7, tail]
    by_cases g9 : 1 ≤ x.f1 ∧ x.f1 ≤ c ∧ (x.f0 < p → x.f1 ≤ thr)
    · rw [if_pos g9, if_pos ⟨⟨by omega, by omega, g9⟩, fun h => absurd h g7⟩]
    · rw [if_neg g9]
      exact no (fun h => g9 h.1.2.2)
theorem ref_end (m : Nat) (sum i : Int) (h1 : ¬ i < xs.length) : lookoutref31_Check.l0 (m + 1) sum i b K c xs = if sum = c then some 0 else some 1 := by
  rw [lookoutref31_Check.l0, if_neg h1]
/-- The first i nodes are as they should be. -/
def Good (i : Nat) : Prop := ∀ j : Nat, j < i → NodeV (2 ^ b.toNat) (c / K) c (rd_T63 xs j) ∧ (0 < j → (rd_T63 xs ((j : Int) - 1)).f0 < (rd_T63 xs j).f0)
end ref
theorem tot_take (xs : List S63) (i : Nat) (h : i < xs.length) : tot (xs.take (i + 1)) = tot (xs.take i) + (rd_T63 xs i).f1 := by
  induction xs generalizing i with
  | nil => simp at h
  | cons x xs ih =>
    cases i with
    | zero => simp [tot, rd_T63]
    | succ i =>
      have := ih i (by simpa using h)
      have e1 : rd_T63 (x :: xs) ((i + 1 : Nat) : Int) = rd_T63 xs i := by simp [rd_T63]
      rw [e1, List.take_succ_cons, List.take_succ_cons]
      simp only [tot]
      rw [this]
      omega
theorem rd_mem (xs : List S63) (i : Nat) (h : i < xs.length) : rd_T63 xs i = xs[i] := by simp [rd_T63, List.getD_eq_getElem?_getD, h]
theorem good_succ {b K c : Int} {xs : List S63} {i : Nat} (hg : Good b K c xs i) (h : NodeV (2 ^ b.toNat) (c / K) c (rd_T63 xs i) ∧ ((0 : Int) < (i : Int) → (rd_T63 xs ((i : Int) - 1)).f0 < (rd_T63 xs i).f0)) : Good b K c xs (i + 1) := by
  intro j hj
  rcases Nat.lt_or_ge j i with h1 | h1
  · exact hg j h1
  · have e : j = i := Nat.le_antisymm (Nat.le_of_lt_succ hj) h1
    subst e
    exact ⟨h.1, fun h2 => h.2 (Int.natCast_pos.2 h2)⟩
theorem sum_next {s x c : Int} {i n : Nat} (hb : 0 ≤ s ∧ s ≤ i * 1099511627776) (hx : 1 ≤ x ∧ x ≤ c) (hc : c ≤ 1099511627776) (hi : i < n) (hn : n ≤ 2000) : wrap64 (s + x) = s + x ∧ 0 ≤ s + x ∧ s + x ≤ ((i + 1 : Nat) : Int) * 1099511627776 := by
  unfold wrap64
  omega
theorem idx_next {i n : Nat} (hi : i < n) (hn : n ≤ 2000) : wrap64 ((i : Int) + 1) = ((i + 1 : Nat) : Int) := by unfold wrap64; omega
theorem ref_loop (b K c : Int) (xs : List S63) (hb1 : 1 ≤ b) (hb2 : b ≤ 20) (hK : 1 ≤ K) (hc1 : 0 ≤ c) (hc2 : c ≤ 1099511627776) (hl : xs.length ≤ 2000) (d : Nat) : ∀ (i : Nat) (sum : Int), i + d = xs.length → sum = tot (xs.take i) → (0 ≤ sum ∧ sum ≤ i * 1099511627776) → Good b K c xs i →
    ∃ r, (∀ k, 2 * d + 1 ≤ k → lookoutref31_Check.l0 k sum i b K c xs = some r) ∧ (r = 0 → Good b K c xs xs.length ∧ tot xs = c) := by
  induction d with
  | zero =>
    intro i sum hd hs hb hg
    obtain rfl : i = xs.length := hd
    refine ⟨if sum = c then 0 else 1, fun k hk => ?_, fun hr => ?_⟩
    · obtain ⟨m, rfl⟩ : ∃ m, k = m + 1 := ⟨k - 1, by omega⟩
      rw [ref_end b K c xs m sum _ (Int.lt_irrefl _)]
      split <;> rfl
    · by_cases h : sum = c
      · rw [List.take_of_length_le (Nat.le_refl _)] at hs
        exact ⟨hg, by rw [← hs]; exact h⟩
      · rw [if_neg h] at hr; exact absurd hr (by decide)
  | succ d ih =>
    intro i sum hd hs hb hg
    have hi : i < xs.length := by omega
    by_cases hn : NodeV (2 ^ b.toNat) (c / K) c (rd_T63 xs i) ∧ ((0 : Int) < (i : Int) → (rd_T63 xs ((i : Int) - 1)).f0 < (rd_T63 xs i).f0)
    · obtain ⟨e1, e3, e4⟩ := sum_next hb ⟨hn.1.2.2.1, hn.1.2.2.2.1⟩ hc2 hi hl
      obtain ⟨r, h1, h2⟩ := ih (i + 1) (sum + (rd_T63 xs i).f1) (by omega) (by rw [tot_take xs i hi, hs]) ⟨e3, e4⟩ (good_succ hg hn)
      refine ⟨r, fun k hk => ?_, h2⟩
      obtain ⟨m, rfl⟩ : ∃ m, k = m + 2 := ⟨k - 2, (Nat.sub_add_cancel (Nat.le_trans (by omega) hk)).symm⟩
      rw [ref_step b K c xs m sum i hb1 hb2 hK hc1 hc2 (Int.natCast_nonneg i) (Int.ofNat_lt.2 hi) hl, if_pos hn, e1, idx_next hi hl]
      exact h1 m (by omega)
    · refine ⟨1, fun k hk => ?_, fun h => absurd h (by decide)⟩
      obtain ⟨m, rfl⟩ : ∃ m, k = m + 2 := ⟨k - 2, (Nat.sub_add_cancel (Nat.le_trans (by omega) hk)).symm⟩
      rw [ref_step b K c xs m sum i hb1 hb2 hK hc1 hc2 (Int.natCast_nonneg i) (Int.ofNat_lt.2 hi) hl, if_neg hn]
theorem asc_of_good {b K c : Int} {xs : List S63} (h : Good b K c xs xs.length) : Asc xs := by
  have step : ∀ (d i : Nat), i + d + 1 < xs.length → (rd_T63 xs i).f0 < (rd_T63 xs ((i + d + 1 : Nat) : Int)).f0 := by
    intro d
    induction d with
    | zero =>
      intro i hi
      have := (h (i + 1) (by omega)).2 (by omega)
      rw [show (((i + 1 : Nat) : Int) - 1) = (i : Int) from by omega] at this
      exact this
    | succ d ih =>
      intro i hi
      have h1 := ih i (by omega)
      have h2 := (h (i + d + 1 + 1) (by omega)).2 (by omega)
      rw [show (((i + d + 1 + 1 : Nat) : Int) - 1) = ((i + d + 1 : Nat) : Int) from by omega] at h2
      have e : i + (d + 1) + 1 = i + d + 1 + 1 := by omega
      rw [e]
      omega
  unfold Asc
  rw [List.pairwise_iff_getElem]
  intro i j hi hj hij
  have := step (j - i - 1) i (by omega)
  rw [show i + (j - i - 1) + 1 = j from by omega, rd_mem xs i hi, rd_mem xs j hj] at this
  exact this
/-- The reference's Check ends, and says OK of valid digests alone. -/
theorem ref_check (b K c : Int) (xs : List S63) (hl : xs.length ≤ 24) : ∃ k r, lookoutref31_Check.f k b K c xs = some r ∧ (r = 0 → Valid b K c xs) := by
  have one : ∀ k, lookoutref31_Check.j0 (k + 1) true b K c xs = some 1 := fun k => by rw [lookoutref31_Check.j0, if_pos rfl]
  by_cases h1 : b < 1
  · exact ⟨1, 1, by unfold lookoutref31_Check.f; rw [if_pos h1]; exact one 0, fun h => by omega⟩
  by_cases h2 : b > 20
  · exact ⟨1, 1, by unfold lookoutref31_Check.f; rw [if_neg h1, if_pos h2]; exact one 0, fun h => by omega⟩
  by_cases h3 : K < 1
  · exact ⟨1, 1, by unfold lookoutref31_Check.f; rw [if_neg h1, if_neg h2, if_pos h3]; exact one 0, fun h => by omega⟩
  by_cases h4 : K > 10000
  · exact ⟨1, 1, by unfold lookoutref31_Check.f; rw [if_neg h1, if_neg h2, if_neg h3, if_pos h4]; exact one 0, fun h => by omega⟩
  by_cases h5 : c < 0
  · exact ⟨1, 1, by unfold lookoutref31_Check.f; rw [if_neg h1, if_neg h2, if_neg h3, if_neg h4, if_pos h5]; exact one 0, fun h => by omega⟩
  by_cases h6 : c > 1099511627776
  · exact ⟨1, 1, by unfold lookoutref31_Check.f; rw [if_neg h1, if_neg h2, if_neg h3, if_neg h4, if_neg h5, if_pos h6]; exact one 0, fun h => by omega⟩
  obtain ⟨r, hr1, hr2⟩ := ref_loop b K c xs (by omega) (by omega) (by omega) (by omega) (by omega) (by omega) xs.length 0 0 (by omega) rfl ⟨by omega, by omega⟩ (fun j hj => by omega)
  refine ⟨2 * xs.length + 2, r, ?_, fun h => ?_⟩
  · unfold lookoutref31_Check.f
    rw [if_neg h1, if_neg h2, if_neg h3, if_neg h4, if_neg h5, if_neg h6, lookoutref31_Check.j0, if_neg (by simp; omega)]
    exact hr1 _ (Nat.le_refl _)
  · obtain ⟨hg, ht⟩ := hr2 h
    refine ⟨by omega, by omega, by omega, by omega, by omega, by omega, by omega, asc_of_good hg, fun x hx => ?_, ht⟩
    obtain ⟨i, hi, rfl⟩ := List.getElem_of_mem hx
    rw [← rd_mem xs i hi]
    exact (hg i hi).1
end Go.Proofs.Ytcgimjoebkeifaa.Law

/- The program's Check says OK of every valid digest; Same of equal ones. No conditions. -/
namespace Go.Proofs.Ytcgimjoebkeifaa.Law
set_option linter.unusedSimpArgs false
set_option linter.unusedVariables false
open Go.RowKit Go.Proofs.YtcgimjoebkeifaaW.PrintWords Go.Proofs.Ytcgimjoebkeifaa.PQ Go.Proofs.Ytcgimjoebkeifaa.Quan Go.Proofs.Ytcgimjoebkeifaa.QAdd
theorem chk_step (b K c p thr : Int) (xs : List S63) (m : Nat) (sum bef i : Int) (hb1 : 1 ≤ b) (hb2 : b ≤ 20) (hp : p = 2 ^ b.toNat) (h0 : 0 ≤ i) (h1 : i < xs.length) (hn : NodeV p thr c (rd_T63 xs i)) (hbf : bef < (rd_T63 xs i).f0) :
    qdigest_Check.l0 (m + 2) thr sum bef xs xs.length i b K c xs = qdigest_Check.l0 m thr (wrap64 (sum + (rd_T63 xs i).f1)) (rd_T63 xs i).f0 xs xs.length (wrap64 (i + 1)) b K c xs := by
  rw [qdigest_Check.l0]
  simp only [qdigest_Check.j3, shl1 hb1 hb2, shl2 hb1 hb2]
  rw [← hp]
  obtain ⟨n1, n2, n3, n4, n5⟩ := hn
  generalize rd_T63 xs i = x at *
  rw [if_pos h1, if_pos h0, if_pos h1, if_neg (by omega : ¬ x.f0 ≤ bef), if_pos (by omega : 0 ≤ b), if_neg (by omega : ¬ x.f0 ≥ 2 * p), if_neg (by omega : ¬ x.f1 < 1), if_neg (by simpa using n4)]
  rw [if_pos (by omega : 0 ≤ b)]
  by_cases g : x.f0 < p
  · rw [if_pos g, if_neg (by have := n5 g; omega)]
  · rw [if_neg g]
theorem chk_loop (b K c : Int) (xs : List S63) (V : Valid b K c xs) (d : Nat) : ∀ (i : Nat) (bef : Int), i + d = xs.length → ((i = 0 ∧ bef = 0) ∨ ∃ j, i = j + 1 ∧ bef = (rd_T63 xs j).f0) → (0 ≤ tot (xs.take i) ∧ tot (xs.take i) ≤ i * 1099511627776) →
    ∀ k, 2 * d + 1 ≤ k → qdigest_Check.l0 k (c / K) (tot (xs.take i)) bef xs xs.length i b K c xs = some 0 := by
  induction d with
  | zero =>
    intro i bef hd _ _ k hk
    obtain rfl : i = xs.length := hd
    obtain ⟨m, rfl⟩ : ∃ m, k = m + 1 := ⟨k - 1, by omega⟩
    rw [qdigest_Check.l0, if_neg (Int.lt_irrefl _), List.take_of_length_le (Nat.le_refl _), if_pos V.sum]
  | succ d ih =>
    intro i bef hd hbf hb k hk
    have hi : i < xs.length := by omega
    have hn := V.node _ (List.getElem_mem hi)
    rw [← rd_mem xs i hi] at hn
    have hbf2 : bef < (rd_T63 xs i).f0 := by
      rcases hbf with ⟨rfl, rfl⟩ | ⟨j, rfl, rfl⟩
      · have := hn.1; omega
      · have := List.pairwise_iff_getElem.1 V.asc j (j + 1) (by omega) hi (by omega)
        rw [rd_mem xs j (by omega), rd_mem xs (j + 1) hi]
        exact this
    obtain ⟨e1, e3, e4⟩ := sum_next hb ⟨hn.2.2.1, hn.2.2.2.1⟩ V.c2 hi V.len
    obtain ⟨m, rfl⟩ : ∃ m, k = m + 2 := ⟨k - 2, by omega⟩
    rw [chk_step b K c _ (c / K) xs m _ bef i V.b1 V.b2 rfl (Int.natCast_nonneg i) (Int.ofNat_lt.2 hi) hn hbf2, e1, idx_next hi V.len, ← tot_take xs i hi]
    exact ih (i + 1) _ (by omega) (.inr ⟨i, rfl, rfl⟩) (by rw [tot_take xs i hi]; exact ⟨e3, e4⟩) m (by omega)
theorem chk_valid {b K c : Int} {xs : List S63} (V : Valid b K c xs) : ∀ k, 2 * xs.length + 4 ≤ k → qdigest_Check.f k b K c xs = some 0 := by
  intro k hk
  obtain ⟨m, rfl⟩ : ∃ m, k = m + 2 := ⟨k - 2, by omega⟩
  have h1 := V.b1
  have h2 := V.b2
  have h3 := V.K1
  have h4 := V.K2
  have h5 := V.c1
  have h6 := V.c2
  have h7 := V.len
  unfold qdigest_Check.f
  rw [if_neg (by omega), if_neg (by omega), if_neg (by omega)]
  rw [qdigest_Check.j0, if_neg (by simp; omega), if_neg (by omega), if_neg (by omega), qdigest_Check.j1, if_neg (by simp; omega), if_neg (by omega), quo_thr h5 h6 h3]
  have := chk_loop b K c xs V xs.length 0 0 (by omega) (.inl ⟨rfl, rfl⟩) (by simp [tot]) m (by omega)
  simpa [tot] using this
end Go.Proofs.Ytcgimjoebkeifaa.Law

/- Check where the digest is not valid; the reference's Check of a valid one. -/
namespace Go.Proofs.Ytcgimjoebkeifaa.Law
set_option linter.unusedSimpArgs false
set_option linter.unusedVariables false
open Go.RowKit Go.Proofs.YtcgimjoebkeifaaW.PrintWords Go.Proofs.Ytcgimjoebkeifaa.PQ Go.Proofs.Ytcgimjoebkeifaa.Quan Go.Proofs.Ytcgimjoebkeifaa.QAdd
theorem chk_stop (b K c p thr : Int) (xs : List S63) (m : Nat) (sum bef i : Int) (hb1 : 1 ≤ b) (hb2 : b ≤ 20) (hp : p = 2 ^ b.toNat) (h0 : 0 ≤ i) (h1 : i < xs.length) (hbef : 0 ≤ bef) (hn : ¬ (NodeV p thr c (rd_T63 xs i) ∧ bef < (rd_T63 xs i).f0)) :
    qdigest_Check.l0 (m + 2) thr sum bef xs xs.length i b K c xs = some 1 := by
  rw [qdigest_Check.l0]
  simp only [qdigest_Check.j3, shl1 hb1 hb2, shl2 hb1 hb2]
  rw [← hp]
  generalize rd_T63 xs i = x at *
  rw [if_pos h1, if_pos h0, if_pos h1]
  unfold NodeV at hn
  by_cases g1 : x.f0 ≤ bef
  · rw [if_pos g1, if_pos trivial]
  rw [if_neg g1, if_pos (by omega : 0 ≤ b)]
  by_cases g2 : x.f0 ≥ 2 * p
  · rw [if_pos g2, if_pos trivial]
  rw [if_neg g2]
  by_cases g3 : x.f1 < 1
  · rw [if_pos g3, if_pos trivial]
  rw [if_neg g3]
  by_cases g4 : x.f1 > c
  · rw [if_pos (by simpa using g4)]
  rw [if_neg (by simpa using g4), if_pos (by omega : 0 ≤ b)]
  by_cases g5 : x.f0 < p
  · rw [if_pos g5]
    by_cases g6 : x.f1 > thr
    · rw [if_pos g6]
    · exact absurd ⟨⟨by omega, by omega, by omega, by omega, fun _ => by omega⟩, by omega⟩ hn
  · exact absurd ⟨⟨by omega, by omega, by omega, by omega, fun h => absurd h g5⟩, by omega⟩ hn
theorem chk_loop2 (b K c : Int) (xs : List S63) (hb1 : 1 ≤ b) (hb2 : b ≤ 20) (hc2 : c ≤ 1099511627776) (hl : xs.length ≤ 2000) (d : Nat) : ∀ (i : Nat) (bef : Int), i + d = xs.length → 0 ≤ bef → ((i = 0 ∧ bef = 0) ∨ ∃ j, i = j + 1 ∧ bef = (rd_T63 xs j).f0) → (0 ≤ tot (xs.take i) ∧ tot (xs.take i) ≤ i * 1099511627776) → Good b K c xs i →
    (∀ k, 2 * d + 1 ≤ k → qdigest_Check.l0 k (c / K) (tot (xs.take i)) bef xs xs.length i b K c xs = some 1) ∨ (Good b K c xs xs.length ∧ tot xs = c) := by
  induction d with
  | zero =>
    intro i bef hd _ _ _ hg
    obtain rfl : i = xs.length := hd
    by_cases h : tot xs = c
    · exact .inr ⟨hg, h⟩
    · left
      intro k hk
      obtain ⟨m, rfl⟩ : ∃ m, k = m + 1 := ⟨k - 1, by omega⟩
      rw [qdigest_Check.l0, if_neg (Int.lt_irrefl _), List.take_of_length_le (Nat.le_refl _), if_neg h]
  | succ d ih =>
    intro i bef hd h0 hbf hb hg
    have hi : i < xs.length := by omega
    by_cases hn : NodeV (2 ^ b.toNat) (c / K) c (rd_T63 xs i) ∧ bef < (rd_T63 xs i).f0
    · obtain ⟨hn, hbf2⟩ := hn
      obtain ⟨e1, e3, e4⟩ := sum_next hb ⟨hn.2.2.1, hn.2.2.2.1⟩ hc2 hi hl
      have hg2 : Good b K c xs (i + 1) := good_succ hg ⟨hn, fun hpos => by
        rcases hbf with ⟨rfl, _⟩ | ⟨j, rfl, rfl⟩
        · simp at hpos
        · rw [show (((j + 1 : Nat) : Int) - 1) = (j : Int) from by omega]; exact hbf2⟩
      rcases ih (i + 1) (rd_T63 xs i).f0 (by omega) (by have := hn.1; omega) (.inr ⟨i, rfl, rfl⟩) (by rw [tot_take xs i hi]; exact ⟨e3, e4⟩) hg2 with h | h
      · left
        intro k hk
        obtain ⟨m, rfl⟩ : ∃ m, k = m + 2 := ⟨k - 2, by omega⟩
        rw [chk_step b K c _ (c / K) xs m _ bef i hb1 hb2 rfl (Int.natCast_nonneg i) (Int.ofNat_lt.2 hi) hn hbf2, e1, idx_next hi hl, ← tot_take xs i hi]
        exact h m (by omega)
      · exact .inr h
    · left
      intro k hk
      obtain ⟨m, rfl⟩ : ∃ m, k = m + 2 := ⟨k - 2, by omega⟩
      exact chk_stop b K c _ (c / K) xs m _ bef i hb1 hb2 rfl (Int.natCast_nonneg i) (Int.ofNat_lt.2 hi) h0 hn
/-- Check says ErrArgument of every digest that is not valid. -/
theorem chk_not {b K c : Int} {xs : List S63} (V : ¬ Valid b K c xs) : ∀ k, 2 * xs.length + 4 ≤ k → qdigest_Check.f k b K c xs = some 1 := by
  intro k hk
  obtain ⟨m, rfl⟩ : ∃ m, k = m + 2 := ⟨k - 2, by omega⟩
  have one : qdigest_Check.j0 (m + 2) true b K c xs = some 1 := by rw [qdigest_Check.j0, if_pos rfl]
  have one1 : qdigest_Check.j1 (m + 1) true b K c xs = some 1 := by rw [qdigest_Check.j1, if_pos rfl]
  unfold qdigest_Check.f
  by_cases h1 : b < 1
  · rw [if_pos h1, one]
  by_cases h2 : b > 20
  · rw [if_neg h1, if_pos h2, one]
  by_cases h3 : K < 1
  · rw [if_neg h1, if_neg h2, if_pos h3, one]
  rw [if_neg h1, if_neg h2, if_neg h3]
  by_cases h4 : K > 10000
  · rw [decide_eq_true h4, one]
  rw [decide_eq_false h4, qdigest_Check.j0, if_neg (by decide)]
  by_cases h5 : c < 0
  · rw [if_pos h5, one1]
  by_cases h6 : c > 1099511627776
  · rw [if_neg h5, if_pos h6, one1]
  rw [if_neg h5, if_neg h6]
  by_cases h7 : (xs.length : Int) > 2000
  · rw [decide_eq_true h7, one1]
  rw [decide_eq_false h7, qdigest_Check.j1, if_neg (by decide), if_neg (by omega), quo_thr (by omega) (by omega) (by omega)]
  rcases chk_loop2 b K c xs (by omega) (by omega) (by omega) (by omega) xs.length 0 0 (by omega) (by omega) (.inl ⟨rfl, rfl⟩) ⟨by simp [tot], by simp [tot]⟩ (fun j hj => by omega) with h | ⟨hg, ht⟩
  · exact h m (by omega)
  · refine absurd ⟨by omega, by omega, by omega, by omega, by omega, by omega, by omega, asc_of_good hg, fun x hx => ?_, ht⟩ V
    obtain ⟨i, hi, rfl⟩ := List.getElem_of_mem hx
    rw [← rd_mem xs i hi]
    exact (hg i hi).1
theorem ref_loop_valid {b K c : Int} {xs : List S63} (V : Valid b K c xs) (d : Nat) : ∀ (i : Nat), i + d = xs.length → (0 ≤ tot (xs.take i) ∧ tot (xs.take i) ≤ i * 1099511627776) →
    ∀ k, 2 * d + 1 ≤ k → lookoutref31_Check.l0 k (tot (xs.take i)) i b K c xs = some 0 := by
  induction d with
  | zero =>
    intro i hd hb k hk
    obtain rfl : i = xs.length := hd
    obtain ⟨m, rfl⟩ : ∃ m, k = m + 1 := ⟨k - 1, by omega⟩
    rw [ref_end b K c xs m _ _ (Int.lt_irrefl _), List.take_of_length_le (Nat.le_refl _), if_pos V.sum]
  | succ d ih =>
    intro i hd hb k hk
    have hi : i < xs.length := by omega
    have hn := V.node _ (List.getElem_mem hi)
    rw [← rd_mem xs i hi] at hn
    obtain ⟨e1, e3, e4⟩ := sum_next hb ⟨hn.2.2.1, hn.2.2.2.1⟩ V.c2 hi V.len
    obtain ⟨m, rfl⟩ : ∃ m, k = m + 2 := ⟨k - 2, by omega⟩
    have hq : (0 : Int) < (i : Int) → (rd_T63 xs ((i : Int) - 1)).f0 < (rd_T63 xs i).f0 := fun hpos => by
      obtain ⟨j, rfl⟩ : ∃ j, i = j + 1 := ⟨i - 1, by omega⟩
      have := List.pairwise_iff_getElem.1 V.asc j (j + 1) (by omega) hi (by omega)
      rw [show (((j + 1 : Nat) : Int) - 1) = (j : Int) from by omega, rd_mem xs j (by omega), rd_mem xs (j + 1) hi]
      exact this
    rw [ref_step b K c xs m _ i V.b1 V.b2 V.K1 V.c1 V.c2 (Int.natCast_nonneg i) (Int.ofNat_lt.2 hi) V.len, if_pos ⟨hn, hq⟩, e1, idx_next hi V.len, ← tot_take xs i hi]
    exact ih (i + 1) (by omega) (by rw [tot_take xs i hi]; exact ⟨e3, e4⟩) m (by omega)
theorem ref_valid {b K c : Int} {xs : List S63} (V : Valid b K c xs) : ∀ k, 2 * xs.length + 4 ≤ k → lookoutref31_Check.f k b K c xs = some 0 := by
  intro k hk
  obtain ⟨m, rfl⟩ : ∃ m, k = m + 1 := ⟨k - 1, by omega⟩
  have h1 := V.b1
  have h2 := V.b2
  have h3 := V.K1
  have h4 := V.K2
  have h5 := V.c1
  have h6 := V.c2
  have h7 := V.len
  unfold lookoutref31_Check.f
  rw [if_neg (by omega), if_neg (by omega), if_neg (by omega), if_neg (by omega), if_neg (by omega), if_neg (by omega), lookoutref31_Check.j0, if_neg (by simp; omega)]
  have := ref_loop_valid V xs.length 0 (by omega) ⟨by simp [tot], by simp [tot]⟩ m (by omega)
  simpa [tot] using this
end Go.Proofs.Ytcgimjoebkeifaa.Law

/- qdigest.Encode and Decode in plain numbers. -/
namespace Go.Proofs.Ytcgimjoebkeifaa.Law
set_option linter.unusedSimpArgs false
set_option linter.unusedVariables false
open Go.RowKit Go.Proofs.YtcgimjoebkeifaaW.PrintWords Go.Proofs.Ytcgimjoebkeifaa.PQ Go.Proofs.Ytcgimjoebkeifaa.Quan Go.Proofs.Ytcgimjoebkeifaa.QAdd Go.Proofs.Ytcgimjoebkeifaa.Cod Go.Proofs.Ytcgimjoebkeifaa.Rd
/-- The numbers of the nodes. -/
def nn (xs : List S63) : List Int := xs.flatMap fun x => [x.f0, x.f1]
theorem nn_len (xs : List S63) : (nn xs).length = 2 * xs.length := by
  induction xs with
  | nil => rfl
  | cons x xs ih => simp only [nn, List.flatMap_cons, List.length_append, List.length_cons, List.length_nil] at *; omega
theorem nn_cons (x : S63) (xs : List S63) : nn (x :: xs) = x.f0 :: x.f1 :: nn xs := rfl
theorem nn_snoc (xs : List S63) (x : S63) : nn (xs ++ [x]) = nn xs ++ [x.f0, x.f1] := by simp [nn]
def encD (b K : Int) (xs : List S63) : List Nat := encN (b :: K :: nn xs)
theorem valid_inR {b K c : Int} {xs : List S63} (V : Valid b K c xs) : ∀ y ∈ b :: K :: nn xs, InR y := by
  have h1 := V.b1
  have h2 := V.b2
  have h3 := V.K1
  have h4 := V.K2
  have h6 := V.c2
  have hp := pow_pos20 h1 h2
  intro y hy
  rcases List.mem_cons.1 hy with rfl | hy
  · exact ⟨by omega, by omega⟩
  rcases List.mem_cons.1 hy with rfl | hy
  · exact ⟨by omega, by omega⟩
  obtain ⟨x, hx, hy⟩ := List.mem_flatMap.1 hy
  obtain ⟨n1, n2, n3, n4, _⟩ := V.node x hx
  simp only [List.mem_cons, List.not_mem_nil, or_false] at hy
  rcases hy with rfl | rfl
  · exact ⟨by omega, by omega⟩
  · exact ⟨by omega, by omega⟩
theorem enc_nodes (b K : Int) (xs : List S63) (hl : xs.length ≤ 2000) (d : Nat) : ∀ (i : Nat), i + d = xs.length → ∀ k, (∀ q, 4100 ≤ q → ∃ s, varint_Encode.f q (b :: K :: nn xs) = some (s, 0)) → d + 5000 ≤ k → ∃ q, 4100 ≤ q ∧
    qdigest_Encode.l0 k (b :: K :: nn (xs.take i)) xs (xs.length : Int) (i : Int) = (varint_Encode.f q (b :: K :: nn xs)).bind fun bt => (if bt.2 = 0 then (some (bt.1, 0)) else (some ((⟨#[]⟩ : ByteArray), 1))) := by
  induction d with
  | zero =>
    intro i hd k _ hk
    obtain ⟨k, rfl⟩ : ∃ m, k = m + 1 := ⟨k - 1, by omega⟩
    refine ⟨k, by omega, ?_⟩
    rw [qdigest_Encode.l0, if_neg (by omega), List.take_of_length_le (by omega)]
  | succ d ih =>
    intro i hd k he hk
    obtain ⟨k, rfl⟩ : ∃ m, k = m + 1 := ⟨k - 1, by omega⟩
    have hi : i < xs.length := by omega
    have hlen := nn_len (xs.take i)
    rw [List.length_take] at hlen
    rw [qdigest_Encode.l0, if_pos (by omega), if_pos (by omega), if_pos (by omega), Option.bind_some, if_pos (by simp only [List.length_cons, List.length_nil]; omega)]
    have e : b :: K :: nn (xs.take i) ++ [(rd_T63 xs i).f0, (rd_T63 xs i).f1] = b :: K :: nn (xs.take (i + 1)) := by
      rw [List.take_succ_eq_append_getElem hi, nn_snoc, rd_mem xs i hi]; rfl
    rw [e, show wrap64 ((i : Int) + 1) = ((i + 1 : Nat) : Int) from by unfold wrap64; omega]
    exact ih (i + 1) (by omega) k he (by omega)
/-- The encoding of a valid digest. -/
theorem encode_valid {b K c : Int} {xs : List S63} (V : Valid b K c xs) : ∀ k, 10000 ≤ k → qdigest_Encode.f k b K c xs = some (strOfNums (ints (encD b K xs)), 0) := by
  intro k hk
  have hl := V.len
  have hn := nn_len xs
  have hw : wrap64 (2 + wrap64 (2 * (xs.length : Int))) = 2 + 2 * (xs.length : Int) := by unfold wrap64; omega
  unfold qdigest_Encode.f
  rw [chk_valid V k (by omega), Option.bind_some, if_pos rfl, hw, if_pos (by omega), if_pos (by omega), Option.bind_some, Option.bind_some, if_pos (by simp)]
  have he : ∀ q, 4100 ≤ q → varint_Encode.f q (b :: K :: nn xs) = some (strOfNums (ints (encD b K xs)), 0) := fun q hq => enc_all _ (by simp only [List.length_cons]; omega) (valid_inR V) q (by simp only [List.length_cons]; omega)
  obtain ⟨q, hq, h⟩ := enc_nodes b K xs hl xs.length 0 (by omega) k (fun q hq => ⟨_, he q hq⟩) (by omega)
  rw [show ((0 : Nat) : Int) = 0 from rfl] at h
  have e : ([] : List Int) ++ [b, K] = b :: K :: nn (xs.take 0) := rfl
  rw [e, h, he q hq, Option.bind_some, if_pos rfl]
theorem encode_not {b K c : Int} {xs : List S63} (V : ¬ Valid b K c xs) : ∀ k, 2 * xs.length + 4 ≤ k → qdigest_Encode.f k b K c xs = some ((⟨#[]⟩ : ByteArray), 1) := by
  intro k hk
  unfold qdigest_Encode.f
  rw [chk_not V k hk, Option.bind_some, if_neg (by decide)]
theorem bl_enc (b K : Int) (xs : List S63) : bl (strOfNums (ints (encD b K xs))) = encD b K xs := bl_str _ (encN_byte _)
end Go.Proofs.Ytcgimjoebkeifaa.Law

/- qdigest.Decode in plain numbers. -/
namespace Go.Proofs.Ytcgimjoebkeifaa.Law
set_option linter.unusedSimpArgs false
set_option linter.unusedVariables false
open Go.RowKit Go.Proofs.YtcgimjoebkeifaaW.PrintWords Go.Proofs.Ytcgimjoebkeifaa.PQ Go.Proofs.Ytcgimjoebkeifaa.Quan Go.Proofs.Ytcgimjoebkeifaa.QAdd Go.Proofs.Ytcgimjoebkeifaa.Cod Go.Proofs.Ytcgimjoebkeifaa.Rd
def pairUp : List Int → List S63
  | a :: b :: t => ⟨a, b⟩ :: pairUp t
  | _ => []
theorem nn_pairUp : ∀ (n : Nat) (l : List Int), l.length = 2 * n → nn (pairUp l) = l ∧ (pairUp l).length = n
  | 0, [], _ => ⟨rfl, rfl⟩
  | n + 1, [], h => by simp at h
  | 0, a :: t, h => by simp at h
  | n + 1, [a], h => by simp at h; omega
  | n + 1, a :: b :: t, h => by
    simp only [List.length_cons] at h
    obtain ⟨h1, h2⟩ := nn_pairUp n t (by omega)
    exact ⟨by rw [pairUp, nn_cons, h1], by rw [pairUp, List.length_cons, h2]⟩
theorem rd_nn (b K : Int) : ∀ (ys : List S63) (i : Nat), i < ys.length → rd (nn ys) ((2 * i : Nat) : Int) = (rd_T63 ys i).f0 ∧ rd (nn ys) ((2 * i + 1 : Nat) : Int) = (rd_T63 ys i).f1
  | [], i, h => by simp at h
  | y :: ys, 0, h => by simp [nn_cons, rd, rd_T63]
  | y :: ys, i + 1, h => by
    have h1 := rd_nn b K ys i (by simpa using h)
    rw [nn_cons]
    simp only [rd, rd_T63, Int.toNat_natCast] at h1 ⊢
    rw [show 2 * (i + 1) = 2 * i + 1 + 1 from by omega]
    simpa using h1
theorem rd_two (b K : Int) (l : List Int) (j : Nat) : rd (b :: K :: l) ((j + 2 : Nat) : Int) = rd l (j : Int) := by
  simp only [rd, Int.toNat_natCast]
  rfl
abbrev fin (q : Nat) (b K c : Int) (ys : List S63) : Option (Int × Int × Int × (List S63) × Int) := (qdigest_Check.f q b K c ys).bind fun t => (if t = 0 then (some (b, K, c, ys, 0)) else (some (0, 0, 0, ([] : List (S63)), 12)))
theorem dec_nodes (b K : Int) (ys : List S63) (hl : ys.length ≤ 2000) (d : Nat) : ∀ (i : Nat), i + d = ys.length → (0 ≤ tot (ys.take i) ∧ tot (ys.take i) ≤ i * 1099511627776) → ∀ k, d + 5000 ≤ k →
    ((∃ x ∈ ys, ¬ (1 ≤ x.f1 ∧ x.f1 ≤ 1099511627776)) ∧ qdigest_Decode.l0 k (b :: K :: nn ys) ((2 * i + 2 : Nat) : Int) b K (tot (ys.take i)) (ys.take i) = some (0, 0, 0, [], 12)) ∨
    (∃ q, 4900 ≤ q ∧ qdigest_Decode.l0 k (b :: K :: nn ys) ((2 * i + 2 : Nat) : Int) b K (tot (ys.take i)) (ys.take i) = fin q b K (tot ys) ys) := by
  have hn := nn_len ys
  induction d with
  | zero =>
    intro i hd _ k hk
    obtain ⟨k, rfl⟩ : ∃ m, k = m + 1 := ⟨k - 1, by omega⟩
    right
    refine ⟨k, by omega, ?_⟩
    rw [qdigest_Decode.l0, if_neg (by simp only [List.length_cons]; omega), List.take_of_length_le (by omega)]
  | succ d ih =>
    intro i hd hb k hk
    obtain ⟨k, rfl⟩ : ∃ m, k = m + 1 := ⟨k - 1, by omega⟩
    have hi : i < ys.length := by omega
    obtain ⟨r0, r1⟩ := rd_nn b K ys i hi
    have e1 : wrap64 (((2 * i + 2 : Nat) : Int) + 1) = ((2 * i + 1 + 2 : Nat) : Int) := by unfold wrap64; omega
    have e2 : wrap64 (((2 * i + 2 : Nat) : Int) + 2) = ((2 * (i + 1) + 2 : Nat) : Int) := by unfold wrap64; omega
    have hlen : ((b :: K :: nn ys).length : Int) = 2 * (ys.length : Int) + 2 := by simp only [List.length_cons]; omega
    rw [qdigest_Decode.l0, e1, e2, hlen, if_pos (by omega), if_pos (by omega), if_pos (by omega), rd_two, rd_two, r0, r1]
    have hmem : rd_T63 ys i ∈ ys := by rw [rd_mem ys i hi]; exact List.getElem_mem hi
    by_cases g1 : (rd_T63 ys i).f1 < 1
    · left
      exact ⟨⟨_, hmem, by omega⟩, by rw [if_pos g1]⟩
    by_cases g2 : (rd_T63 ys i).f1 > 1099511627776
    · left
      exact ⟨⟨_, hmem, by omega⟩, by rw [if_neg g1, if_pos g2]⟩
    obtain ⟨s1, s3, s4⟩ := sum_next (x := (rd_T63 ys i).f1) (c := 1099511627776) hb ⟨by omega, by omega⟩ (by omega) hi hl
    have e3 : ys.take i ++ [(⟨(rd_T63 ys i).f0, (rd_T63 ys i).f1⟩ : S63)] = ys.take (i + 1) := by
      rw [List.take_succ_eq_append_getElem hi, rd_mem ys i hi]
    rw [if_neg g1, if_neg g2, if_pos (by omega), if_pos (by rw [List.length_take]; omega), s1, ← tot_take ys i hi, e3]
    exact ih (i + 1) (by omega) (by rw [tot_take ys i hi]; exact ⟨s3, s4⟩) k (by omega)
theorem two_split (l : List Int) (h2 : 2 ≤ l.length) : ∃ b K t, l = b :: K :: t := by
  match l, h2 with
  | b :: K :: t, _ => exact ⟨b, K, t, rfl⟩
theorem decode_list (l : List Int) (s : ByteArray) (k : Nat) (hk : 8000 ≤ k) (h : varint_Decode.f (k) s = some (l, 0)) (hl : l.length ≤ 20000) :
    (qdigest_Decode.f k s = some (0, 0, 0, [], 12) ∧ ∀ b K c ys, Valid b K c ys → l ≠ b :: K :: nn ys) ∨ (∃ b K c ys, Valid b K c ys ∧ l = b :: K :: nn ys ∧ qdigest_Decode.f k s = some (b, K, c, ys, 0)) := by
  obtain ⟨k, rfl⟩ : ∃ m, k = m + 1 := ⟨k - 1, by omega⟩
  have bad : qdigest_Decode.j0 (k + 1) l true = some (0, 0, 0, [], 12) := by rw [qdigest_Decode.j0, if_pos rfl]
  have len_of : ∀ b K c ys, Valid b K c ys → l = b :: K :: nn ys → 2 ≤ l.length ∧ l.length % 2 = 0 ∧ l.length ≤ 4002 := fun b K c ys V e => by
    have := nn_len ys
    have := V.len
    rw [e]
    simp only [List.length_cons]
    omega
  unfold qdigest_Decode.f
  rw [h, Option.bind_some, if_pos rfl]
  simp only
  by_cases h1 : (l.length : Int) < 2
  · left
    exact ⟨by rw [if_pos h1, bad], fun b K c ys V e => by have := len_of b K c ys V e; omega⟩
  rw [if_neg h1]
  by_cases h2 : (l.length : Int) % 2 = 0
  case neg =>
    left
    exact ⟨by rw [if_neg h2, bad], fun b K c ys V e => by have := len_of b K c ys V e; omega⟩
  rw [if_pos h2]
  by_cases h3 : (l.length : Int) > 4002
  · left
    exact ⟨by rw [decide_eq_true h3, bad], fun b K c ys V e => by have := len_of b K c ys V e; omega⟩
  rw [decide_eq_false h3]
  obtain ⟨b, K, t, rfl⟩ := two_split l (by omega)
  simp only [List.length_cons] at h1 h2 h3
  obtain ⟨hp, hpl⟩ := nn_pairUp (t.length / 2) t (by omega)
  rw [qdigest_Decode.j0, if_neg (by decide), if_pos (by simp only [List.length_cons]; omega), if_pos (by simp only [List.length_cons]; omega)]
  generalize pairUp t = ys at hp hpl
  subst hp
  have hd := dec_nodes b K ys (by omega) ys.length 0 (by omega) ⟨by simp [tot], by simp [tot]⟩ k (by omega)
  have z1 : rd (b :: K :: nn ys) 0 = b := rfl
  have z2 : rd (b :: K :: nn ys) 1 = K := rfl
  rw [z1, z2]
  have inj : ∀ {b' K' : Int} {ys' : List S63}, b :: K :: nn ys = b' :: K' :: nn ys' → b' = b ∧ K' = K ∧ ys' = ys := fun {b' K' ys'} e => by
    simp only [List.cons.injEq] at e
    refine ⟨e.1.symm, e.2.1.symm, ?_⟩
    have : ∀ (xs zs : List S63), nn xs = nn zs → xs = zs := by
      intro xs
      induction xs with
      | nil => intro zs h; cases zs with
        | nil => rfl
        | cons z zs => simp [nn] at h
      | cons x xs ih => intro zs h; cases zs with
        | nil => simp [nn] at h
        | cons z zs =>
          rw [nn_cons, nn_cons] at h
          simp only [List.cons.injEq] at h
          cases x; cases z
          simp only at h
          rw [h.1, h.2.1, ih zs h.2.2]
    exact this _ _ e.2.2.symm
  have hz : ((2 * 0 + 2 : Nat) : Int) = 2 := rfl
  rw [hz] at hd
  have ht0 : tot (ys.take 0) = 0 := rfl
  rw [ht0, List.take_zero] at hd
  rcases hd with ⟨⟨x, hx, hxb⟩, he⟩ | ⟨q, hq, he⟩
  · left
    refine ⟨he, fun b' K' c' ys' V e => ?_⟩
    obtain ⟨rfl, rfl, rfl⟩ := inj e
    obtain ⟨n1, n2, n3, n4, _⟩ := V.node x hx
    have := V.c2
    exact hxb ⟨n3, by omega⟩
  · rw [he]
    by_cases V : Valid b K (tot ys) ys
    · right
      exact ⟨b, K, tot ys, ys, V, rfl, by unfold fin; rw [chk_valid V q (by have := V.len; omega), Option.bind_some, if_pos rfl]⟩
    · left
      refine ⟨by unfold fin; rw [chk_not V q (by omega), Option.bind_some, if_neg (by decide)], fun b' K' c' ys' V' e => ?_⟩
      obtain ⟨rfl, rfl, rfl⟩ := inj e
      exact V (by rw [V'.sum]; exact V')
theorem decode_back_D {b K c : Int} {xs : List S63} (V : Valid b K c xs) (s : ByteArray) (hs : s.size ≤ 140737488351232) (h : bl s = encD b K xs) : ∀ k, 30000 ≤ k → qdigest_Decode.f k s = some (b, K, c, xs, 0) := by
  intro k hk
  have hl := V.len
  have hn := nn_len xs
  have hd := decode_back s hs (b :: K :: nn xs) (by simp only [List.length_cons]; omega) (valid_inR V) h k (by simp only [List.length_cons]; omega)
  rcases decode_list _ s k (by omega) hd (by simp only [List.length_cons]; omega) with ⟨_, h2⟩ | ⟨b', K', c', ys', V', e, h3⟩
  · exact absurd rfl (h2 b K c xs V)
  · have h4 := decode_list _ s k (by omega) hd (by simp only [List.length_cons]; omega)
    simp only [List.cons.injEq] at e
    have : ∀ (xs zs : List S63), nn xs = nn zs → xs = zs := by
      intro xs
      induction xs with
      | nil => intro zs h; cases zs with
        | nil => rfl
        | cons z zs => simp [nn] at h
      | cons x xs ih => intro zs h; cases zs with
        | nil => simp [nn] at h
        | cons z zs =>
          rw [nn_cons, nn_cons] at h
          simp only [List.cons.injEq] at h
          cases x; cases z
          simp only at h
          rw [h.1, h.2.1, ih zs h.2.2]
    obtain rfl := this _ _ e.2.2
    rw [h3, ← e.1, ← e.2.1, ← V.sum, ← V'.sum]
theorem decode_cases_D (s : ByteArray) (hs : s.size ≤ 140737488351232) : ∀ k, 30000 ≤ k → qdigest_Decode.f k s = some (0, 0, 0, [], 12) ∨ (∃ b K c ys, Valid b K c ys ∧ bl s = encD b K ys ∧ qdigest_Decode.f k s = some (b, K, c, ys, 0)) := by
  intro k hk
  rcases decode_cases s hs k (by omega) with ⟨e, he, h⟩ | ⟨l, hl, hr, hb, h⟩
  · left
    obtain ⟨k, rfl⟩ : ∃ m, k = m + 1 := ⟨k - 1, by omega⟩
    unfold qdigest_Decode.f
    rw [h, Option.bind_some, if_neg he, qdigest_Decode.j0, if_pos rfl]
  · rcases decode_list l s k (by omega) h hl with ⟨h1, _⟩ | ⟨b, K, c, ys, V, rfl, h3⟩
    · exact .inl h1
    · exact .inr ⟨b, K, c, ys, V, hb, h3⟩
end Go.Proofs.Ytcgimjoebkeifaa.Law

/- The ranges of nodes: a child's lies in its parent's. No conditions. -/
namespace Go.Proofs.Ytcgimjoebkeifaa.Law
set_option linter.unusedSimpArgs false
set_option linter.unusedVariables false
open Go.RowKit Go.Proofs.YtcgimjoebkeifaaW.PrintWords Go.Proofs.Ytcgimjoebkeifaa.PQ Go.Proofs.Ytcgimjoebkeifaa.Quan Go.Proofs.Ytcgimjoebkeifaa.QAdd
theorem lt_aux : ∀ (f x : Nat), x < 2 ^ f → x < 2 ^ Lib.bitLenAux f x
  | 0, x, h => by simp at h; subst h; simp [Lib.bitLenAux]
  | f + 1, x, h => by
    simp only [Lib.bitLenAux]
    by_cases h0 : x = 0
    · rw [if_pos h0, h0]; decide
    · rw [if_neg h0]
      have := lt_aux f (x / 2) (by rw [Nat.pow_succ] at h; omega)
      rw [Nat.add_comm 1, Nat.pow_succ]
      omega
theorem lt_bitLen (x : Nat) (h : x < 2 ^ 64) : x < 2 ^ Lib.bitLen x := lt_aux 64 x h
theorem pow_nat {b : Int} (n : Nat) (h : b = n) : (2 : Int) ^ b.toNat = ((2 ^ n : Nat) : Int) := by subst h; simp
theorem span_ok {b id : Int} (h1 : 1 ≤ b) (h2 : b ≤ 20) (h3 : 1 ≤ id) (h4 : id < 2 * 2 ^ b.toNat) : SpanOk b id := by
  have hp := pow_pos20 h1 h2
  obtain ⟨n, rfl⟩ := Int.eq_ofNat_of_zero_le (by omega : 0 ≤ b)
  obtain ⟨m, rfl⟩ := Int.eq_ofNat_of_zero_le (by omega : 0 ≤ id)
  rw [pow_nat n rfl] at h4 hp
  have hm : m < 2 ^ (n + 1) := by rw [Nat.pow_succ]; omega
  have hl := Lib.bitLen_le m (n + 1) (by omega) hm
  have hlt := lt_bitLen m (by have : (2 : Nat) ^ (n + 1) ≤ 2 ^ 64 := Nat.pow_le_pow_right (by decide) (by omega); omega)
  refine ⟨⟨by omega, by omega⟩, ⟨by omega, by omega⟩, by simp; omega, ?_⟩
  simp only [Int.toNat_natCast]
  have e : ((n : Int) + 1 - (Lib.bitLen m : Int)).toNat = n + 1 - Lib.bitLen m := by omega
  rw [e]
  have h5 : (m + 1) * 2 ^ (n + 1 - Lib.bitLen m) ≤ 2 ^ Lib.bitLen m * 2 ^ (n + 1 - Lib.bitLen m) := Nat.mul_le_mul_right _ hlt
  rw [← Nat.pow_add, show Lib.bitLen m + (n + 1 - Lib.bitLen m) = n + 1 from by omega] at h5
  have h6 : (2 : Nat) ^ (n + 1) ≤ 2 ^ 21 := Nat.pow_le_pow_right (by decide) (by omega)
  have h7 : (((m + 1) * 2 ^ (n + 1 - Lib.bitLen m) : Nat) : Int) ≤ ((2 ^ 21 : Nat) : Int) := Int.ofNat_le.2 (Nat.le_trans h5 h6)
  have e2 : (((m + 1) * 2 ^ (n + 1 - Lib.bitLen m) : Nat) : Int) = ((m : Int) + 1) * 2 ^ (n + 1 - Lib.bitLen m) := by simp
  rw [e2] at h7
  have : ((2 ^ 21 : Nat) : Int) = 2097152 := by decide
  omega
/-- A child's range lies in its parent's. -/
theorem span_kid {b m id : Int} (h1 : 1 ≤ b) (h2 : b ≤ 20) (h3 : 1 ≤ m) (hid : id = 2 * m ∨ id = 2 * m + 1) (h4 : id < 2 * 2 ^ b.toNat) : spanLo b m ≤ spanLo b id ∧ spanHi b id ≤ spanHi b m := by
  have hp := pow_pos20 h1 h2
  obtain ⟨n, rfl⟩ := Int.eq_ofNat_of_zero_le (by omega : 0 ≤ b)
  obtain ⟨k, rfl⟩ := Int.eq_ofNat_of_zero_le (by omega : 0 ≤ m)
  obtain ⟨j, rfl⟩ := Int.eq_ofNat_of_zero_le (by omega : 0 ≤ id)
  rw [pow_nat n rfl] at h4 hp
  have hj : j < 2 ^ (n + 1) := by rw [Nat.pow_succ]; omega
  have hl := Lib.bitLen_le j (n + 1) (by omega) hj
  have h64 : j < 2 ^ 64 := by have : (2 : Nat) ^ (n + 1) ≤ 2 ^ 64 := Nat.pow_le_pow_right (by decide) (by omega); omega
  have hh := Lib.bitLen_half j (by omega) h64
  rw [show j / 2 = k from by omega] at hh
  unfold spanLo spanHi
  simp only [Int.toNat_natCast]
  have e1 : ((n : Int) + 1 - (Lib.bitLen j : Int)).toNat = n + 1 - Lib.bitLen j := by omega
  have e2 : ((n : Int) + 1 - (Lib.bitLen k : Int)).toNat = (n + 1 - Lib.bitLen j) + 1 := by omega
  rw [e1, e2, Int.pow_succ]
  have hP := Int.pow_pos (n := (2 : Int)) (m := n + 1 - Lib.bitLen j) (by decide)
  generalize (2 : Int) ^ (n + 1 - Lib.bitLen j) = P at *
  generalize (2 : Int) ^ n = q
  have a1 : (k : Int) * (P * 2) = 2 * ((k : Int) * P) := by rw [← Int.mul_assoc, Int.mul_comm]
  have a2 : ((k : Int) + 1) * (P * 2) = 2 * ((k : Int) * P) + 2 * P := by rw [Int.add_mul, Int.one_mul, a1, Int.mul_comm P 2]
  rw [a1, a2]
  rcases hid with h | h
  · rw [h]
    have a3 : 2 * (k : Int) * P = 2 * ((k : Int) * P) := by rw [Int.mul_assoc]
    have a4 : (2 * (k : Int) + 1) * P = 2 * ((k : Int) * P) + P := by rw [Int.add_mul, a3, Int.one_mul]
    rw [a3, a4]
    constructor <;> omega
  · rw [h]
    have a3 : (2 * (k : Int) + 1) * P = 2 * ((k : Int) * P) + P := by rw [Int.add_mul, Int.mul_assoc, Int.one_mul]
    have a4 : (2 * (k : Int) + 1 + 1) * P = 2 * ((k : Int) * P) + 2 * P := by rw [Int.add_mul, a3, Int.one_mul]; omega
    rw [a3, a4]
    constructor <;> omega
end Go.Proofs.Ytcgimjoebkeifaa.Law

/- Rank of a valid digest, and Same of a digest with itself. No conditions. -/
namespace Go.Proofs.Ytcgimjoebkeifaa.Law
set_option linter.unusedSimpArgs false
set_option linter.unusedVariables false
open Go.RowKit Go.Proofs.YtcgimjoebkeifaaW.PrintWords Go.Proofs.Ytcgimjoebkeifaa.PQ Go.Proofs.Ytcgimjoebkeifaa.Quan Go.Proofs.Ytcgimjoebkeifaa.QAdd
theorem upTo_take (ed : Int → Int) (e : Int) (xs : List S63) (i : Nat) (h : i < xs.length) : upTo ed e (xs.take (i + 1)) = upTo ed e (xs.take i) + (if ed (rd_T63 xs i).f0 ≤ e then (rd_T63 xs i).f1 else 0) := by
  induction xs generalizing i with
  | nil => simp at h
  | cons x xs ih =>
    cases i with
    | zero => simp [upTo, rd_T63]
    | succ i =>
      have := ih i (by simpa using h)
      have e1 : rd_T63 (x :: xs) ((i + 1 : Nat) : Int) = rd_T63 xs i := by simp [rd_T63]
      rw [e1, List.take_succ_cons, List.take_succ_cons]
      simp only [upTo]
      rw [this]
      omega
theorem add_if {s x c : Int} {i n : Nat} (q : Prop) [Decidable q] (hb : 0 ≤ s ∧ s ≤ i * 1099511627776) (hx : 1 ≤ x ∧ x ≤ c) (hc : c ≤ 1099511627776) (hi : i < n) (hn : n ≤ 2000) :
    0 ≤ s + (if q then x else 0) ∧ s + (if q then x else 0) ≤ ((i + 1 : Nat) : Int) * 1099511627776 ∧ (if q then wrap64 (s + x) else s) = s + (if q then x else 0) := by
  have h1 := sum_next hb hx hc hi hn
  by_cases h : q
  · simp only [if_pos h]; exact ⟨h1.2.1, h1.2.2, h1.1⟩
  · simp only [if_neg h]; omega
theorem rank_loop (b K c v : Int) (xs : List S63) (V : Valid b K c xs) (d : Nat) : ∀ (i : Nat), i + d = xs.length →
    (0 ≤ upTo (spanHi b) v (xs.take i) ∧ upTo (spanHi b) v (xs.take i) ≤ i * 1099511627776) → (0 ≤ upTo (spanLo b) v (xs.take i) ∧ upTo (spanLo b) v (xs.take i) ≤ i * 1099511627776) →
    ∀ k, 2 * d + 1 ≤ k → qdigest_Rank.l0 k v (upTo (spanHi b) v (xs.take i)) (upTo (spanLo b) v (xs.take i)) xs xs.length i b K c xs = some (upTo (spanHi b) v xs, upTo (spanLo b) v xs, 0) := by
  induction d with
  | zero =>
    intro i hd _ _ k hk
    obtain rfl : i = xs.length := hd
    obtain ⟨m, rfl⟩ : ∃ m, k = m + 1 := ⟨k - 1, by omega⟩
    rw [qdigest_Rank.l0, if_neg (Int.lt_irrefl _), List.take_of_length_le (Nat.le_refl _)]
  | succ d ih =>
    intro i hd hb1 hb2 k hk
    have hi : i < xs.length := by omega
    have hn := V.node _ (List.getElem_mem hi)
    rw [← rd_mem xs i hi] at hn
    obtain ⟨m, rfl⟩ : ∃ m, k = m + 2 := ⟨k - 2, by omega⟩
    obtain ⟨e1, e2, e3⟩ := add_if (spanHi b (rd_T63 xs i).f0 ≤ v) hb1 ⟨hn.2.2.1, hn.2.2.2.1⟩ V.c2 hi V.len
    obtain ⟨g1, g2, g3⟩ := add_if (spanLo b (rd_T63 xs i).f0 ≤ v) hb2 ⟨hn.2.2.1, hn.2.2.2.1⟩ V.c2 hi V.len
    have hsp : qdigest_span.f b (rd_T63 xs i).f0 = some (spanLo b (rd_T63 xs i).f0, spanHi b (rd_T63 xs i).f0) := by
      unfold qdigest_span.f
      rw [if_pos (span_ok V.b1 V.b2 hn.1 hn.2.1)]
    have step := ih (i + 1) (by omega) (by rw [upTo_take _ _ _ _ hi]; exact ⟨e1, e2⟩) (by rw [upTo_take _ _ _ _ hi]; exact ⟨g1, g2⟩) m (by omega)
    rw [upTo_take _ _ _ _ hi, upTo_take _ _ _ _ hi, ← e3, ← g3] at step
    rw [qdigest_Rank.l0, if_pos (Int.ofNat_lt.2 hi), if_pos (Int.natCast_nonneg i), if_pos (Int.ofNat_lt.2 hi), hsp, Option.bind_some]
    simp only [qdigest_Rank.j2, idx_next hi V.len]
    by_cases h1 : spanHi b (rd_T63 xs i).f0 ≤ v
    · rw [if_pos h1] at step ⊢
      by_cases h2 : spanLo b (rd_T63 xs i).f0 ≤ v
      · rw [if_pos h2] at step ⊢; exact step
      · rw [if_neg h2] at step ⊢; exact step
    · rw [if_neg h1] at step ⊢
      by_cases h2 : spanLo b (rd_T63 xs i).f0 ≤ v
      · rw [if_pos h2] at step ⊢; exact step
      · rw [if_neg h2] at step ⊢; exact step
theorem rank_valid {b K c v : Int} {xs : List S63} (V : Valid b K c xs) (h0 : 0 ≤ v) (h1 : v < 2 ^ b.toNat) : ∀ k, 2 * xs.length + 4 ≤ k → qdigest_Rank.f k b K c xs v = some (upTo (spanHi b) v xs, upTo (spanLo b) v xs, 0) := by
  intro k hk
  obtain ⟨m, rfl⟩ : ∃ m, k = m + 1 := ⟨k - 1, by omega⟩
  have hb1 := V.b1
  unfold qdigest_Rank.f
  rw [chk_valid V _ hk, Option.bind_some, if_pos rfl, if_neg (by omega), if_pos (by omega), shl1 V.b1 V.b2, qdigest_Rank.j0, if_neg (by simpa using h1)]
  have := rank_loop b K c v xs V xs.length 0 (by omega) (by simp [upTo]) (by simp [upTo]) m (by omega)
  simpa [upTo] using this
theorem same_loop (b K c : Int) (xs : List S63) (hl : xs.length ≤ 2000) (d : Nat) : ∀ (i : Nat), i + d = xs.length → ∀ k, d + 1 ≤ k → lookoutref31_Same.l0 k i b K c xs b K c xs = some true := by
  induction d with
  | zero =>
    intro i hd k hk
    obtain rfl : i = xs.length := hd
    obtain ⟨m, rfl⟩ : ∃ m, k = m + 1 := ⟨k - 1, by omega⟩
    rw [lookoutref31_Same.l0, if_neg (Int.lt_irrefl _)]
  | succ d ih =>
    intro i hd k hk
    have hi : i < xs.length := by omega
    obtain ⟨m, rfl⟩ : ∃ m, k = m + 1 := ⟨k - 1, by omega⟩
    rw [lookoutref31_Same.l0, if_pos (Int.ofNat_lt.2 hi), if_pos (Int.natCast_nonneg i), if_pos (Int.ofNat_lt.2 hi), if_neg (by simp), idx_next hi hl]
    exact ih (i + 1) (by omega) m (by omega)
theorem same_self (b K c : Int) (xs : List S63) (hl : xs.length ≤ 2000) : ∀ k, xs.length + 2 ≤ k → lookoutref31_Same.f k b K c xs b K c xs = some true := by
  intro k hk
  obtain ⟨m, rfl⟩ : ∃ m, k = m + 1 := ⟨k - 1, by omega⟩
  unfold lookoutref31_Same.f
  rw [if_pos rfl, if_pos rfl, if_pos rfl, lookoutref31_Same.j0, if_neg (by simp)]
  exact same_loop b K c xs hl xs.length 0 (by omega) m (by omega)
end Go.Proofs.Ytcgimjoebkeifaa.Law

/- The law QdigestCodec in plain numbers; the statement. No conditions. -/
namespace Go.Proofs.Ytcgimjoebkeifaa.Law
set_option linter.unusedSimpArgs false
set_option linter.unusedVariables false
open Go.RowKit Go.Proofs.YtcgimjoebkeifaaW.PrintWords Go.Proofs.Ytcgimjoebkeifaa.PQ Go.Proofs.Ytcgimjoebkeifaa.Quan Go.Proofs.Ytcgimjoebkeifaa.QAdd Go.Proofs.Ytcgimjoebkeifaa.Cod Go.Proofs.Ytcgimjoebkeifaa.LawC
theorem ref_more {b K c : Int} {xs : List S63} {k k' : Nat} {r : Int} (h : k ≤ k') (hr : lookoutref31_Check.f k b K c xs = some r) : lookoutref31_Check.f k' b K c xs = some r :=
  at_rounds (g := fun k => lookoutref31_Check.f k b K c xs) (fun k => lookoutref31_Check.mono _ _ _ _ k) h hr
theorem codec_j2 (s : ByteArray) (hs : s.size ≤ 140737488351232) : ∀ k, 40000 ≤ k → lookoutlaw31_QdigestCodec.j2 k s = some true := by
  intro k hk
  obtain ⟨k, rfl⟩ : ∃ m, k = m + 1 := ⟨k - 1, by omega⟩
  rw [lookoutlaw31_QdigestCodec.j2]
  rcases decode_cases_D s hs k (by omega) with h | ⟨b, K, c, ys, V, hb, h⟩
  · rw [h, Option.bind_some]
    simp only
    rw [if_neg (by decide), if_pos trivial, same_self 0 0 0 [] (by simp) k (by simp; omega), Option.bind_some, if_pos rfl]
    rfl
  · rw [h, Option.bind_some]
    simp only
    rw [if_pos trivial, encode_valid V k (by omega), Option.bind_some]
    simp only
    rw [if_pos trivial, if_pos (bl_toList.2 (by rw [bl_enc, hb]))]
    rfl
theorem enc_size {b K c : Int} {xs : List S63} (V : Valid b K c xs) : (strOfNums (ints (encD b K xs))).size ≤ 140737488351232 := by
  rw [← bl_len, bl_enc]
  unfold encD Go.Proofs.Ytcgimjoebkeifaa.Cod.encN
  have h1 := Cod.flat_len (b :: K :: nn xs) (valid_inR V)
  have h2 := nn_len xs
  have h3 := V.len
  have h4 := grp_len9 (n := (b :: K :: nn xs).length) (by simp only [List.length_cons]; omega)
  simp only [List.length_cons, List.length_append] at *
  omega
theorem pure_codec : qdigestCodec.Pure := by
  intro b K c xs s _ _ _ _ hs
  have aw : ∀ k, lookoutlaw31_QdigestCodec.j0 (k + 1) s true b K c xs = some true := fun k => by rw [lookoutlaw31_QdigestCodec.j0, if_pos rfl]; rfl
  by_cases hg : (xs.length : Int) > 24
  · refine ⟨1, ?_⟩
    unfold lookoutlaw31_QdigestCodec.f lookoutref31_Great.f
    rw [decide_eq_true hg, Option.bind_some, if_pos rfl, aw 0]
  obtain ⟨k0, r, hr, hV⟩ := ref_check b K c xs (by omega)
  refine ⟨k0 + 50001, ?_⟩
  unfold lookoutlaw31_QdigestCodec.f lookoutref31_Great.f
  rw [decide_eq_false hg, Option.bind_some, if_neg (by decide)]
  by_cases h300 : (s.size : Int) > 300
  · rw [decide_eq_true h300, aw]
  rw [decide_eq_false h300, lookoutlaw31_QdigestCodec.j0, if_neg (by decide)]
  by_cases V : Valid b K c xs
  · rw [encode_valid V _ (by omega), Option.bind_some, ref_valid V _ (by omega), Option.bind_some, if_pos rfl]
    simp only
    rw [decode_back_D V _ (enc_size V) (bl_enc b K xs) _ (by omega), Option.bind_some]
    simp only
    rw [if_pos trivial, if_pos trivial, same_self b K c xs V.len _ (by omega), Option.bind_some]
    obtain ⟨q, hq⟩ : ∃ q, k0 + 50000 = q + 1 := ⟨k0 + 49999, by omega⟩
    rw [hq, lookoutlaw31_QdigestCodec.j1, if_neg (by decide), codec_j2 s hs q (by omega)]
  · have hr0 : ¬ r = 0 := fun h => V (hV h)
    rw [encode_not V _ (by omega), Option.bind_some, ref_more (by omega) hr, Option.bind_some, if_neg hr0]
    simp only
    rw [if_pos trivial, if_pos (by rw [Go.ByteArray.toList_eq]), codec_j2 s hs _ (by omega)]
end Go.Proofs.Ytcgimjoebkeifaa.Law
namespace Go.Proofs.Ytcgimjoebkeifaa
theorem qdigestCodec_holds : Rows.QdigestCodecSaid := qdigestCodec.over Law.pure_codec
end Go.Proofs.Ytcgimjoebkeifaa
#print axioms Go.Proofs.Ytcgimjoebkeifaa.qdigestCodec_holds
