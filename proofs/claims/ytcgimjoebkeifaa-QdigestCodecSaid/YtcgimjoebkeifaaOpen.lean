/- An argument of type api.Digest, opened: its numbers, and its nodes as a row that is read. -/
import Derived.Test.YtcgimjoebkeifaaPQx0
import Derived.Deep.SlicePairs
import Derived.Lib.SmallJoins
import Derived.WideShapes
namespace Go.Proofs.Ytcgimjoebkeifaa.LawC
set_option linter.unusedSimpArgs false
set_option linter.unusedVariables false
open Go.RowKit Go.ChangeShapes Go.WideShapes Go.Deep Go.Proofs.YtcgimjoebkeifaaW.PrintWords Go.Proofs.Ytcgimjoebkeifaa.PQ
set_option maxHeartbeats 1000000
set_option maxRecDepth 10000
theorem cells24 : Try.prog.cellsOf 24 = 4 := by kernel_rfl
theorem cells3 : Try.prog.cellsOf 3 = 1 := by kernel_rfl
theorem cells22 : Try.prog.cellsOf 22 = 1 := by kernel_rfl
theorem cells63 : Try.prog.cellsOf 63 = 2 := by kernel_rfl
/-- A number of Go's int. -/
def I64 (n : Int) : Prop := (Lit.int .i64 n).wf = true
theorem open_digest {H : Type} {enc : TypeId × Value → H} {W : World} {base : Nat} {sp : Nat → Bool} {v : Value} {d : DataW H} {ps : List MemPlace} (hok : Value.okWide Try.prog W .any base 24 v) (hT : DataW.Trod enc Try.prog W 0 sp true 24 v d ps) :
    ∃ (b K c : Int) (A : Option Addr) (cap : Nat) (xs : List S63), v = .agg #[.int .i64 b, .int .i64 K, .int .i64 c, .slice A xs.length cap] ∧ I64 b ∧ I64 K ∧ I64 c ∧ xs.length ≤ cap ∧ Kd.C k63 W A xs.length xs ∧ ∀ x ∈ xs, I64 x.f0 ∧ I64 x.f1 := by
  obtain ⟨fuel, hv⟩ := hT
  obtain ⟨y0, y1, y2, y3, m', hx', hl, u0, u1, u2, u3⟩ := Go.Joins.trod_struct4 Try.underlying24 hv
  rw [cells24] at hl
  obtain ⟨c0, c1, c2, c3, hc⟩ : ∃ c0 c1 c2 c3, v.cells.toList = [c0, c1, c2, c3] := by
    match hcs : v.cells.toList, hl with
    | [a, b, c, d], _ => exact ⟨a, b, c, d, rfl⟩
  rw [hc] at u0 u1 u2 u3
  simp only [cells3, cells22, List.drop, List.take] at u0 u1 u2 u3
  obtain ⟨b, hc0, _, wb⟩ := DataW.trod_int Try.underlying3 u0
  obtain ⟨K, hc1, _, wK⟩ := DataW.trod_int Try.underlying3 u1
  obtain ⟨c, hc2, _, wc⟩ := DataW.trod_int Try.underlying3 u2
  simp only [List.cons.injEq, and_true] at hc0 hc1 hc2
  subst hc0; subst hc1; subst hc2
  have hv' : v = .agg #[.int .i64 b, .int .i64 K, .int .i64 c, c3] := by
    cases v <;> simp [Value.cells, Value.okWide, Try.underlying24] at hc hok ⊢
    rename_i cs
    obtain ⟨l⟩ := cs
    simpa using hc
  rcases open_slice_pairs Try.underlying22 Try.underlying63 cells63 rfl rfl cells3 cells3 u3 with ⟨h0, _⟩ | ⟨a, len, cap, m, n, V0, V1, D0, D1, P0, P1, h0, _, hlc, hcm, hm, _, hcell⟩
  · simp only [List.cons.injEq, and_true] at h0
    subst h0
    exact ⟨b, K, c, none, 0, [], hv', wb, wK, wc, Nat.le_refl _, Kd.C_nil _ _, fun x hx => by simp at hx⟩
  · simp only [List.cons.injEq, and_true] at h0
    subst h0
    have hlm : len ≤ m := by rw [hm]; split <;> omega
    have each : ∀ i, i < len → ∃ q : Int × Int, W.cell? (a.add (i * 2)) = some (.int .i64 q.1) ∧ W.cell? (a.add (i * 2 + 1)) = some (.int .i64 q.2) ∧ I64 q.1 ∧ I64 q.2 := fun i hi => by
      obtain ⟨g0, g1, t0, t1⟩ := hcell i (by omega)
      obtain ⟨x0, e0, _, w0⟩ := DataW.trod_int Try.underlying3 t0
      obtain ⟨x1, e1, _, w1⟩ := DataW.trod_int Try.underlying3 t1
      simp only [List.cons.injEq, and_true] at e0 e1
      rw [e0] at g0
      rw [e1] at g1
      exact ⟨(x0, x1), g0, g1, w0, w1⟩
    obtain ⟨q, hq⟩ := choose_lt each
    have hlen : ((List.range len).map (fun i => (⟨(q i).1, (q i).2⟩ : S63))).length = len := by simp
    refine ⟨b, K, c, some a, cap, (List.range len).map (fun i => ⟨(q i).1, (q i).2⟩), by rw [hlen]; exact hv', wb, wK, wc, by rw [hlen]; exact hlc, ?_, ?_⟩
    · rw [hlen]
      refine ⟨hlen, by unfold maxLen at hcm; omega, fun _ => ⟨a, rfl, fun j p hj => ⟨[.int .i64 p.f0, .int .i64 p.f1], rfl, k63_mk _ _, fun i u hu => ?_⟩⟩⟩
      have hj' : j < len := by rw [← hlen]; exact (List.getElem?_eq_some_iff.1 hj).1
      rw [List.getElem?_map, List.getElem?_range hj'] at hj
      simp only [Option.map_some, Option.some.injEq] at hj
      subst hj
      obtain ⟨g0, g1, _, _⟩ := hq j hj'
      match i, hu with
      | 0, hu => simp at hu; subst hu; exact g0
      | 1, hu => simp at hu; subst hu; exact g1
    · intro x hx
      obtain ⟨i, hi, rfl⟩ := List.mem_map.1 hx
      obtain ⟨_, _, w0, w1⟩ := hq i (List.mem_range.1 hi)
      exact ⟨w0, w1⟩
end Go.Proofs.Ytcgimjoebkeifaa.LawC
