/- Parts of one proof, one behind the other (put together by wip/merge.py out of: CompB, Hcomp, PQxf8, LawC1, LawC2, PQxf18, AddB, AddC, AddD, AddE, Hadd). No conditions beyond each theorem's own. -/
import Derived.Deep.RegionWith
import Derived.Deep.RegionHeld3
import Derived.Deep.RegionLaw
import Derived.Laws.OwnMore
import Derived.Lib.JoinLaws
import Derived.Test.YtcgimjoebkeifaaQC1
import Derived.Test.YtcgimjoebkeifaaQC2
import Derived.Test.YtcgimjoebkeifaaQC3
import Derived.Test.YtcgimjoebkeifaaQC4
import Derived.Test.YtcgimjoebkeifaaQC5
/- qdigest.Compress at a valid digest: the call answers what the plain function 'comp' says. -/
namespace Go.Proofs.Ytcgimjoebkeifaa.QComp
open Go.RowKit Go.Proofs.YtcgimjoebkeifaaW.PrintWords Go.Proofs.QHeap Go.Proofs.QComp Go.Proofs.Ytcgimjoebkeifaa.QHeap Go.Proofs.Ytcgimjoebkeifaa.PQ
set_option maxHeartbeats 8000000
theorem make68 (n : Nat) (hn : n ≤ 1073741824) (W : World) : (Instr.makeSlice 68 (.int .i64 0) (.int .i64 n)).run Try.prog W = .ok (.slice (some ⟨W.heap.size, 0, none⟩) 0 n) (W.alloc (.cells (madeCells #[.int .i64 0] n) 3)) := by
  obtain ⟨i0, hi, hz0, hz1, hz2⟩ := info_parts QHeap.info3
  have h := run_make (P := Try.prog) W 68 3 i0 (.int .i64 0) Try.underlying68 hi hz0 .i64 .i64 0 n (by omega) (by omega) (by rw [hz2]; omega) (by omega)
  rw [hz1] at h
  simp only [Int.toNat_natCast, Int.toNat_zero, Nat.mul_one] at h
  exact h
theorem make22 (n : Nat) (hn : n ≤ 1073741824) (W : World) : (Instr.makeSlice 22 (.int .i64 0) (.int .i64 n)).run Try.prog W = .ok (.slice (some ⟨W.heap.size, 0, none⟩) 0 n) (W.alloc (.cells (madeCells #[.int .i64 0, .int .i64 0] (n * 2)) 63)) := by
  obtain ⟨i0, hi, hz0, hz1, hz2⟩ := info_parts Ord.info63
  have h := run_make (P := Try.prog) W 22 63 i0 _ Try.underlying22 hi hz0 .i64 .i64 0 n (by omega) (by omega) (by rw [hz2]; omega) (by omega)
  rw [hz1] at h
  simp only [Int.toNat_natCast, Int.toNat_zero] at h
  exact h
theorem make67 (n : Nat) (W : World) : (Instr.makeMap 67 (some (.int .i64 n))).run Try.prog W = .ok (.map (some W.heap.size)) (W.alloc (.map #[] 0)) := by
  simp [Instr.makeMap, run_underlying Try.underlying67, asInt, asIntOf]
theorem cst_start (w w1 : World) (n : Nat) (X Z : Array Value) (hn : n ≤ 1073741824) (b0 : w1.heap[w.heap.size]? = some (.cells X 24 (0, 0))) (b1 : w1.heap[w.heap.size + 1]? = some (.cells Z 24 (0, 0))) (hbb : Below w.heap.size w w1) :
    CSt w (((w1.alloc (.map #[] 0)).alloc (.cells (madeCells #[.int .i64 0] n) 3)).alloc (.cells #[.slice (some ⟨w1.heap.size + 1, 0, none⟩) 0 n] 68)) w.heap.size w1.heap.size (w1.heap.size + 1 + 1) (w1.heap.size + 1) n X Z [] [] := by
  have hs := hbb.size
  have e1 : (w1.alloc (.map #[] 0)).heap.size = w1.heap.size + 1 := by simp
  have e2 : ((w1.alloc (.map #[] 0)).alloc (.cells (madeCells #[.int .i64 0] n) 3)).heap.size = w1.heap.size + 1 + 1 := by simp
  refine ⟨((hbb.alloc hs _).alloc (by omega) _).alloc (by omega) _, blk_alloc (blk_alloc (blk_alloc b0 _) _) _, blk_alloc (blk_alloc (blk_alloc b1 _) _) _, hs, ?_, ⟨by omega, ?_, ?_⟩⟩
  · refine (MapAt.made w1).move ?_
    rw [blk_alloc (blk_alloc (blk_new w1 _) _) _, blk_new]
  · rw [← e2]
    exact blk_new _ _
  · have h := World.ownsRow_made (base := w.heap.size) (e := 3) (size := 1) (w1.alloc (.map #[] 0)) (madeCells #[.int .i64 0] n) n (by omega) (by unfold maxLen; omega) (by rw [size_madeCells]; omega)
    rw [e1] at h
    exact h.alloc _
theorem fill_next (xs : List S63) (j : Nat) (cs : Cs) (td : List Int) (hj : j < xs.length) (h : fillS ((xs.map pair).take j) [] [] = (cs, td)) :
    fillS ((xs.map pair).take (j + 1)) [] [] = (put cs (rd_T63 xs j).f0 (rd_T63 xs j).f1, if 1 < (rd_T63 xs j).f0 then td ++ [(rd_T63 xs j).f0 / 2] else td) := by
  have hl : j < (xs.map pair).length := by simpa using hj
  rw [List.take_add_one, List.getElem?_eq_getElem hl, Option.toList_some, fillS_append, h]
  have e : (xs.map pair)[j] = ((rd_T63 xs j).f0, (rd_T63 xs j).f1) := by
    simp [pair, rd_T63, hj, List.getD_eq_getElem?_getD]
  rw [e]
  rfl
theorem appended {W w1 : World} {B g r cap n r' cap' : Nat} {L : List Int} {x : Int} (h : Hp W B g r cap L) (hn : L.length = n) {o : Obj}
    (hown' : w1.ownsRow B 3 1 (.slice (some ⟨r', 0, none⟩) (n + 1) cap') (n + 1) (nums .i64 L ++ [.int .i64 x])) (hg2 : (W.alloc o).grownBy w1 (some r)) :
    w1.heap[g]? = some (.cells #[.slice (some ⟨r, 0, none⟩) L.length cap] 68 (0, 0)) ∧
    Hp (w1.setCell ⟨g, 0, none⟩ (.slice (some ⟨r', 0, none⟩) (n + 1) cap')) B g r' cap' (L ++ [x]) ∧ Fr (fun k => k = g ∨ k = r) W (w1.setCell ⟨g, 0, none⟩ (.slice (some ⟨r', 0, none⟩) (n + 1) cap')) := by
  have hgl := h.lt
  have hb1 : w1.heap[g]? = some (.cells #[.slice (some ⟨r, 0, none⟩) L.length cap] 68 (0, 0)) := (hg2.block g (by simp; omega) (fun e => h.ne (Option.some.inj e))).trans ((Below.heap_alloc W _ g hgl).trans h.box)
  have hne' : g ≠ r' := by
    rintro rfl
    rcases hown'.2 with ⟨h1, _⟩ | ⟨g', c', cur, h1, _, h2, _⟩
    · simp at h1
    · simp at h1
      obtain ⟨rfl, _⟩ := h1
      rw [hb1] at h2
      simp at h2
  refine ⟨hb1, ⟨h.ge, ?_, ?_⟩, ⟨?_, ?_, ?_, ?_, ?_⟩⟩
  · rw [List.length_append, hn]
    exact one_setCell hb1
  · rw [List.length_append, hn]
    have e8 : nums .i64 (L ++ [x]) = nums .i64 L ++ [.int .i64 x] := by simp [nums]
    rw [e8]
    exact ownsRow_setCell_other hown' (fun e => hne' (Option.some.inj e).symm) _
  · exact hg2.os
  · exact hg2.tape
  · exact hg2.output
  · have := hg2.size
    simp [World.setCell] at this ⊢
    omega
  · intro k hk hn
    rw [Below.heap_setCell _ _ _ _ (by simp; omega), hg2.block k (by simp; omega) (fun e => hn (.inr (Option.some.inj e))), Below.heap_alloc W _ k hk]
set_option maxRecDepth 100000 in
theorem comp_yes (k : Nat) (bits K count : Int) (A : Option Addr) (c : Nat) (xs : List S63) (cs : Cs) (w : World) (hr : Kd.C k63 w A xs.length xs) (hc : xs.length ≤ c) (h : qdigest_Check.f k bits K count xs = some 0)
    (h2 : comp k bits K count (xs.map pair) = some cs) :
    Calls Try.prog 11 #[.agg #[.int .i64 bits, .int .i64 K, .int .i64 count, .slice A xs.length c]] w (CPost bits K count (cs.map unpair) 0 w) := by
  have hch := qdigest_Check.calls k bits K count A c xs 0 (W2 w #[.int .i64 bits, .int .i64 K, .int .i64 count, .slice A xs.length c]) (Kd.C_below hr (W2_below _ _)) hc h
  unfold comp at h2
  by_cases hb : (1 ≤ bits ∧ bits ≤ 40) ∧ (1 ≤ K ∧ K ≤ 1099511627776) ∧ (0 ≤ count ∧ count ≤ 1125899906842624) ∧ Okay (xs.map pair)
  case neg => rw [if_neg hb] at h2; cases h2
  rw [if_pos hb] at h2
  obtain ⟨⟨hb1, hb2⟩, ⟨hK1, hK2⟩, ⟨hc1, hc2⟩, hok⟩ := hb
  have hlen : xs.length ≤ 1073741824 := by simpa using hok.1
  have H2 := Lib.hid h2
  have HOK := Lib.hid hok
  have HR := Lib.hid hr
  have hmk := fun W => make68 xs.length hlen W
  have hmm := fun W => make67 xs.length W
  clear h2 hok hr h
  generalize hn : xs.length = n at *
  have HN := Lib.hid hn
  clear hn
  go_enter Try.func11, Try.ntmps11
  go_wp2_with fail
  refine hch.mono ?_
  rintro e w1 ⟨rfl, hB⟩
  obtain ⟨b0, b1, hbb⟩ := W2_blocks hB
  have x0 := blk_cell b0 0
  have x1 := blk_cell b0 1
  have x2 := blk_cell b0 2
  have x3 := blk_cell b0 3
  simp at x0 x1 x2 x3
  have hz : w.heap.size + 1 < w1.heap.size := by have := (Array.getElem?_eq_some_iff.1 b1).1; exact this
  have hz0 : w.heap.size < w1.heap.size := by omega
  have hz2 : w.heap.size < w1.heap.size + 1 := by omega
  have hz3 : w.heap.size < w1.heap.size + 1 + 1 := by omega
  have hz4 : w.heap.size < w1.heap.size + 2 := by omega
  have HB := Lib.hid hB
  have B0 := Lib.hid b0
  have B1 := Lib.hid b1
  have HBB := Lib.hid hbb
  clear b0 b1 hB hbb hch
  go_wp2_with fail
  have hst := cst_start w w1 n _ _ hlen B0.out B1.out HBB.out
  have hgp : w.heap.size + 1 < w1.heap.size + 1 + 1 := by omega
  generalize ((w1.alloc (.map #[] 0)).alloc (.cells (madeCells #[.int .i64 0] n) 3)).alloc (.cells #[.slice (some ⟨w1.heap.size + 1, 0, none⟩) 0 n] 68) = wa at hst ⊢
  generalize w1.heap.size + 1 + 1 = g at hst ⊢
  generalize w1.heap.size + 1 = r0 at hst ⊢
  generalize w1.heap.size = mb at hst ⊢
  clear x0 x1 x2 x3 hz hz0 hz2 hz3 hz4 hmk hmm
  go_loopg [30] n (fun gk s30 wr => ∃ (j : Nat) (cs0 : Cs) (td : List Int) (r cap : Nat), s30 = .int .i64 j ∧ CSt w wr w.heap.size mb g r cap #[.int .i64 bits, .int .i64 K, .int .i64 count, .slice A n c] #[.int .i64 0, .int .i64 0, .int .i64 0, .slice none 0 0] cs0 td ∧ fillS ((xs.map pair).take j) [] [] = (cs0, td) ∧ j ≤ n ∧ gk = n - j)
  case atStart => exact ⟨0, [], [], r0, n, rfl, hst, rfl, Nat.zero_le _, rfl⟩
  case round =>
    obtain ⟨j, cs0, td, r, cap, rfl, hs, hfill, hj, hgk⟩ := hrel
    have HF := Lib.hid hfill
    have HG := Lib.hid hgk
    clear hfill hgk
    by_cases hlt : j < n
    · have hlti : (j : Int) < n := by omega
      have hjn : j < xs.length := by rw [HN.out]; exact hlt
      obtain ⟨ad, rfl, hx0, hx1⟩ := at_T63 (Kd.C_below HR.out hs.bel) (j : Int) (by omega) (by omega)
      simp only [Int.toNat_natCast] at hx0 hx1
      have hnext := fill_next xs j cs0 td hjn HF.out
      have hbd : (0 ≤ (rd_T63 xs j).f0 ∧ (rd_T63 xs j).f0 ≤ 1099511627776) ∧ (0 ≤ (rd_T63 xs j).f1 ∧ (rd_T63 xs j).f1 ≤ 1125899906842624) :=
        HOK.out.2 (pair (rd_T63 xs j)) (List.mem_map.2 ⟨_, by simp [rd_T63, List.getD_eq_getElem?_getD, hjn], rfl⟩)
      have hcl := fillS_cs_len ((xs.map pair).take j) [] []
      have htl := fillS_td_len ((xs.map pair).take j) [] []
      rw [HF.out] at hcl htl
      have hcl2 : cs0.length ≤ 1073741824 := by simp at hcl; omega
      have htl2 : td.length ≤ 1073741824 := by simp at htl; omega
      clear hcl htl
      generalize (rd_T63 xs j).f0 = id at hx0 hx1 hnext hbd
      generalize (rd_T63 xs j).f1 = ct at hx0 hx1 hnext hbd
      obtain ⟨⟨hi0, hi1⟩, hc0, hc3⟩ := hbd
      have HNX := Lib.hid hnext
      clear hnext
      have hs1 := hs.alloc (.cells #[.int .i64 id, .int .i64 ct] 63)
      obtain ⟨w2, hset, hm2, hg2⟩ := hs1.mp.set id ct (wf_of (by omega) (by omega)) (wf_of (by omega) (by omega)) hcl2
      have hs2 := hs1.map hm2 hg2
      have hnb : w2.heap[wr.heap.size]? = some (.cells #[.int .i64 id, .int .i64 ct] 63 (0, 0)) := by
        rw [hg2.block _ (by simp) (by have := hs.mp.lt; intro e; have : wr.heap.size = mb := Option.some.inj e; omega)]
        exact blk_new wr _
      have hn0 := blk_cell hnb 0
      have hn1 := blk_cell hnb 1
      simp at hn0 hn1
      have hbc := hs2.hp.cell
      have HS2 := Lib.hid hs2
      have HS := Lib.hid hs
      clear hs1 hm2 hg2 hnb hs hs2
      by_cases hgt : 1 < id
      · have hq0 : 0 ≤ id / 2 := by omega
        have hrow := HS2.out.hp.row
        obtain ⟨i0, hi, hz0, hz1, hz2⟩ := info_parts QHeap.info3
        go_wp2_with (at_builtin; refine wpList_append_own_at _ rfl _ _ 68 rfl w.heap.size 3 i0 (.int .i64 0) 1 8 Try.underlying68 hi hz0 hz1 hz2 rfl (by decide) _ _ _ rfl (hrow.alloc _) ⟨w2.heap.size, 0, none⟩ 1 1 [.int .i64 (id / 2)] rfl rfl (cell_one_new _ _ _) (by simp [Value.oneCell']) (by unfold maxLen; omega) (by omega) (by simp; have := HS2.out.bel.size; omega) ?_; intro v' w3 hown' hgrow _ hat; obtain ⟨r', cap', rfl, hle', hm'⟩ := hown'.form (by omega); have hap := appended HS2.out.hp rfl hown' hgrow; have hc1 := cell_of_one hap.1; have hf1 := free_of_one hap.1; clear hbc; have HAP := Lib.hid hap; clear hap)
        have hs3 := HS2.out.heap HAP.out.2.1 HAP.out.2.2 rfl
        have hnx := HNX.out
        rw [if_pos hgt] at hnx
        go_roundg (n - (j + 1))
        case rel => exact ⟨j + 1, _, _, r', cap', by go_num, hs3, hnx, by omega, rfl⟩
        case measure => rw [HG.out]; omega
      · go_wp2
        have hnx := HNX.out
        rw [if_neg (by omega)] at hnx
        go_roundg (n - (j + 1))
        case rel => exact ⟨j + 1, _, _, r, cap, by go_num, HS2.out, hnx, by omega, rfl⟩
        case measure => rw [HG.out]; omega
    · have hjn : j = n := by omega
      have HJN := Lib.hid hjn
      clear hjn
      go_wp2_with fail
      have hfull : fillS (xs.map pair) [] [] = (cs0, td) := by
        have h := HF.out
        rwa [HJN.out, ← HN.out, List.take_of_length_le (by simp)] at h
      have h2 := H2.out
      rw [hfull] at h2
      obtain ⟨csF, hloop, hfin⟩ := Option.bind_eq_some_iff.1 h2
      have htl := fillS_td_len (xs.map pair) [] []
      rw [hfull] at htl
      have htl2 : td.length ≤ 1073741824 := by simp at htl; have := HN.out; omega
      have hini := Init_calls wr w.heap.size g r cap td.length td hs.hp rfl (by omega)
      have HLP := Lib.hid hloop
      have HFIN := Lib.hid hfin
      have HS := Lib.hid hs
      clear hfull h2 hloop hfin htl hs
      refine hini.mono ?_
      rintro e wb ⟨rfl, hpb, hfb⟩
      have hsb := HS.out.heap hpb (hfb.mono (fun _ _ h => .inr h)) rfl
      have y1 := hsb.xcell 1
      have y2 := hsb.xcell 2
      simp at y1 y2
      clear hpb hfb hini
      have HSB := Lib.hid hsb
      clear hsb
      go_wp2_with fail
      clear y1 y2
      generalize hthr : count / K = thr at HLP
      have hth0 : 0 ≤ thr ∧ thr ≤ 1125899906842624 := by
        subst hthr
        constructor
        · exact Int.ediv_nonneg hc1 (by omega)
        · exact Int.le_trans (Int.ediv_le_self _ hc1) hc2
      have HTHR := Lib.hid hthr
      clear hthr
      go_loopg [9] k (fun gk s9 wq => ∃ (cs1 : Cs) (td1 : List Int) (r1 cap1 : Nat), CSt w wq w.heap.size mb g r1 cap1 #[.int .i64 bits, .int .i64 K, .int .i64 count, .slice A n c] #[.int .i64 0, .int .i64 0, .int .i64 0, .slice none 0 0] cs1 td1 ∧ loop thr (2 ^ bits.toNat) gk cs1 td1 = some csF)
      case atStart => exact ⟨cs0, _, r, cap, HSB.out, HLP.out⟩
      case round =>
        obtain ⟨cs1, td1, r1, cap1, hs1, hl1⟩ := hrel
        cases gk with
        | zero => simp [loop] at hl1
        | succ gk =>
          unfold loop at hl1
          have hmL := meth_Len g wr _ hs1.hp.cell
          have hcl := hs1.hp.cell
          by_cases h0 : td1.length = 0
          · rw [if_pos h0] at hl1
            have HL1 := Lib.hid hl1
            have HS1 := Lib.hid hs1
            rw [h0] at hcl
            have H0 := Lib.hid h0
            clear hl1 hs1 h0 hmL
            have HCS : Hid (cs1 = csF) := Lib.hid (Option.some.inj HL1.out)
            obtain ⟨hky, hln, hso⟩ : Keyed csF ∧ csF.length ≤ 1000000 ∧ sorted csF = cs := by
              have h := HFIN.out
              by_cases hh : Keyed csF ∧ csF.length ≤ 1000000
              · rw [if_pos hh] at h; exact ⟨hh.1, hh.2, Option.some.inj h⟩
              · rw [if_neg hh] at h; cases h
            have hs1 := HS1.out
            rw [HCS.out] at hs1
            have hnd : (keys csF).Nodup := by obtain ⟨D, _, r⟩ := hs1.mp; exact r.nodup
            have hlen2 := hs1.mp.len 3
            have hmk22 := make22 csF.length (by omega) wr
            obtain ⟨D, hown, hrel⟩ := hs1.mp
            have hrow := World.ownsRow_made (base := w.heap.size) (e := 63) (size := 2) wr (madeCells #[.int .i64 0, .int .i64 0] (csF.length * 2)) csF.length hs1.bel.size (by unfold maxLen; omega) (by rw [size_madeCells])
            have HBEL := Lib.hid (hs1.bel.alloc hs1.bel.size (.cells (madeCells #[.int .i64 0, .int .i64 0] (csF.length * 2)) 63))
            have HBX := Lib.hid (blk_alloc hs1.bx (.cells (madeCells #[.int .i64 0, .int .i64 0] (csF.length * 2)) 63))
            have HBR := Lib.hid (blk_alloc hs1.br (.cells (madeCells #[.int .i64 0, .int .i64 0] (csF.length * 2)) 63))
            have hmlt := hs1.mp.lt
            have hown2 := hown.alloc (.cells (madeCells #[.int .i64 0, .int .i64 0] (csF.length * 2)) 63)
            have hrlt : w.heap.size ≤ wr.heap.size := hs1.bel.size
            have HKY := Lib.hid hky
            have HSO := Lib.hid hso
            have HND := Lib.hid hnd
            have HREL := Lib.hid hrel
            clear hky hso hnd hrel hs1 hown
            go_wp2_with (first | (go_at_call 33; refine (Len_calls _ _ _ _).mono ?_; rintro e w' ⟨rfl, rfl⟩) | (at_range; refine wpList_range_own _ rfl (.tmp 127) 67 rfl 3 3 (Maps.int_keyed Try.underlying3) Try.underlying67 (plainElem Try.prog 3) mb csF.length D rfl hown2 ?_; intro w0 hrg0 hg0 hs0; go_frame))
            have hq0 : w.heap.size ≤ (wr.alloc (Obj.cells (madeCells #[.int .i64 0, .int .i64 0] (csF.length * 2)) 63)).heap.size := by simp; omega
            have hrs : RSt w w0 w.heap.size mb (wr.alloc (Obj.cells (madeCells #[.int .i64 0, .int .i64 0] (csF.length * 2)) 63)).heap.size #[.int .i64 bits, .int .i64 K, .int .i64 count, .slice A n c] #[.int .i64 0, .int .i64 0, .int .i64 0, .slice none 0 0] D csF [] (Maps.has D) (Maps.size D) (.slice (some ⟨wr.heap.size, 0, none⟩) 0 csF.length) := by
              have hlt2 := (Array.getElem?_eq_some_iff.1 HBR.out).1
              refine ⟨HBEL.out.grown hg0 hq0 (fun k hk => by cases hk), by rw [hs0]; omega, (hg0.block _ (by omega) (by simp)).trans HBX.out, (hg0.block _ hlt2 (by simp)).trans HBR.out, hq0, hrg0, hrow.kept hg0 (.inr (by simp [Value.ownBlock])), by simp, by simp, List.nodup_nil, fun x => ?_⟩
              rw [HREL.out.has]
              simp [keys]
            have hsz := HREL.out.size
            clear hrg0 hg0 hs0 hrow hown2 hq0 hmk22 hlen2 hmlt hrlt hcl
            generalize (wr.alloc (Obj.cells (madeCells #[.int .i64 0, .int .i64 0] (csF.length * 2)) 63)).heap.size = q at hrs ⊢
            have HRS := Lib.hid hrs
            have HSZ := Lib.hid hsz
            clear hrs hsz
            go_loopg [12] (Maps.size D) (fun gk s12 wq => ∃ (acc : Cs) (left : Lit → Bool), RSt w wq w.heap.size mb q #[.int .i64 bits, .int .i64 K, .int .i64 count, .slice A n c] #[.int .i64 0, .int .i64 0, .int .i64 0, .slice none 0 0] D csF acc left gk s12 ∧ acc.length + gk ≤ csF.length)
            case atStart => exact ⟨[], _, HRS.out, by rw [HSZ.out]; simp⟩
            case round =>
              obtain ⟨acc, left, hst, hbd⟩ := hrel
              have HST := Lib.hid hst
              have hrg := hst.rg
              clear hst
              go_wp2_with (at_next; refine wpList_next_ranges_ii _ rfl _ rfl 3 3 .i64 .i64 (Maps.int_keyed Try.underlying3) Try.underlying3 Try.underlying3 mb q csF.length _ _ _ rfl hrg ?_ ?_)
              · intro hc0 hl0
                have HC0 := Lib.hid hc0
                have HL0 := Lib.hid hl0
                clear hc0 hl0 hrg
                have hperm := HST.out.done HND.out HL0.out
                obtain ⟨rb, cap2, hv2, hcells⟩ := HST.out.shape
                subst hv2
                have hky2 := keyed_of HKY.out hperm
                have hln2 : acc.length ≤ 1000000 := by rw [hperm.length_eq]; exact hln
                have eg : ∀ args w, (callFunc 37 args).run Try.prog w = .ok (.enter 37 args) w := enters_of Try.func37 (by kernel_rfl) rfl
                have hord := Ord.ordered_calls encE (fun _ => rfl) (fun x v hv => by simp [encE] at hv; rcases hv with rfl | rfl <;> rfl) cfE swoE 37 #[] eg rb 0 acc.length cap2 (toE acc hky2) (toE_len acc hky2) hln2 wr.drew
                  (by rw [toE_flat]; exact hcells) (fun W _ x y => byId_walk x y W)
                have q0 := HST.out.xcell 0
                have q1 := HST.out.xcell 1
                have q2 := HST.out.xcell 2
                simp at q0 q1 q2
                have hbl := (Array.getElem?_eq_some_iff.1 HST.out.br).1
                have HPERM := Lib.hid hperm
                clear hperm hcells
                go_wp2_with fail
                go_region_held3 (fun W => W.cell? ⟨w.heap.size, 0, none⟩ = some (.int .i64 bits) ∧ W.cell? ⟨w.heap.size, 1, none⟩ = some (.int .i64 K) ∧ W.cell? ⟨w.heap.size, 2, none⟩ = some (.int .i64 count)) (go_keep) (first | (go_at_call 36; refine hord.mono ?_; rintro e w2 ⟨v', ys, rfl, hp, hs, hown, hB⟩; obtain ⟨A2, c2, rfl⟩ := own_slice hown; have p0 := (hB.cell (p := ⟨w.heap.size, 0, none⟩) (by simp; omega)).trans q0; have p1 := (hB.cell (p := ⟨w.heap.size, 1, none⟩) (by simp; omega)).trans q1; have p2 := (hB.cell (p := ⟨w.heap.size, 2, none⟩) (by simp; omega)).trans q2; have hb2 := (hB.block (w.heap.size + 1) hbl).trans HST.out.br; have t0 := blk_cell hb2 0; have t1 := blk_cell hb2 1; have t2 := blk_cell hb2 2; have t3 := blk_cell hb2 3; have f0 := blk_frozen hb2 0; have f1 := blk_frozen hb2 1; have f2 := blk_frozen hb2 2; have f3 := blk_frozen hb2 3; simp at t0 t1 t2 t3; have HB2 := Lib.hid hb2; clear hb2))
                have hcs2 := ordered_is HND.out (by rw [toE_val]; exact HPERM.out) hp (by rw [(hp.length_eq).trans (toE_len acc hky2)]; exact hs)
                rw [HSO.out] at hcs2
                have hfl := flat_E ys
                rw [hcs2] at hfl
                rw [hfl] at hown
                have hcl : acc.length = cs.length := by
                  rw [← hcs2, List.length_map, hp.length_eq, toE_len]
                have hwl : wr.drew.heap.size = wr.heap.size := rfl
                have hown3 : w2.ownsRow w.heap.size 63 2 (.slice A2 acc.length c2) acc.length (cs.flatMap enc2) := own_weaken hown (by rw [hwl]; exact HST.out.le)
                have hoblk : (Value.slice A2 acc.length c2).ownBlock ≠ some (w.heap.size + 1) := by
                  intro e
                  have := (hown.lt _ e).1
                  rw [hwl] at this
                  omega
                have hbw : Below w.heap.size w w2 := HST.out.bel.trans ((Below.refl w.heap.size wr).drew.trans (hB.mono HST.out.le))
                have HCL := Lib.hid hcl
                clear hfl hcs2 hcl hown
                go_wp2_with fail
                refine bodyPost_ret (results_ct rfl _ _ (w.heap.size + 1) 24 #[.int .i64 bits, .int .i64 K, .int .i64 count, .slice A2 acc.length c2] (0, 0) _ rfl (blk_put (cs := #[.int .i64 bits, .int .i64 K, .int .i64 count, .slice none 0 0]) (blk_put (cs := #[.int .i64 bits, .int .i64 K, .int .i64 0, .slice none 0 0]) (blk_put (cs := #[.int .i64 bits, .int .i64 0, .int .i64 0, .slice none 0 0]) (blk_put (cs := #[.int .i64 0, .int .i64 0, .int .i64 0, .slice none 0 0]) HB2.out 0 _ rfl) 1 _ rfl) 2 _ rfl) 3 _ rfl) Try.underlying24 rfl (by kernel_rfl)) rfl ?_
                refine ⟨_, rfl, own_R (ownsRow_setCell_other (ownsRow_setCell_other (ownsRow_setCell_other (ownsRow_setCell_other hown3 hoblk _) hoblk _) hoblk _) hoblk _) HCL.out, ?_⟩
                exact (((hbw.setCell (by simp) _).setCell (by simp) _).setCell (by simp) _).setCell (by simp) _
              · intro x c1 w1 cnt1 hwx hwc hlx hat hrg1 hlt hg1 hs1 hen
                have hrow1 := HST.out.row1 hg1
                have hbw : w.heap.size ≤ w1.heap.size := by have := HST.out.le; omega
                obtain ⟨i0, hi, hz0, hz1, hz2⟩ := info_parts Ord.info63
                have HLX := Lib.hid hlx
                have HAT := Lib.hid hat
                have HRG1 := Lib.hid hrg1
                clear hlx hat hrg1 hrg hs1
                go_wp2_with (at_builtin; refine wpList_append_own _ rfl _ _ 22 rfl w.heap.size 63 i0 _ 2 16 Try.underlying22 hi hz0 hz1 hz2 rfl (by decide) _ _ _ rfl (hrow1.alloc _) ⟨w1.heap.size, 0, none⟩ 1 1 [.int .i64 x, .int .i64 c1] rfl rfl (cell_two_new _ _ _ _) (by simp [Value.oneCell']) (by unfold maxLen; omega) (by omega) (by simp; omega) ?_; intro v' w3 hown' hgrow hnil; clear hen)
                have hst2 := HST.out.step HREL.out HLX.out HAT.out HRG1.out hg1 hown' hgrow hnil
                go_roundg cnt1
                case rel => exact ⟨acc ++ [(x, c1)], _, hst2, by rw [List.length_append]; simp; omega⟩
                case measure => omega
          · rw [if_neg h0] at hl1
            by_cases hok : Small cs1 td1 ∧ Fine cs1 (popV td1)
            case neg => rw [if_neg hok] at hl1; cases hl1
            rw [if_pos hok] at hl1
            obtain ⟨⟨hsm1, hsm2⟩, ⟨hm0, hm1⟩, ⟨hg0, hg1⟩, ⟨ha0, ha1⟩, ⟨hb0, hb1'⟩⟩ := hok
            obtain ⟨n1, hn1⟩ : ∃ n1, td1.length = n1 + 1 := ⟨td1.length - 1, by omega⟩
            have hpop := Pop_calls wr w.heap.size g r1 cap1 n1 td1 hs1.hp hn1 (by omega)
            have hpl := popR_length td1
            rw [hn1] at hcl hpl
            have hpl2 : (popR td1).length ≤ 1073741824 := by omega
            have HL1 := Lib.hid hl1
            have HS1 := Lib.hid hs1
            clear hl1 hs1 hn1 hmL h0 hsm1 hpl
            generalize popV td1 = m at *
            generalize popR td1 = td2 at *
            have hn1p : (0 : Int) < (n1 : Int) + 1 := by omega
            have has := fun W => assert3 m W
            go_wp2_with (go_at_call 33; refine (Len_calls _ _ _ _).mono ?_; rintro e w' ⟨rfl, rfl⟩)
            refine hpop.mono ?_
            rintro e w2 ⟨rfl, hp2, hf2⟩
            have hs2 := HS1.out.heap hp2 hf2 rfl
            have l0 := hs2.mp.look m (wf_of (by omega) (by omega))
            have l1 := hs2.mp.look (2 * m) (wf_of (by omega) (by omega))
            have l2 := hs2.mp.look (2 * m + 1) (wf_of (by omega) (by omega))
            have HS2 := Lib.hid hs2
            clear hpop hp2 hf2 hcl hs2
            have hkd : kids cs1 m = get cs1 (2 * m) + get cs1 (2 * m + 1) := rfl
            have HKD := Lib.hid hkd
            clear hkd
            by_cases hcond : kids cs1 m = 0 ∨ thr < get cs1 m + kids cs1 m
            · have hl2 := HL1.out
              rw [if_pos hcond] at hl2
              have HL2 := Lib.hid hl2
              clear hl2
              rw [HKD.out] at hcond
              generalize get cs1 (2 * m) = va at *
              generalize get cs1 (2 * m + 1) = vb at *
              generalize get cs1 m = vm at *
              by_cases hz : va + vb = 0
              · have hzb : (va + vb == 0) = true := by simpa using hz
                have HZ := Lib.hid hz
                clear hz hcond
                go_wp2_with fail
                go_roundg gk
                case rel => exact ⟨cs1, td2, r1, cap1, HS2.out, HL2.out⟩
                case measure => omega
              · have hzb : (va + vb == 0) = false := by simpa using hz
                have hgt : thr < vm + (va + vb) := by omega
                have hgtb : decide (thr < vm + (va + vb)) = true := decide_eq_true hgt
                have HZ := Lib.hid hz
                clear hz hcond
                go_wp2_with fail
                go_roundg gk
                case rel => exact ⟨cs1, td2, r1, cap1, HS2.out, HL2.out⟩
                case measure => omega
            · have hl2 := HL1.out
              rw [if_neg hcond] at hl2
              rw [HKD.out] at hcond
              have hsum : (L64 (get cs1 m + kids cs1 m)).wf = true := wf_of (by rw [HKD.out]; omega) (by rw [HKD.out]; omega)
              obtain ⟨w3, hu3, hm3, hgr3⟩ := HS2.out.mp.set m (get cs1 m + kids cs1 m) (wf_of (by omega) (by omega)) hsum hsm2
              have hs3 := HS2.out.map hm3 hgr3
              obtain ⟨w4, hu4, hm4, hgr4⟩ := hs3.mp.drop (2 * m) (wf_of (by omega) (by omega)) 0
              have hs4 := hs3.map hm4 hgr4
              obtain ⟨w5, hu5, hm5, hgr5⟩ := hs4.mp.drop (2 * m + 1) (wf_of (by omega) (by omega)) 0
              have hs5 := hs4.map hm5 hgr5
              change CSt w w5 _ mb g r1 cap1 _ _ (merged cs1 m) td2 at hs5
              rw [HKD.out] at hu3
              have z0 := hs5.xcell 0
              simp at z0
              have HS5 := Lib.hid hs5
              have HL2 := Lib.hid hl2
              clear hl2 hm3 hgr3 hs3 hm4 hgr4 hs4 hm5 hgr5 hs5 hsum
              generalize merged cs1 m = cs2 at *
              generalize get cs1 (2 * m) = va at *
              generalize get cs1 (2 * m + 1) = vb at *
              generalize get cs1 m = vm at *
              have hzb : (va + vb == 0) = false := beq_eq_false_iff_ne.2 (by omega)
              have hgtb : decide (thr < vm + (va + vb)) = false := decide_eq_false (by omega)
              have hle : ¬ thr < vm + (va + vb) := by omega
              clear hcond
              have hpw : (2 : Int) ^ bits.toNat ≤ 1099511627776 := by
                have h1 : (2 : Nat) ^ bits.toNat ≤ 2 ^ 40 := Nat.pow_le_pow_right (by decide) (by omega)
                have h2 : ((2 ^ bits.toNat : Nat) : Int) ≤ ((2 ^ 40 : Nat) : Int) := Int.ofNat_le.2 h1
                simpa using h2
              have hpw0 : (0 : Int) < 2 ^ bits.toNat := Int.pow_pos (by decide)
              have hwr : wrap64 ((2 : Int) ^ bits.toNat) = 2 ^ bits.toNat := by
                generalize (2 : Int) ^ bits.toNat = q at hpw hpw0
                unfold wrap64
                omega
              have HWR := Lib.hid hwr
              clear hwr hpw hpw0
              have hq0 : 0 ≤ m / 2 := by omega
              have hpl2' : td2.length ≤ 1073741824 := hpl2
              by_cases hlim : 2 * m < 2 ^ bits.toNat
              · have hld : decide (2 * m < wrap64 (2 ^ bits.toNat)) = true := decide_eq_true (by rw [HWR.out]; exact hlim)
                have hld2 : 2 * m < wrap64 (2 ^ bits.toNat) := by rw [HWR.out]; exact hlim
                by_cases hm1c : 1 < m
                · have htd : todo (2 ^ bits.toNat) m td2 = pushL (pushL (pushL td2 (2 * m)) (2 * m + 1)) (m / 2) := by unfold todo; simp only [if_pos hlim, if_pos hm1c]
                  rw [htd] at HL2
                  clear htd
                  have HLIM := Lib.hid hlim
                  clear hlim
                  have hpu1 := Push_calls w5 w.heap.size g r1 cap1 _ _ (2 * m) HS5.out.hp rfl (by omega)
                  have hpl3 := pushL_length td2 (2 * m)
                  go_wp2_with fail
                  refine hpu1.mono ?_
                  rintro e v1 ⟨rfl, r6, cap6, hp1, hf1, _⟩
                  have hs6 := HS5.out.heap hp1 hf1 rfl
                  have HS6 := Lib.hid hs6
                  clear hpu1 hp1 hf1 hs6
                  have hpu2 := Push_calls v1 w.heap.size g r6 cap6 _ _ (2 * m + 1) HS6.out.hp rfl (by omega)
                  have hpl4 := pushL_length (pushL td2 (2 * m)) (2 * m + 1)
                  go_wp2_with fail
                  refine hpu2.mono ?_
                  rintro e v2 ⟨rfl, r7, cap7, hp2, hf2, _⟩
                  have hs7 := HS6.out.heap hp2 hf2 rfl
                  have HS7 := Lib.hid hs7
                  clear hpu2 hp2 hf2 hs7
                  have hpu3 := Push_calls v2 w.heap.size g r7 cap7 _ _ (m / 2) HS7.out.hp rfl (by omega)
                  have hpl5 := pushL_length (pushL (pushL td2 (2 * m)) (2 * m + 1)) (m / 2)
                  go_wp2_with fail
                  refine hpu3.mono ?_
                  rintro e v3 ⟨rfl, r8, cap8, hp3, hf3, _⟩
                  have hs8 := HS7.out.heap hp3 hf3 rfl
                  have HS8 := Lib.hid hs8
                  clear hpu3 hp3 hf3 hs8
                  go_wp2_with fail
                  go_roundg gk
                  case rel => exact ⟨cs2, _, _, _, HS8.out, HL2.out⟩
                  case measure => omega
                · have htd : todo (2 ^ bits.toNat) m td2 = pushL (pushL td2 (2 * m)) (2 * m + 1) := by unfold todo; simp only [if_pos hlim, if_neg hm1c]
                  rw [htd] at HL2
                  clear htd
                  have HLIM := Lib.hid hlim
                  clear hlim
                  have hpu1 := Push_calls w5 w.heap.size g r1 cap1 _ _ (2 * m) HS5.out.hp rfl (by omega)
                  have hpl3 := pushL_length td2 (2 * m)
                  go_wp2_with fail
                  refine hpu1.mono ?_
                  rintro e v1 ⟨rfl, r6, cap6, hp1, hf1, _⟩
                  have hs6 := HS5.out.heap hp1 hf1 rfl
                  have HS6 := Lib.hid hs6
                  clear hpu1 hp1 hf1 hs6
                  have hpu2 := Push_calls v1 w.heap.size g r6 cap6 _ _ (2 * m + 1) HS6.out.hp rfl (by omega)
                  have hpl4 := pushL_length (pushL td2 (2 * m)) (2 * m + 1)
                  go_wp2_with fail
                  refine hpu2.mono ?_
                  rintro e v2 ⟨rfl, r7, cap7, hp2, hf2, _⟩
                  have hs7 := HS6.out.heap hp2 hf2 rfl
                  have HS7 := Lib.hid hs7
                  clear hpu2 hp2 hf2 hs7
                  go_wp2_with fail
                  go_roundg gk
                  case rel => exact ⟨cs2, _, _, _, HS7.out, HL2.out⟩
                  case measure => omega
              · have hld : decide (2 * m < wrap64 (2 ^ bits.toNat)) = false := decide_eq_false (by rw [HWR.out]; exact hlim)
                have hld2 : ¬ 2 * m < wrap64 (2 ^ bits.toNat) := by rw [HWR.out]; exact hlim
                by_cases hm1c : 1 < m
                · have htd : todo (2 ^ bits.toNat) m td2 = pushL td2 (m / 2) := by unfold todo; simp only [if_neg hlim, if_pos hm1c]
                  rw [htd] at HL2
                  clear htd
                  have HLIM := Lib.hid hlim
                  clear hlim
                  have hpu1 := Push_calls w5 w.heap.size g r1 cap1 _ _ (m / 2) HS5.out.hp rfl (by omega)
                  have hpl3 := pushL_length td2 (m / 2)
                  go_wp2_with fail
                  refine hpu1.mono ?_
                  rintro e v1 ⟨rfl, r6, cap6, hp1, hf1, _⟩
                  have hs6 := HS5.out.heap hp1 hf1 rfl
                  have HS6 := Lib.hid hs6
                  clear hpu1 hp1 hf1 hs6
                  go_wp2_with fail
                  go_roundg gk
                  case rel => exact ⟨cs2, _, _, _, HS6.out, HL2.out⟩
                  case measure => omega
                · have htd : todo (2 ^ bits.toNat) m td2 = td2 := by unfold todo; simp only [if_neg hlim, if_neg hm1c]
                  rw [htd] at HL2
                  clear htd
                  have HLIM := Lib.hid hlim
                  clear hlim
                  go_wp2_with fail
                  go_roundg gk
                  case rel => exact ⟨cs2, _, _, _, HS5.out, HL2.out⟩
                  case measure => omega
end Go.Proofs.Ytcgimjoebkeifaa.QComp

/- qdigest.Compress as a Lean function, with a proof that the call answers so. Conditions: the nodes lie in memory as given. -/
namespace Go.Proofs.Ytcgimjoebkeifaa.PQ
open Go.RowKit Go.Proofs.YtcgimjoebkeifaaW.PrintWords Go.Proofs.QComp Go.Proofs.Ytcgimjoebkeifaa.QComp Go.Proofs.YtcgimjoebkeifaaW.PrintLast Go.Proofs.YtcgimjoebkeifaaW.PrintMore
def qdigest_Compress.f (k : Nat) (a0_0 : Int) (a0_1 : Int) (a0_2 : Int) (l0_3 : List (S63)) : Option (Int × Int × Int × (List (S63)) × Int) :=
  (qdigest_Check.f k a0_0 a0_1 a0_2 l0_3).bind fun t => if t = 0 then ((comp k a0_0 a0_1 a0_2 (l0_3.map pair)).bind fun cs => some (a0_0, a0_1, a0_2, cs.map unpair, 0)) else some (0, 0, 0, [], 1)
theorem qdigest_Compress.mono : ∀ a0 a1 a2 a3 k, LeO (qdigest_Compress.f k a0 a1 a2 a3) (qdigest_Compress.f (k + 1) a0 a1 a2 a3) := by
  intro a0 a1 a2 a3 k
  unfold qdigest_Compress.f
  refine LeO.bind (qdigest_Check.mono _ _ _ _ _) (fun t => ?_)
  refine LeO.ite ?_ (LeO.refl _)
  exact LeO.bind (fun r h => comp_mono _ _ _ _ _ _ h) (fun _ => LeO.refl _)
theorem qdigest_Compress.calls (k : Nat) (a0_0 : Int) (a0_1 : Int) (a0_2 : Int) (A0_3 : Option Addr) (c0_3 : Nat) (l0_3 : List (S63)) (r1 : Int) (r2 : Int) (r3 : Int) (r4 : List (S63)) (r5 : Int) (w : World) (hr0_3 : Kd.C k63 w A0_3 l0_3.length l0_3) (hc0_3 : l0_3.length ≤ c0_3) (h : qdigest_Compress.f k a0_0 a0_1 a0_2 l0_3 = some (r1, r2, r3, r4, r5)) :
    Calls Try.prog 11 #[.agg #[.int .i64 a0_0, .int .i64 a0_1, .int .i64 a0_2, .slice A0_3 l0_3.length c0_3]] w fun e w' => ∃ v3_ : Value, e = .returned (.tuple #[.agg #[.int .i64 r1, .int .i64 r2, .int .i64 r3, v3_], .int .i64 r5]) ∧ Kd.R k63 63 w' w.heap.size (fun _ => True) v3_ r4 ∧ Below w.heap.size w w' := by
  unfold qdigest_Compress.f at h
  obtain ⟨t, ht, h⟩ := Option.bind_eq_some_iff.1 h
  by_cases h0 : t = 0
  · rw [if_pos h0] at h
    subst h0
    obtain ⟨cs, hcs, h⟩ := Option.bind_eq_some_iff.1 h
    simp only [Option.some.injEq, Prod.mk.injEq] at h
    obtain ⟨rfl, rfl, rfl, rfl, rfl⟩ := h
    exact comp_yes k a0_0 a0_1 a0_2 A0_3 c0_3 l0_3 cs w hr0_3 hc0_3 ht hcs
  · rw [if_neg h0] at h
    simp only [Option.some.injEq, Prod.mk.injEq] at h
    obtain ⟨rfl, rfl, rfl, rfl, rfl⟩ := h
    exact comp_no k a0_0 a0_1 a0_2 A0_3 c0_3 l0_3 t w hr0_3 hc0_3 ht h0
end Go.Proofs.Ytcgimjoebkeifaa.PQ

/- Written by a program of this session (wip/patch_print.py): Go functions as Lean functions, each with a proof that the call does what its function says. No conditions beyond each theorem's own. -/
namespace Go.Proofs.Ytcgimjoebkeifaa.PQ
open Go.RowKit Go.Proofs.YtcgimjoebkeifaaW.PrintWords Go.Proofs.YtcgimjoebkeifaaW.PrintLast Go.Proofs.YtcgimjoebkeifaaW.PrintMore
attribute [local go_sem] max2_int min2_int max_two min_two max_three min_three max_four min_four   -- for this text's walks alone
set_option linter.unusedVariables false
set_option linter.unusedSimpArgs false

/-! ### lookoutref31_Great: function 8 -/
def lookoutref31_Great.f (a0_0 : Int) (a0_1 : Int) (a0_2 : Int) (l0_3 : List (S63)) : Option (Bool) := some (decide ((l0_3.length : Int) > 24))
set_option maxHeartbeats 8000000 in
set_option maxRecDepth 100000 in
theorem lookoutref31_Great.calls (a0_0 : Int) (a0_1 : Int) (a0_2 : Int) (A0_3 : Option Addr) (c0_3 : Nat) (l0_3 : List (S63)) (r : Bool) (w : World) (hr0_3 : Kd.C k63 w A0_3 l0_3.length l0_3) (hc0_3 : l0_3.length ≤ c0_3) (h : lookoutref31_Great.f a0_0 a0_1 a0_2 l0_3 = some r) :
    Calls Try.prog 8 #[.agg #[.int .i64 a0_0, .int .i64 a0_1, .int .i64 a0_2, .slice A0_3 l0_3.length c0_3]] w fun e w' => e = .returned (.bool r) ∧ Below w.heap.size w w' := by
  have hu24 := Try.underlying24
  have HR0_3 := Aside0.mk hr0_3
  have HC0_3 := Aside0.mk hc0_3
  clear hr0_3 hc0_3
  have HB := Aside0.mk (Below.refl w.heap.size w)
  have H : (some (decide ((l0_3.length : Int) > 24))) = some r := h
  clear h
  obtain rfl := Option.some.inj H
  go_enter Try.func8, Try.ntmps8
  go_wp2_with (first | ((with_reducible refine gate_dst (N := 1) rfl ?_); refine box_event ?hg (N := 1) ?hd (cs := #[.int .i64 a0_0, .int .i64 a0_1, .int .i64 a0_2, .slice A0_3 l0_3.length c0_3]) (t := 24) ?hr ?_; (case hd => rfl); (case hg => rfl); (case hr => first | (go_simp; done) | (go_simp; rfl)); intro gb101 hg w2 hbox hb; have n0_ := Aside0.mk (below_step (by repeat (first | (with_reducible first | exact HB.out | apply below_alloc | apply pw_below_drewN | apply below_drew1) | exact HB.out)) hb); have n1_ := Aside0.mk (hbox); have n2_ := Aside0.mk ((by rw [hg]; exact (below_size (by repeat (first | (with_reducible first | exact HB.out | apply below_alloc | apply pw_below_drewN | apply below_drew1) | exact HB.out))) : w.heap.size ≤ gb101)); have n3_ := Aside0.mk ((by rw [hg]; exact (below_size (by repeat (first | (with_reducible first | exact HB.out | apply below_alloc | apply pw_below_drewN | apply below_drew1) | exact HB.out))) : w.heap.size ≤ gb101)); clear HB; have HB := n0_; have BK101 := n1_; have GW101 := n2_; have GE101 := n3_; clear n0_ n1_ n2_ n3_; clear hb hbox hg; have hcz3_0 : w2.cell? ⟨gb101, 0, none⟩ = some (.int .i64 a0_0) := (blk_cell BK101.out 0).trans rfl; have hcz3_1 : w2.cell? ⟨gb101, 1, none⟩ = some (.int .i64 a0_1) := (blk_cell BK101.out 1).trans rfl; have hcz3_2 : w2.cell? ⟨gb101, 2, none⟩ = some (.int .i64 a0_2) := (blk_cell BK101.out 2).trans rfl; have hcz3_3 : w2.cell? ⟨gb101, 3, none⟩ = some (.slice A0_3 l0_3.length c0_3) := (blk_cell BK101.out 3).trans rfl; have hfz3_0 := blk_frozen BK101.out 0; have hfz3_1 := blk_frozen BK101.out 1; have hfz3_2 := blk_frozen BK101.out 2; have hfz3_3 := blk_frozen BK101.out 3))
  go_ret
  exact ⟨by first | rfl | (simp [errW_none, errW_some] <;> rfl) | (simp [*, errW_none, errW_some] <;> rfl), by repeat (first | (with_reducible first | exact HB.out | apply below_alloc | apply pw_below_drewN | apply below_drew1 | refine below_set ?_ GE101.out) | exact HB.out)⟩

end Go.Proofs.Ytcgimjoebkeifaa.PQ

/- The law QdigestCompress: the walk, on the ways on which it answers true. -/
namespace Go.Proofs.Ytcgimjoebkeifaa.LawC
set_option linter.unusedSimpArgs false
set_option linter.unusedVariables false
open Go.RowKit Go.Proofs.YtcgimjoebkeifaaW.PrintWords Go.Proofs.Ytcgimjoebkeifaa.PQ Go.Proofs.Ytcgimjoebkeifaa.QComp Go.Proofs.Ytcgimjoebkeifaa.QHeap
set_option maxHeartbeats 4000000
/-- The chapter's example. -/
def AwakeHolds : Prop := ∀ w, Calls Try.prog 10 #[] w fun e w' => e = .returned (.bool true) ∧ Below w.heap.size w w'
def TPost (w : World) (e : Ending) (w' : World) : Prop := e = .returned (.bool true) ∧ Below w.heap.size w w'
abbrev dg (a0 a1 a2 : Int) (A : Option Addr) (n c : Nat) : Value := .agg #[.int .i64 a0, .int .i64 a1, .int .i64 a2, .slice A n c]
abbrev dcells (a0 a1 a2 : Int) (v : Value) : Array Value := #[.int .i64 a0, .int .i64 a1, .int .i64 a2, v]
set_option maxRecDepth 100000 in
theorem law_great (AW : AwakeHolds) (a0 a1 a2 v : Int) (A : Option Addr) (c : Nat) (xs : List S63) (w : World) (hr : Kd.C k63 w A xs.length xs) (hc : xs.length ≤ c) (h : lookoutref31_Great.f a0 a1 a2 xs = some true) :
    Calls Try.prog 3 #[dg a0 a1 a2 A xs.length c, .int .u8 v] w (TPost w) := by
  have hb := (Below.refl w.heap.size w).alloc (Nat.le_refl _) (.cells (dcells a0 a1 a2 (.slice A xs.length c)) 24)
  have hg := lookoutref31_Great.calls a0 a1 a2 A c xs true _ (Kd.C_below hr hb) hc h
  clear hr
  go_enter Try.func3, Try.ntmps3
  go_wp2_with fail
  refine hg.mono ?_
  rintro e w1 ⟨rfl, hB⟩
  go_wp2_with fail
  refine (AW _).mono ?_
  rintro e w2 ⟨rfl, hB2⟩
  go_wp2_with fail
  go_ret
  have h1 := hb.trans (hB.mono (by simp))
  exact ⟨rfl, h1.trans (hB2.mono h1.size)⟩
set_option maxRecDepth 100000 in
theorem law_invalid (AW : AwakeHolds) (k : Nat) (a0 a1 a2 v t : Int) (A : Option Addr) (c : Nat) (xs : List S63) (w : World) (hr : Kd.C k63 w A xs.length xs) (hc : xs.length ≤ c) (h : lookoutref31_Great.f a0 a1 a2 xs = some false)
    (h2 : lookoutref31_Check.f k a0 a1 a2 xs = some t) (ht : ¬ t = 0) :
    Calls Try.prog 3 #[dg a0 a1 a2 A xs.length c, .int .u8 v] w (TPost w) := by
  have hb := (Below.refl w.heap.size w).alloc (Nat.le_refl _) (.cells (dcells a0 a1 a2 (.slice A xs.length c)) 24)
  have hg := lookoutref31_Great.calls a0 a1 a2 A c xs false _ (Kd.C_below hr hb) hc h
  have hch := fun W (hW : Below w.heap.size w W) => lookoutref31_Check.calls k a0 a1 a2 A c xs t W (Kd.C_below hr hW) hc h2
  have ht1 : (t != 0) = true := by simpa using ht
  have hx := blk_new w (.cells (dcells a0 a1 a2 (.slice A xs.length c)) 24)
  clear hr
  go_enter Try.func3, Try.ntmps3
  go_wp2_with fail
  refine hg.mono ?_
  rintro e w1 ⟨rfl, hB⟩
  have h1 := hb.trans (hB.mono (by simp))
  have bx := (hB.block w.heap.size (by simp)).trans hx
  have x0 := blk_cell bx 0
  have x1 := blk_cell bx 1
  have x2 := blk_cell bx 2
  have x3 := blk_cell bx 3
  simp at x0 x1 x2 x3
  clear bx hx hB hb
  go_wp2_with fail
  refine (hch _ h1).mono ?_
  rintro e w2 ⟨rfl, hB2⟩
  go_wp2_with fail
  refine (AW _).mono ?_
  rintro e w3 ⟨rfl, hB3⟩
  go_wp2_with fail
  go_ret
  have h2 := h1.trans (hB2.mono h1.size)
  exact ⟨rfl, h2.trans (hB3.mono h2.size)⟩
end Go.Proofs.Ytcgimjoebkeifaa.LawC

/- The law QdigestCompress: the walk at a valid digest. -/
namespace Go.Proofs.Ytcgimjoebkeifaa.LawC
set_option linter.unusedSimpArgs false
set_option linter.unusedVariables false
open Go.RowKit Go.Proofs.YtcgimjoebkeifaaW.PrintWords Go.Proofs.Ytcgimjoebkeifaa.PQ Go.Proofs.Ytcgimjoebkeifaa.QComp Go.Proofs.Ytcgimjoebkeifaa.QHeap
set_option maxHeartbeats 4000000
set_option maxRecDepth 100000 in
theorem law_valid (AW : AwakeHolds) (k : Nat) (a0 a1 a2 v : Int) (A : Option Addr) (c : Nat) (xs ys : List S63) (lo hi lo2 hi2 : Int) (w : World) (hr : Kd.C k63 w A xs.length xs) (hc : xs.length ≤ c) (h : lookoutref31_Great.f a0 a1 a2 xs = some false)
    (h2 : lookoutref31_Check.f k a0 a1 a2 xs = some 0) (hb : 1 ≤ a0 ∧ a0 ≤ 20) (ha1 : 1 ≤ a1 ∧ a1 ≤ 10000) (hv : 0 ≤ v ∧ v ≤ 255)
    (h3 : qdigest_Compress.f k a0 a1 a2 xs = some (a0, a1, a2, ys, 0)) (h4 : qdigest_Compress.f k a0 a1 a2 ys = some (a0, a1, a2, ys, 0))
    (h5 : qdigest_Rank.f k a0 a1 a2 xs (v % 2 ^ a0.toNat) = some (lo, hi, 0)) (h6 : qdigest_Rank.f k a0 a1 a2 ys (v % 2 ^ a0.toNat) = some (lo2, hi2, 0))
    (h7 : qdigest_Check.f k a0 a1 a2 ys = some 0) (h8 : lookoutref31_Same.f k a0 a1 a2 ys a0 a1 a2 ys = some true) (h9 : (ys.length : Int) < 4 * a1) (h10 : lo2 ≤ lo) (h11 : hi ≤ hi2) :
    Calls Try.prog 3 #[dg a0 a1 a2 A xs.length c, .int .u8 v] w (TPost w) := by
  have hbe := (Below.refl w.heap.size w).alloc (Nat.le_refl _) (.cells (dcells a0 a1 a2 (.slice A xs.length c)) 24)
  have hg := lookoutref31_Great.calls a0 a1 a2 A c xs false _ (Kd.C_below hr hbe) hc h
  have hch := fun W (hW : Below w.heap.size w W) => lookoutref31_Check.calls k a0 a1 a2 A c xs 0 W (Kd.C_below hr hW) hc h2
  have hcm := fun W (hW : Below w.heap.size w W) => qdigest_Compress.calls k a0 a1 a2 A c xs a0 a1 a2 ys 0 W (Kd.C_below hr hW) hc h3
  have hrk := fun W (hW : Below w.heap.size w W) => qdigest_Rank.calls k a0 a1 a2 A c xs (v % 2 ^ a0.toNat) lo hi 0 W (Kd.C_below hr hW) hc h5
  have HCM2 := Lib.hid (fun W A c (hW : Kd.C k63 W A ys.length ys) (hc : ys.length ≤ c) => qdigest_Compress.calls k a0 a1 a2 A c ys a0 a1 a2 ys 0 W hW hc h4)
  have HRK2 := Lib.hid (fun W A c (hW : Kd.C k63 W A ys.length ys) (hc : ys.length ≤ c) => qdigest_Rank.calls k a0 a1 a2 A c ys (v % 2 ^ a0.toNat) lo2 hi2 0 W hW hc h6)
  have HCH2 := Lib.hid (fun W A c (hW : Kd.C k63 W A ys.length ys) (hc : ys.length ≤ c) => qdigest_Check.calls k a0 a1 a2 A c ys 0 W hW hc h7)
  have HSM := Lib.hid (fun W A c A' c' (hW : Kd.C k63 W A ys.length ys) (hc : ys.length ≤ c) (hW' : Kd.C k63 W A' ys.length ys) (hc' : ys.length ≤ c') => lookoutref31_Same.calls k a0 a1 a2 A c ys a0 a1 a2 A' c' ys true W hW hc hW' hc' h8)
  have hx := blk_new w (.cells (dcells a0 a1 a2 (.slice A xs.length c)) 24)
  have hpw := pow_le_41 a0.toNat (by omega)
  have hpw1 : (1 : Int) ≤ 2 ^ a0.toNat := by omega
  have hmod : 0 ≤ v % 2 ^ a0.toNat := Int.emod_nonneg _ (by omega)
  obtain ⟨hb1, hb2⟩ := hb
  obtain ⟨hv1, hv2⟩ := hv
  clear hr h h2 h3 h4 h5 h6 h7 h8
  generalize hn : xs.length = n at *
  clear hn
  go_enter Try.func3, Try.ntmps3
  go_wp2_with fail
  refine hg.mono ?_
  rintro e w1 ⟨rfl, hB⟩
  have h1 := hbe.trans (hB.mono (by simp))
  have bx := (hB.block w.heap.size (by simp)).trans hx
  have x0 := blk_cell bx 0
  have x1 := blk_cell bx 1
  have x2 := blk_cell bx 2
  have x3 := blk_cell bx 3
  simp at x0 x1 x2 x3
  have hz1 : w.heap.size < w1.heap.size := (Array.getElem?_eq_some_iff.1 bx).1
  have BX := Lib.hid bx
  have H1 := Lib.hid h1
  clear bx hx hB hbe h1
  go_wp2_with fail
  refine (hch _ H1.out).mono ?_
  rintro e w2 ⟨rfl, hB2⟩
  have BX2 := Lib.hid ((hB2.block w.heap.size hz1).trans BX.out)
  have H2 := Lib.hid (H1.out.trans (hB2.mono H1.out.size))
  have hz2 : w.heap.size < w2.heap.size := by have := hB2.size; omega
  have x0 := blk_cell BX2.out 0
  have x1 := blk_cell BX2.out 1
  have x2 := blk_cell BX2.out 2
  have x3 := blk_cell BX2.out 3
  simp at x0 x1 x2 x3
  clear hB2 BX H1 hch hg
  go_wp2_with fail
  refine (hcm _ H2.out).mono ?_
  rintro e w3 ⟨v3, rfl, hR3, hB3⟩
  obtain ⟨A1, c1, rfl, hc1, hC1⟩ := Kd.R_reads hR3
  have BX3 := Lib.hid ((hB3.block w.heap.size hz2).trans BX2.out)
  have H3 := Lib.hid (H2.out.trans (hB3.mono H2.out.size))
  have hz3 : w.heap.size < w3.heap.size := by have := hB3.size; omega
  have HC3 := Lib.hid hC1
  clear hB3 hR3 hC1 BX2 H2 hcm
  have hcm2 := HCM2.out (w3.alloc (.cells (dcells a0 a1 a2 (.slice A1 ys.length c1)) 24)) A1 c1 (Kd.C_alloc HC3.out _) hc1
  generalize hm : ys.length = m at *
  have HM := Lib.hid hm
  clear hm
  go_wp2_with fail
  refine hcm2.mono ?_
  rintro e w4 ⟨v4, rfl, hR4, hB4⟩
  clear hcm2
  obtain ⟨A2, c2, rfl, hc2, hC2⟩ := Kd.R_reads hR4
  rw [HM.out] at hc2 hC2 ⊢
  have hy : (w3.alloc (.cells (dcells a0 a1 a2 (.slice A1 m c1)) 24)).heap[w3.heap.size]? = _ := blk_new _ _
  have BY4 := Lib.hid ((hB4.block w3.heap.size (by simp)).trans hy)
  have BX4 := Lib.hid ((hB4.block w.heap.size (by simp; omega)).trans (blk_alloc BX3.out _))
  have hb34 : Below w3.heap.size w3 w4 := ((Below.refl w3.heap.size w3).alloc (Nat.le_refl _) _).trans (hB4.mono (by simp))
  have H4 := Lib.hid (H3.out.trans (hb34.mono H3.out.size))
  have HC4y := Lib.hid (Kd.C_below HC3.out hb34)
  have HC4z := Lib.hid hC2
  have hz4 : w3.heap.size < w4.heap.size := by have := hB4.size; simp at this; omega
  have hz4' : w.heap.size < w4.heap.size := by omega
  have x0 := blk_cell BX4.out 0
  have x1 := blk_cell BX4.out 1
  have x2 := blk_cell BX4.out 2
  have x3 := blk_cell BX4.out 3
  simp at x0 x1 x2 x3
  have y0 := blk_cell BY4.out 0
  have y1 := blk_cell BY4.out 1
  have y2 := blk_cell BY4.out 2
  have y3 := blk_cell BY4.out 3
  simp at y0 y1 y2 y3
  clear hB4 hR4 hC2 hy hb34 HC3 H3 BX3
  have hbz := H4.out.alloc H4.out.size (.cells (dcells a0 a1 a2 (.slice A2 m c2)) 24)
  have hrk1 := hrk _ hbz
  have htm : v.tmod (2 ^ a0.toNat) = v % 2 ^ a0.toNat := Int.tmod_eq_emod_of_nonneg hv1
  have hmw : wrap64 v = v := by unfold wrap64; omega
  clear hrk
  go_wp2_with fail
  refine hrk1.mono ?_
  rintro e w5 ⟨rfl, hB5⟩
  have hz5 : w4.heap.size < w5.heap.size := by have := hB5.size; simp at this; omega
  have hzx : w.heap.size < w5.heap.size := by omega
  have hzy : w3.heap.size < w5.heap.size := by omega
  have BX5 := Lib.hid ((hB5.block w.heap.size (by simp; omega)).trans (blk_alloc BX4.out _))
  have BY5 := Lib.hid ((hB5.block w3.heap.size (by simp; omega)).trans (blk_alloc BY4.out _))
  have BZ5 := Lib.hid ((hB5.block w4.heap.size (by simp)).trans (blk_new w4 (.cells (dcells a0 a1 a2 (.slice A2 m c2)) 24)))
  have hb45 : Below w4.heap.size w4 w5 := ((Below.refl w4.heap.size w4).alloc (Nat.le_refl _) _).trans (hB5.mono (by simp))
  have H5 := Lib.hid (H4.out.trans (hb45.mono H4.out.size))
  have HCy := Lib.hid (Kd.C_below HC4y.out hb45)
  have HCz := Lib.hid (Kd.C_below HC4z.out hb45)
  clear x0 x1 x2 x3 y0 y1 y2 y3
  have y0 := blk_cell BY5.out 0
  have y1 := blk_cell BY5.out 1
  have y2 := blk_cell BY5.out 2
  have y3 := blk_cell BY5.out 3
  simp at y0 y1 y2 y3
  have hrk2 := HRK2.out w5 A1 c1 HCy.out hc1
  clear hB5 hrk1 hbz hb45 H4 BX4 BY4 HC4y HC4z
  go_wp2_with fail
  refine hrk2.mono ?_
  rintro e w6 ⟨rfl, hB6⟩
  have hzx6 : w.heap.size < w6.heap.size := by have := hB6.size; omega
  have hzy6 : w3.heap.size < w6.heap.size := by have := hB6.size; omega
  have hzz6 : w4.heap.size < w6.heap.size := by have := hB6.size; omega
  have BX6 := Lib.hid ((hB6.block w.heap.size hzx).trans BX5.out)
  have BY6 := Lib.hid ((hB6.block w3.heap.size hzy).trans BY5.out)
  have BZ6 := Lib.hid ((hB6.block w4.heap.size hz5).trans BZ5.out)
  have H6 := Lib.hid (H5.out.trans (hB6.mono H5.out.size))
  have HCy6 := Lib.hid (Kd.C_below HCy.out hB6)
  have HCz6 := Lib.hid (Kd.C_below HCz.out hB6)
  clear hB6 hrk2 y0 y1 y2 y3
  have y0 := blk_cell BY6.out 0
  have y1 := blk_cell BY6.out 1
  have y2 := blk_cell BY6.out 2
  have y3 := blk_cell BY6.out 3
  simp at y0 y1 y2 y3
  have hch2 := HCH2.out w6 A1 c1 HCy6.out hc1
  go_wp2_with fail
  refine hch2.mono ?_
  rintro e w7 ⟨rfl, hB7⟩
  have BX7 := Lib.hid ((hB7.block w.heap.size hzx6).trans BX6.out)
  have BY7 := Lib.hid ((hB7.block w3.heap.size hzy6).trans BY6.out)
  have BZ7 := Lib.hid ((hB7.block w4.heap.size hzz6).trans BZ6.out)
  have H7 := Lib.hid (H6.out.trans (hB7.mono H6.out.size))
  have HCy7 := Lib.hid (Kd.C_below HCy6.out hB7)
  have HCz7 := Lib.hid (Kd.C_below HCz6.out hB7)
  clear hB7 hch2 y0 y1 y2 y3
  have x0 := blk_cell BX7.out 0
  have x1 := blk_cell BX7.out 1
  have x2 := blk_cell BX7.out 2
  have x3 := blk_cell BX7.out 3
  have y0 := blk_cell BY7.out 0
  have y1 := blk_cell BY7.out 1
  have y2 := blk_cell BY7.out 2
  have y3 := blk_cell BY7.out 3
  have z0 := blk_cell BZ7.out 0
  have z1 := blk_cell BZ7.out 1
  have z2 := blk_cell BZ7.out 2
  have z3 := blk_cell BZ7.out 3
  simp at x0 x1 x2 x3 y0 y1 y2 y3 z0 z1 z2 z3
  have hsm := HSM.out w7 A1 c1 A2 c2 HCy7.out hc1 HCz7.out hc2
  obtain ⟨ha11, ha12⟩ := ha1
  go_wp2_with fail
  refine hsm.mono ?_
  rintro e w8 ⟨rfl, hB8⟩
  go_wp2_with fail
  refine (AW _).mono ?_
  rintro e w9 ⟨rfl, hB9⟩
  go_wp2_with fail
  go_ret
  have H8 := H7.out.trans (hB8.mono H7.out.size)
  exact ⟨rfl, H8.trans (hB9.mono H8.size)⟩
end Go.Proofs.Ytcgimjoebkeifaa.LawC

/- Written by a program of this session (wip/patch_print.py): Go functions as Lean functions, each with a proof that the call does what its function says. No conditions beyond each theorem's own. -/
namespace Go.Proofs.Ytcgimjoebkeifaa.PQ
open Go.RowKit Go.Proofs.YtcgimjoebkeifaaW.PrintWords Go.Proofs.YtcgimjoebkeifaaW.PrintLast Go.Proofs.YtcgimjoebkeifaaW.PrintMore
attribute [local go_sem] max2_int min2_int max_two min_two max_three min_three max_four min_four   -- for this text's walks alone
set_option linter.unusedVariables false
set_option linter.unusedSimpArgs false

/-! ### qdigest_New: function 18 -/
def qdigest_New.j0 : Nat → Int → Int → Bool → Option (Int × Int × Int × (List (S63)) × Int)
  | 0, _, _, _ => none
  | k + 1, x0, x1, x19 => if x19 = true then (some (0, 0, 0, ([] : List (S63)), 2)) else (some (x0, x1, 0, ([] : List (S63)), 0))
def qdigest_New.f (k : Nat) (a0 : Int) (a1 : Int) : Option (Int × Int × Int × (List (S63)) × Int) := if a0 < 1 then (qdigest_New.j0 k a0 a1 true) else (if a0 > 20 then (qdigest_New.j0 k a0 a1 true) else (if a1 < 1 then (qdigest_New.j0 k a0 a1 true) else (qdigest_New.j0 k a0 a1 (decide (a1 > 10000)))))
theorem qdigest_New.mono_l : ∀ k, (∀ y0 y1 y2, LeO (qdigest_New.j0 k y0 y1 y2) (qdigest_New.j0 (k + 1) y0 y1 y2))
  | 0 => fun _ _ _ r h => by simp [qdigest_New.j0] at h
  | k + 1 => by
    have ih0 := qdigest_New.mono_l k
    · intro y0 y1 y2
      unfold qdigest_New.j0
      repeat' first
      | (with_reducible exact ih0 _ _ _)
      | (with_reducible exact LeO.refl _)
      | (with_reducible exact LeO.none _)
      | (with_reducible refine LeO.ite ?_ ?_)
      | (with_reducible refine LeO.bind ?_ (fun _ => ?_))
      | exact ih0 _ _ _
      | exact LeO.none _
      | refine LeO.ite ?_ ?_
      | refine LeO.bind ?_ (fun _ => ?_)
theorem qdigest_New.mono : ∀ a0 a1 k, LeO (qdigest_New.f k a0 a1) (qdigest_New.f (k + 1) a0 a1) := by
  intro a0 a1 k
  have ih0 := qdigest_New.mono_l k
  unfold qdigest_New.f
  repeat' first
      | (with_reducible exact ih0 _ _ _)
      | (with_reducible exact LeO.refl _)
      | (with_reducible exact LeO.none _)
      | (with_reducible refine LeO.ite ?_ ?_)
      | (with_reducible refine LeO.bind ?_ (fun _ => ?_))
      | exact ih0 _ _ _
      | exact LeO.none _
      | refine LeO.ite ?_ ?_
      | refine LeO.bind ?_ (fun _ => ?_)
set_option maxHeartbeats 8000000 in
set_option maxRecDepth 100000 in
theorem qdigest_New.calls (k : Nat) (a0 : Int) (a1 : Int) (r1 : Int) (r2 : Int) (r3 : Int) (r4 : List (S63)) (r5 : Int) (w : World) (h : qdigest_New.f k a0 a1 = some (r1, r2, r3, r4, r5)) :
    Calls Try.prog 18 #[.int .i64 a0, .int .i64 a1] w fun e w' => ∃ v3_ : Value, e = .returned (.tuple #[.agg #[.int .i64 r1, .int .i64 r2, .int .i64 r3, v3_], .int .i64 r5]) ∧ Kd.R k63 63 w' w.heap.size (fun _ => True) v3_ r4 ∧ Below w.heap.size w w' := by
  have hu24 := Try.underlying24
  have HB := Aside0.mk (Below.refl w.heap.size w)
  have H : (if a0 < 1 then (qdigest_New.j0 k a0 a1 true) else (if a0 > 20 then (qdigest_New.j0 k a0 a1 true) else (if a1 < 1 then (qdigest_New.j0 k a0 a1 true) else (qdigest_New.j0 k a0 a1 (decide (a1 > 10000)))))) = some (r1, r2, r3, r4, r5) := h
  clear h
  have HC3 := Aside0.mk H
  clear H
  go_enter Try.func18, Try.ntmps18
  go_upto_region 1 with (first | ((with_reducible refine gate_dst (N := 4) rfl ?_); refine box_event ?hg (N := 4) ?hd (cs := #[.int .i64 0, .int .i64 0, .int .i64 0, .slice none 0 0]) (t := 24) ?hr ?_; (case hd => rfl); (case hg => rfl); (case hr => first | (go_simp; done) | (go_simp; rfl)); intro gb125 hg w4 hbox hb; have n0_ := Aside0.mk (below_step (by repeat (first | (with_reducible first | exact HB.out | apply below_alloc | apply pw_below_drewN | apply below_drew1) | exact HB.out)) hb); have n1_ := Aside0.mk (hbox); have n2_ := Aside0.mk ((by rw [hg]; exact (below_size (by repeat (first | (with_reducible first | exact HB.out | apply below_alloc | apply pw_below_drewN | apply below_drew1) | exact HB.out))) : w.heap.size ≤ gb125)); have n3_ := Aside0.mk ((by rw [hg]; exact (below_size (by repeat (first | (with_reducible first | exact HB.out | apply below_alloc | apply pw_below_drewN | apply below_drew1) | exact HB.out))) : w.heap.size ≤ gb125)); clear HB; have HB := n0_; have BK125 := n1_; have GW125 := n2_; have GE125 := n3_; clear n0_ n1_ n2_ n3_; clear hb hbox hg))
  (try simp only [Act.put, List.setIfInBounds_toArray, List.set_cons_zero, List.set_cons_succ])
  go_cut [19] (fun v19 wc => ∃ (kq : Nat) (x19_2 : Bool), v19 = .bool x19_2 ∧ Aside0 (qdigest_New.j0 kq a0 a1 x19_2 = some (r1, r2, r3, r4, r5)) ∧ Aside0 (kq ≤ k) ∧ Aside0 (wc.heap[gb125]? = some (.cells #[.int .i64 0, .int .i64 0, .int .i64 0, (.slice none 0 0)] 24 (0, 0))) ∧ Aside0 (Below w.heap.size w wc))
  case first =>
    have H := HC3.out
    clear HC3
    by_cases c5 : a0 < 1
    · rw [if_pos c5] at H
      have c5b0 : decide (a0 < 1) = true := decide_eq_true c5
      clear c5
      (first | rw [c5b0] | (simp only [i64_w, i32_w]; rw [c5b0]) | skip)
      have H' := Aside0.mk H
      clear H
      go_wp2
      go_meet
      case rel => exact ⟨_, (true), (by first | rfl | (simp; done) | (simp [*]; done)), H', ⟨by first | omega | exact Nat.le_refl _⟩, ⟨by (with_reducible repeat (first | refine blk_drewN ?_ _ | refine blk_drew ?_ | refine blk_alloc ?_ _)); exact BK125.out⟩, ⟨by repeat (first | (with_reducible first | exact HB.out | apply below_alloc | apply pw_below_drewN | apply below_drew1 | refine below_set ?_ GE125.out) | exact HB.out)⟩⟩
    · rw [if_neg c5] at H
      have c5b0 : decide (a0 < 1) = false := decide_eq_false c5
      clear c5
      (first | rw [c5b0] | (simp only [i64_w, i32_w]; rw [c5b0]) | skip)
      by_cases c6 : a0 > 20
      · rw [if_pos c6] at H
        have c6b0 : decide (20 < a0) = true := decide_eq_true c6
        clear c6
        have H' := Aside0.mk H
        clear H
        go_wp2
        go_meet
        case rel => exact ⟨_, (true), (by first | rfl | (simp; done) | (simp [*]; done)), H', ⟨by first | omega | exact Nat.le_refl _⟩, ⟨by (with_reducible repeat (first | refine blk_drewN ?_ _ | refine blk_drew ?_ | refine blk_alloc ?_ _)); exact BK125.out⟩, ⟨by repeat (first | (with_reducible first | exact HB.out | apply below_alloc | apply pw_below_drewN | apply below_drew1 | refine below_set ?_ GE125.out) | exact HB.out)⟩⟩
      · rw [if_neg c6] at H
        have c6b0 : decide (20 < a0) = false := decide_eq_false c6
        clear c6
        by_cases c7 : a1 < 1
        · rw [if_pos c7] at H
          have c7b0 : decide (a1 < 1) = true := decide_eq_true c7
          clear c7
          have H' := Aside0.mk H
          clear H
          go_wp2
          go_meet
          case rel => exact ⟨_, (true), (by first | rfl | (simp; done) | (simp [*]; done)), H', ⟨by first | omega | exact Nat.le_refl _⟩, ⟨by (with_reducible repeat (first | refine blk_drewN ?_ _ | refine blk_drew ?_ | refine blk_alloc ?_ _)); exact BK125.out⟩, ⟨by repeat (first | (with_reducible first | exact HB.out | apply below_alloc | apply pw_below_drewN | apply below_drew1 | refine below_set ?_ GE125.out) | exact HB.out)⟩⟩
        · rw [if_neg c7] at H
          have c7b0 : decide (a1 < 1) = false := decide_eq_false c7
          clear c7
          have H' := Aside0.mk H
          clear H
          go_wp2
          go_meet
          case rel => exact ⟨_, (decide (a1 > 10000)), (by first | rfl | (simp; done) | (simp [*]; done)), H', ⟨by first | omega | exact Nat.le_refl _⟩, ⟨by (with_reducible repeat (first | refine blk_drewN ?_ _ | refine blk_drew ?_ | refine blk_alloc ?_ _)); exact BK125.out⟩, ⟨by repeat (first | (with_reducible first | exact HB.out | apply below_alloc | apply pw_below_drewN | apply below_drew1 | refine below_set ?_ GE125.out) | exact HB.out)⟩⟩
  case rest =>
    clear HC3
    try clear c1
    try clear p2
    try clear c5
    try clear c5b0
    try clear c6
    try clear c6b0
    try clear c7
    try clear c7b0
    obtain ⟨kq, x19_2, rfl, HA, HJ2, BK125, HB⟩ := hcut
    cases kq with
    | zero => exact absurd HA.out (by simp [qdigest_New.j0])
    | succ kj2 =>
      have H := HA.out
      clear HA
      simp only [qdigest_New.j0] at H
      by_cases c8 : x19_2 = true
      · subst c8
        have H1 : (some (0, 0, 0, ([] : List (S63)), 2)) = some (r1, r2, r3, r4, r5) := by rw [if_pos rfl] at H; exact H
        clear H
        have H := H1
        clear H1
        simp only [Option.some.injEq, Prod.mk.injEq] at H
        obtain ⟨rfl, rfl, rfl, rfl, rfl⟩ := H
        have hcz9_0 : wc.cell? ⟨gb125, 0, none⟩ = some (.int .i64 0) := (blk_cell BK125.out 0).trans rfl
        have hcz9_1 : wc.cell? ⟨gb125, 1, none⟩ = some (.int .i64 0) := (blk_cell BK125.out 1).trans rfl
        have hcz9_2 : wc.cell? ⟨gb125, 2, none⟩ = some (.int .i64 0) := (blk_cell BK125.out 2).trans rfl
        have hcz9_3 : wc.cell? ⟨gb125, 3, none⟩ = some (.slice none 0 0) := (blk_cell BK125.out 3).trans rfl
        have hfz9_0 := blk_frozen BK125.out 0
        have hfz9_1 := blk_frozen BK125.out 1
        have hfz9_2 := blk_frozen BK125.out 2
        have hfz9_3 := blk_frozen BK125.out 3
        go_wp2
        refine bodyPost_ret (results_ct rfl _ _ gb125 24 #[.int .i64 0, .int .i64 0, .int .i64 0, .slice none 0 0] (0, 0) _ rfl (by (with_reducible repeat (first | refine blk_drewN ?_ _ | refine blk_drew ?_ | refine blk_alloc ?_ _)); refine blk_put (cs := #[.int .i64 0, .int .i64 0, .int .i64 0, .slice none 0 0]) ?_ 3 _ rfl; (with_reducible repeat (first | refine blk_drewN ?_ _ | refine blk_drew ?_ | refine blk_alloc ?_ _)); refine blk_put (cs := #[.int .i64 0, .int .i64 0, .int .i64 0, .slice none 0 0]) ?_ 2 _ rfl; (with_reducible repeat (first | refine blk_drewN ?_ _ | refine blk_drew ?_ | refine blk_alloc ?_ _)); refine blk_put (cs := #[.int .i64 0, .int .i64 0, .int .i64 0, .slice none 0 0]) ?_ 1 _ rfl; (with_reducible repeat (first | refine blk_drewN ?_ _ | refine blk_drew ?_ | refine blk_alloc ?_ _)); refine blk_put (cs := #[.int .i64 0, .int .i64 0, .int .i64 0, .slice none 0 0]) ?_ 0 _ rfl; (with_reducible repeat (first | refine blk_drewN ?_ _ | refine blk_drew ?_ | refine blk_alloc ?_ _)); exact BK125.out) Try.underlying24 rfl (by kernel_rfl)) rfl ?_
        exact ⟨_, by first | rfl | (simp [errW_none, errW_some] <;> rfl) | (simp [*, errW_none, errW_some] <;> rfl), by first | exact Kd.R_nil _ _ _ _ _ | exact Kd.N_nil _ _ _ _ _ | exact Kd.V_nil _ _ _ _ _ | exact Kd.Q_nil _ _ _ _ _ | exact Kd.S_nil _ _ _ _ _, by repeat (first | (with_reducible first | exact HB.out | apply below_alloc | apply pw_below_drewN | apply below_drew1 | refine below_set ?_ GE125.out) | exact HB.out)⟩
      · replace c8 := Bool.eq_false_iff.mpr c8
        subst c8
        have H1 : (some (a0, a1, 0, ([] : List (S63)), 0)) = some (r1, r2, r3, r4, r5) := by rw [if_neg (show ¬ (false = true) by decide)] at H; exact H
        clear H
        have H := H1
        clear H1
        simp only [Option.some.injEq, Prod.mk.injEq] at H
        obtain ⟨rfl, rfl, rfl, rfl, rfl⟩ := H
        have hcz10_0 : wc.cell? ⟨gb125, 0, none⟩ = some (.int .i64 0) := (blk_cell BK125.out 0).trans rfl
        have hcz10_1 : wc.cell? ⟨gb125, 1, none⟩ = some (.int .i64 0) := (blk_cell BK125.out 1).trans rfl
        have hcz10_2 : wc.cell? ⟨gb125, 2, none⟩ = some (.int .i64 0) := (blk_cell BK125.out 2).trans rfl
        have hcz10_3 : wc.cell? ⟨gb125, 3, none⟩ = some (.slice none 0 0) := (blk_cell BK125.out 3).trans rfl
        have hfz10_0 := blk_frozen BK125.out 0
        have hfz10_1 := blk_frozen BK125.out 1
        have hfz10_2 := blk_frozen BK125.out 2
        have hfz10_3 := blk_frozen BK125.out 3
        go_wp2
        refine bodyPost_ret (results_ct rfl _ _ gb125 24 #[.int .i64 a0, .int .i64 a1, .int .i64 0, .slice none 0 0] (0, 0) _ rfl (by (with_reducible repeat (first | refine blk_drewN ?_ _ | refine blk_drew ?_ | refine blk_alloc ?_ _)); refine blk_put (cs := #[.int .i64 a0, .int .i64 a1, .int .i64 0, .slice none 0 0]) ?_ 3 _ rfl; (with_reducible repeat (first | refine blk_drewN ?_ _ | refine blk_drew ?_ | refine blk_alloc ?_ _)); refine blk_put (cs := #[.int .i64 a0, .int .i64 a1, .int .i64 0, .slice none 0 0]) ?_ 2 _ rfl; (with_reducible repeat (first | refine blk_drewN ?_ _ | refine blk_drew ?_ | refine blk_alloc ?_ _)); refine blk_put (cs := #[.int .i64 a0, .int .i64 0, .int .i64 0, .slice none 0 0]) ?_ 1 _ rfl; (with_reducible repeat (first | refine blk_drewN ?_ _ | refine blk_drew ?_ | refine blk_alloc ?_ _)); refine blk_put (cs := #[.int .i64 0, .int .i64 0, .int .i64 0, .slice none 0 0]) ?_ 0 _ rfl; (with_reducible repeat (first | refine blk_drewN ?_ _ | refine blk_drew ?_ | refine blk_alloc ?_ _)); exact BK125.out) Try.underlying24 rfl (by kernel_rfl)) rfl ?_
        exact ⟨_, by first | rfl | (simp [errW_none, errW_some] <;> rfl) | (simp [*, errW_none, errW_some] <;> rfl), by first | exact Kd.R_nil _ _ _ _ _ | exact Kd.N_nil _ _ _ _ _ | exact Kd.V_nil _ _ _ _ _ | exact Kd.Q_nil _ _ _ _ _ | exact Kd.S_nil _ _ _ _ _, by repeat (first | (with_reducible first | exact HB.out | apply below_alloc | apply pw_below_drewN | apply below_drew1 | refine below_set ?_ GE125.out) | exact HB.out)⟩

end Go.Proofs.Ytcgimjoebkeifaa.PQ

/- slices.Insert at []api.DigestNode, one node, in a row that has room for it. -/
namespace Go.Proofs.Ytcgimjoebkeifaa.QAdd
set_option linter.unusedSimpArgs false
set_option linter.unusedVariables false
open Go.RowKit Go.Proofs.YtcgimjoebkeifaaW.PrintWords Go.Proofs.Ytcgimjoebkeifaa.PQ
set_option maxHeartbeats 1000000
/-- copy at elements of k cells. -/
theorem run_copy_k {P : Program} (w : World) (dT sT ty elem : TypeId) (k g o dLen dCap : Nat) (a : Addr) (sLen sCap : Nat) (cur : Array Value) (t : TypeId) (cs : List Value)
    (hu : P.underlying dT = some (.slice elem)) (hs : (P.info? elem).map (·.size) = some k)
    (hg : w.heap[g]? = some (.cells cur t (0, 0))) (hn : cs.length = Nat.min sLen dLen * k)
    (hsrc : ∀ j v, cs[j]? = some v → w.cell? (a.add j) = some v) (hfit : o + cs.length ≤ cur.size) (h1 : ∀ v ∈ cs, v.oneCell' = true) :
    (Builtin.copy_ #[dT, sT] ty #[.slice (some ⟨g, o, none⟩) dLen dCap, .slice (some a) sLen sCap]).run P w =
      .ok (goInt (Nat.min sLen dLen : Nat)) (w.setRow g (cur.toList.take o ++ cs ++ cur.toList.drop (o + cs.length)).toArray) := by
  have hl := run_loadCells_list (P := P) w a cs hsrc
  have hst := run_storeCells_at P g o t cs 0 cur w hg (by simpa using hfit) h1
  cases hq : P.info? elem with
  | none => simp [hq] at hs
  | some i =>
    have hi : i.size = k := by simpa [hq] using hs
    simp [Builtin.copy_, run_underlying hu, Builtin.lenOf, Builtin.firstCells, sizeOf, typeInfo, hq, hi, ← hn, hl, hst]
theorem wpList_copy_run {P : Program} (w : World) {ops : Array Oper} {rest : List Oper} {o : Oper} {a : Act} {Q : Exit → Act → World → Prop} (hgd : o.guard = none) (d s : Operand) (t t' : TypeId)
    (ho : o.op = .call { callee := .builtin .copy, args := #[d, s], argTypes := #[t, t'] }) (v u : Value) (hd : a.eval d = v) (hs : a.eval s = u) {v' : Value} {w' : World}
    (hr : (Builtin.copy_ #[t, t'] o.type #[v, u]).run P w = .ok v' w') (h : wpList P ops Q rest (a.put o.dst v') w') : wpList P ops Q (o :: rest) a w :=
  wpList_plain hgd fun _ hK => by
    unfold Oper.wp execOp
    simp only [ho, resolve, invoke, builtin, Sem.run_bind, Sem.run_pure, Result.andThen_ok, List.map_toArray, List.map_cons, List.map_nil, hd, hs, hr]
    exact hK _ _ h
theorem step_copy_run {P : Program} {ops : Array Oper} {o : Oper} {a : Act} {w : World} {K : Act → World → Prop} {Q : Exit → Act → World → Prop} {E : Prop}
    (hg : o.guard = none) (d x : Operand) (dT sT : TypeId) (hop : o.op = Op.call { callee := Callee.builtin Builtin.copy, args := #[d, x], argTypes := #[dT, sT] })
    (v u : Value) (hd : a.eval d = v) (hx : a.eval x = u) {v' : Value} {w' : World} (hr : (Builtin.copy_ #[dT, sT] o.type #[v, u]).run P w = .ok v' w') (hK : K (a.put o.dst v') w') :
    if Region.wanted o (yielded ops a.tmps) = true then Oper.wp P o a w K Q else E := by
  have hw : Region.wanted o (yielded ops a.tmps) = true := by simp [Region.wanted, hg]
  rw [if_pos hw]
  unfold Oper.wp
  simp [execOp, hop, resolve, invoke, builtin, hd, hx, hr, Result.andThen]
  exact hK
theorem size63 : (Try.prog.info? 63).map (·.size) = some 2 := by kernel_rfl
/-- The row behind Insert. -/
def insRow (xs : List Value) (i : Nat) (x y : Value) : List Value := xs.take (2 * i) ++ ([x, y] ++ xs.drop (2 * i))
theorem ins_mid (cur xs : List Value) (n i : Nat) (x y : Value) (hi : i < n) (hl : cur.length = (n + 1) * 2) (ht : cur.take (n * 2) = xs) :
    let c2 := cur.take ((i + 1) * 2) ++ xs.drop (2 * i) ++ cur.drop ((i + 1) * 2 + (xs.drop (2 * i)).length)
    c2.take (i * 2) ++ x :: y :: c2.drop (i * 2 + 2) = insRow xs i x y := by
  intro c2
  have hxl : xs.length = n * 2 := by rw [← ht, List.length_take]; omega
  have hdl : (xs.drop (2 * i)).length = (n - i) * 2 := by rw [List.length_drop, hxl]; omega
  have h1 : (cur.take ((i + 1) * 2)).length = i * 2 + 2 := by rw [List.length_take]; omega
  have e0 : cur.drop ((i + 1) * 2 + (xs.drop (2 * i)).length) = [] := List.drop_eq_nil_of_le (by rw [hdl]; omega)
  have e1 : c2 = cur.take ((i + 1) * 2) ++ xs.drop (2 * i) := by
    show cur.take ((i + 1) * 2) ++ xs.drop (2 * i) ++ cur.drop ((i + 1) * 2 + (xs.drop (2 * i)).length) = _
    rw [e0, List.append_nil]
  have e2 : c2.take (i * 2) = xs.take (2 * i) := by
    rw [e1, List.take_append_of_le_length (by omega), List.take_take, ← ht, List.take_take]
    congr 1; omega
  have e3 : c2.drop (i * 2 + 2) = xs.drop (2 * i) := by
    rw [e1, ← h1, List.drop_left]
  rw [e2, e3]
  rfl
theorem ins_end (xs : List Value) (n : Nat) (x y : Value) (h : xs.length = n * 2) : xs ++ [x, y] = insRow xs n x y := by
  unfold insRow
  rw [List.take_of_length_le (by omega), List.drop_eq_nil_of_le (by omega), List.append_nil]
set_option maxRecDepth 100000 in
theorem insert_calls (w : World) (B g n i vb : Nat) (xs : List Value) (x y : Value) (hown : w.ownsRow B 63 2 (.slice (some ⟨g, 0, none⟩) n (n + 1)) n xs) (hi : i ≤ n) (hn : n ≤ 1000000)
    (hv : w.heap[vb]? = some (.cells #[x, y] 63 (0, 0))) (hvb : vb ≠ g) (hx : x.oneCell' = true) (hy : y.oneCell' = true) (h1 : ∀ v ∈ xs, v.oneCell' = true) :
    Calls Try.prog 65 #[.slice (some ⟨g, 0, none⟩) n (n + 1), .int .i64 i, .slice (some ⟨vb, 0, none⟩) 1 1] w fun e w' =>
      e = .returned (.slice (some ⟨g, 0, none⟩) (n + 1) (n + 1)) ∧ w'.ownsRow B 63 2 (.slice (some ⟨g, 0, none⟩) (n + 1) (n + 1)) (n + 1) (insRow xs i x y) ∧ w.grownBy w' (some g) := by
  have hxl := hown.1
  have hvc : ∀ j u, [x, y][j]? = some u → w.cell? ((⟨vb, 0, none⟩ : Addr).add j) = some u := fun j u hj => by
    match j, hj with
    | 0, hj => simp at hj; subst hj; simp [Addr.add, World.cell?, hv]
    | 1, hj => simp at hj; subst hj; simp [Addr.add, World.cell?, hv]
  by_cases hin : i = n
  · subst hin
    obtain ⟨i0, hi, hz0, hz1, hz2⟩ := info_parts Ord.info63
    have HO := Lib.hid hown
    have HVC := Lib.hid hvc
    have HXL := Lib.hid hxl
    clear hown hvc hv hxl
    go_enter Try.func65, Try.ntmps65
    go_wp2_with (at_builtin; refine wpList_append_own_spare _ rfl _ _ 22 rfl B 63 i0 2 Try.underlying22 hi hz1 g i (i + 1) xs rfl HO.out ⟨vb, 0, none⟩ 1 1 [x, y] rfl rfl HVC.out (fun u hu => by simp at hu; rcases hu with rfl | rfl <;> assumption) (Nat.le_refl _) ?_; intro w1 hown1 hgrow1)
    go_ret
    refine ⟨rfl, ?_, hgrow1⟩
    rw [← ins_end xs i x y HXL.out]
    exact hown1
  · have hilt : i < n := by omega
    rcases hown.2 with ⟨h0, _⟩ | ⟨g', cap', cur, hvv, hbg, hg, hnc, hcm, hcs, htake⟩
    · cases h0
    cases hvv
    have hk := hcm
    have hov : ∀ lb cb, (callFunc 93 #[.slice (some ⟨vb, 0, none⟩) 1 1, .slice (some ⟨g, (i + 1) * 2, none⟩) lb cb]).run Try.prog w = .ok (.value (.bool false)) w := fun lb cb => by
      rw [run_callFunc_extern Try.func93 (by kernel_rfl) (by kernel_rfl) (by kernel_rfl) (e := Extern.SlicesOverlaps.overlaps #[22, 22] #[4]) (by kernel_rfl),
        Lib.run_overlaps_apart w 22 4 63 Try.underlying22 2 Try.sizeOf63 ⟨vb, 0, none⟩ ⟨g, (i + 1) * 2, none⟩ 1 1 lb cb hvb 63 63 2 cur.size (by simp [World.shape?, hv]) (by simp [World.shape?, hg]) (by omega) (by simp [World.frozen?, hv]) (by simp [World.frozen?, hv])]
      rfl
    have hdl : (xs.drop (2 * i)).length = (n - i) * 2 := by rw [List.length_drop, hxl]; omega
    have hcur : ∀ j u, xs[j]? = some u → cur[j]? = some u := fun j u hj => by
      have hj' : j < n * 2 := by rw [← hxl]; exact (List.getElem?_eq_some_iff.1 hj).1
      have e1 : (cur.toList.take (n * 2))[j]? = xs[j]? := by rw [htake]
      rw [List.getElem?_take, if_pos hj', Array.getElem?_toList, hj] at e1
      exact e1
    have hcp1 : ∀ (W : World), W.heap[g]? = some (.cells cur 63 (0, 0)) → ∀ ty dc sc, (Builtin.copy_ #[22, 22] ty #[.slice (some ⟨g, (i + 1) * 2, none⟩) (n - i) dc, .slice (some ⟨g, i * 2, none⟩) (n + 1 - i) sc]).run Try.prog W = .ok (goInt (Nat.min (n + 1 - i) (n - i) : Nat)) (W.setRow g (cur.toList.take ((i + 1) * 2) ++ xs.drop (2 * i) ++ cur.toList.drop ((i + 1) * 2 + (xs.drop (2 * i)).length)).toArray) := fun W hW ty dc sc =>
      run_copy_k W 22 22 ty 63 2 g ((i + 1) * 2) (n - i) dc ⟨g, i * 2, none⟩ (n + 1 - i) sc cur 63 (xs.drop (2 * i)) Try.underlying22 size63 hW (by rw [hdl]; simp only [Nat.min_def]; split <;> omega)
        (fun j v hj => by
          rw [List.getElem?_drop] at hj
          have := hcur _ _ hj
          rw [Addr.add_lit]
          simp [World.cell?, hW, Nat.mul_comm i 2, this])
        (by rw [hdl, hcs]; omega) (fun v hv => h1 v (List.mem_of_mem_drop hv))
    have hi1 : (i : Int) ≤ n := by omega
    have hi2 : ¬ ((i : Int) = n) := by omega
    have hi3 : (i : Int) + 1 ≤ n + 1 := by omega
    have hi4 : (i : Int) ≤ n + 1 := by omega
    clear hown
    go_enter Try.func65, Try.ntmps65
    go_wp2_with (simp only [hov])
    obtain ⟨cur2, hc2⟩ : ∃ c2, c2 = (cur.toList.take ((i + 1) * 2) ++ xs.drop (2 * i) ++ cur.toList.drop ((i + 1) * 2 + (xs.drop (2 * i)).length)).toArray := ⟨_, rfl⟩
    rw [← hc2] at hcp1
    have hs2 : cur2.size = (n + 1) * 2 := by
      rw [hc2, hdl]; simp [hcs, hdl, hxl]; omega
    have hcp2 : ∀ (W : World), W.heap[g]? = some (.cells cur2 63 (0, 0)) → W.heap[vb]? = some (.cells #[x, y] 63 (0, 0)) → ∀ ty dc, (Builtin.copy_ #[22, 22] ty #[.slice (some ⟨g, i * 2, none⟩) (n + 1 - i) dc, .slice (some ⟨vb, 0, none⟩) 1 1]).run Try.prog W = .ok (goInt (Nat.min 1 (n + 1 - i) : Nat)) (W.setRow g (cur2.toList.take (i * 2) ++ [x, y] ++ cur2.toList.drop (i * 2 + 2)).toArray) := fun W hW hV ty dc =>
      run_copy_k W 22 22 ty 63 2 g (i * 2) (n + 1 - i) dc ⟨vb, 0, none⟩ 1 1 cur2 63 [x, y] Try.underlying22 size63 hW (by simp only [Nat.min_def, List.length_cons, List.length_nil]; split <;> omega)
        (fun j u hj => by
          match j, hj with
          | 0, hj => simp at hj; subst hj; simp [Addr.add, World.cell?, hV]
          | 1, hj => simp at hj; subst hj; simp [Addr.add, World.cell?, hV])
        (by simp only [List.length_cons, List.length_nil]; omega) (fun u hu => by simp at hu; rcases hu with rfl | rfl <;> assumption)
    have HG := Lib.hid hg
    have HV := Lib.hid hv
    have hmid := ins_mid cur.toList xs n i x y hilt (by simpa using hcs) htake
    rw [show cur.toList.take ((i + 1) * 2) ++ xs.drop (2 * i) ++ cur.toList.drop ((i + 1) * 2 + (xs.drop (2 * i)).length) = cur2.toList from by rw [hc2]] at hmid
    have HMID := Lib.hid hmid
    clear hcur hc2 htake hcs hvc h1 hdl hg hv hmid
    have mixed : Try.prog.follows Departure.mixedOrders = true := by kernel_rfl
    have hw1 : IntKind.i64.wrap ((i : Int) + 1) = (i : Int) + 1 := by rw [IntKind.wrap_i64]; omega
    have hb1 : (0 : Int) ≤ (i : Int) + 1 := by omega
    have htn : ((i : Int) + 1).toNat = i + 1 := by omega
    have hb2 : ¬ (n = i) := by omega
    have hb5 : ¬ (n + 1 = i) := by omega
    have hC1 := hcp1 w.drew HG.out 3 (n - i) (n + 1 - i)
    go_region_law_o (refine step_copy_run rfl (.tmp 73) (.tmp 76) 22 22 rfl (.slice (some ⟨g, (i + 1) * 2, none⟩) (n - i) (n - i)) (.slice (some ⟨g, i * 2, none⟩) (n + 1 - i) (n + 1 - i)) (by simp [Act.eval, Act.put]) (by simp [Act.eval, Act.put]) hC1 ?_)
    have hW1g : (w.drew.setRow g cur2).heap[g]? = some (.cells cur2 63 (0, 0)) := setRow_heap w.drew g cur cur2 63 _ HG.out
    have hW1v : (w.drew.setRow g cur2).heap[vb]? = some (.cells #[x, y] 63 (0, 0)) := (setRow_other w.drew g vb cur2 hvb).trans HV.out
    have hC2 := hcp2 _ hW1g hW1v 3 (n + 1 - i)
    clear hcp1 hcp2 hC1
    go_wp2_with (at_builtin; refine wpList_copy_run _ rfl _ _ 22 22 rfl (.slice (some ⟨g, i * 2, none⟩) (n + 1 - i) (n + 1 - i)) (.slice (some ⟨vb, 0, none⟩) 1 1) rfl rfl hC2 ?_)
    go_ret
    have hil : (insRow xs i x y).length = (n + 1) * 2 := by unfold insRow; simp; omega
    refine ⟨rfl, ⟨hil, .inr ⟨g, n + 1, _, rfl, hbg, setRow_heap _ g _ _ 63 _ hW1g, Nat.le_refl _, hcm, ?_, ?_⟩⟩, ⟨rfl, rfl, rfl, by simp [World.setRow], fun k _ hk => ?_⟩⟩
    · simp; omega
    · have hm : cur2.toList.take (i * 2) ++ x :: y :: cur2.toList.drop (i * 2 + 2) = insRow xs i x y := HMID.out
      rw [hm, List.take_of_length_le (by simp [hil])]
    · have hkg : k ≠ g := fun e => hk (by rw [e])
      rw [setRow_other _ g k _ hkg, setRow_other _ g k _ hkg]
      rfl
end Go.Proofs.Ytcgimjoebkeifaa.QAdd

/- qdigest.Add where it refuses: the call answers the zero digest and the error. -/
namespace Go.Proofs.Ytcgimjoebkeifaa.QAdd
set_option linter.unusedSimpArgs false
set_option linter.unusedVariables false
open Go.RowKit Go.Proofs.YtcgimjoebkeifaaW.PrintWords Go.Proofs.Ytcgimjoebkeifaa.PQ Go.Proofs.Ytcgimjoebkeifaa.QComp Go.Proofs.Ytcgimjoebkeifaa.QHeap
set_option maxHeartbeats 4000000
/-- Where the walk of Add is shown. -/
def AddOk (bits count : Int) (xs : List S63) : Prop := (1 ≤ bits ∧ bits ≤ 30) ∧ (0 ≤ count ∧ count ≤ 1099511627776) ∧ Asc xs ∧ (∀ x ∈ xs, (0 ≤ x.f0 ∧ x.f0 ≤ 1099511627776) ∧ 0 ≤ x.f1 ∧ x.f1 ≤ 1099511627776) ∧ xs.length ≤ 1000000
instance (a b : Int) (xs : List S63) : Decidable (AddOk a b xs) := by unfold AddOk Asc; exact inferInstance
/-- The nodes behind Add. -/
def addNodes (xs : List S63) (id n : Int) : List S63 :=
  if found xs id = true then xs.set (pos xs id) ⟨(rd_T63 xs (pos xs id)).f0, (rd_T63 xs (pos xs id)).f1 + n⟩ else xs.take (pos xs id) ++ ⟨id, n⟩ :: xs.drop (pos xs id)
def addF (bits K count : Int) (xs : List S63) (value n : Int) : Option (Int × Int × Int × List S63 × Int) :=
  if AddOk bits count xs then
    (if value < 0 ∨ 2 ^ bits.toNat ≤ value ∨ n < 1 then some (0, 0, 0, [], 2)
     else if 1099511627776 - count < n then some (0, 0, 0, [], 4)
     else if found xs (2 ^ bits.toNat + value) = false ∧ 2000 ≤ xs.length then some (0, 0, 0, [], 4)
     else some (bits, K, count + n, addNodes xs (2 ^ bits.toNat + value) n, 0))
  else none
set_option maxRecDepth 100000 in
theorem add_no (k : Nat) (a0 a1 a2 value n : Int) (A : Option Addr) (c : Nat) (xs : List S63) (t : Int) (w : World) (hr : Kd.C k63 w A xs.length xs) (hc : xs.length ≤ c) (h : qdigest_Check.f k a0 a1 a2 xs = some t) (ht : ¬ t = 0) :
    Calls Try.prog 39 #[.agg #[.int .i64 a0, .int .i64 a1, .int .i64 a2, .slice A xs.length c], .int .i64 value, .int .i64 n] w (CPost 0 0 0 [] 1 w) := by
  have ht1 : (t != 0) = true := by simpa using ht
  have hch := qdigest_Check.calls k a0 a1 a2 A c xs t (W2 w #[.int .i64 a0, .int .i64 a1, .int .i64 a2, .slice A xs.length c]) (Kd.C_below hr (W2_below _ _)) hc h
  clear hr
  go_enter Try.func39, Try.ntmps39
  go_wp2_with fail
  refine hch.mono ?_
  rintro e w1 ⟨rfl, hB⟩
  obtain ⟨_, b1, hbb⟩ := W2_blocks hB
  have c0 := blk_cell b1 0
  have c1 := blk_cell b1 1
  have c2 := blk_cell b1 2
  have c3 := blk_cell b1 3
  have f0 := blk_frozen b1 0
  have f1 := blk_frozen b1 1
  have f2 := blk_frozen b1 2
  have f3 := blk_frozen b1 3
  have B1 := Lib.hid b1
  clear b1
  simp at c0 c1 c2 c3
  go_wp2_with fail
  refine bodyPost_ret (results_ct rfl _ _ (w.heap.size + 1) 24 #[.int .i64 0, .int .i64 0, .int .i64 0, .slice none 0 0] (0, 0) _ rfl (blk_put (cs := #[.int .i64 0, .int .i64 0, .int .i64 0, .slice none 0 0]) (blk_put (cs := #[.int .i64 0, .int .i64 0, .int .i64 0, .slice none 0 0]) (blk_put (cs := #[.int .i64 0, .int .i64 0, .int .i64 0, .slice none 0 0]) (blk_put (cs := #[.int .i64 0, .int .i64 0, .int .i64 0, .slice none 0 0]) B1.out 0 _ rfl) 1 _ rfl) 2 _ rfl) 3 _ rfl) Try.underlying24 rfl (by kernel_rfl)) rfl ?_
  refine ⟨_, rfl, Kd.R_nil _ _ _ _ _, ?_⟩
  exact (((hbb.setCell (by simp) _).setCell (by simp) _).setCell (by simp) _).setCell (by simp) _
set_option maxRecDepth 100000 in
theorem add_refused (k : Nat) (a0 a1 a2 value n r : Int) (A : Option Addr) (c : Nat) (xs : List S63) (w : World) (hr : Kd.C k63 w A xs.length xs) (hc : xs.length ≤ c) (h : qdigest_Check.f k a0 a1 a2 xs = some 0)
    (hb : 1 ≤ a0 ∧ a0 ≤ 30) (hcn : 0 ≤ a2 ∧ a2 ≤ 1099511627776) (hq : ((value < 0 ∨ 2 ^ a0.toNat ≤ value ∨ n < 1) ∧ r = 2) ∨ (¬ (value < 0 ∨ 2 ^ a0.toNat ≤ value ∨ n < 1) ∧ 1099511627776 - a2 < n ∧ r = 4)) :
    Calls Try.prog 39 #[.agg #[.int .i64 a0, .int .i64 a1, .int .i64 a2, .slice A xs.length c], .int .i64 value, .int .i64 n] w (CPost 0 0 0 [] r w) := by
  have hch := qdigest_Check.calls k a0 a1 a2 A c xs 0 (W2 w #[.int .i64 a0, .int .i64 a1, .int .i64 a2, .slice A xs.length c]) (Kd.C_below hr (W2_below _ _)) hc h
  have hpw := pow_le_41 a0.toNat (by omega)
  clear hr
  obtain ⟨hb1, hb2⟩ := hb
  obtain ⟨hc1, hc2⟩ := hcn
  go_enter Try.func39, Try.ntmps39
  go_wp2_with fail
  refine hch.mono ?_
  rintro e w1 ⟨rfl, hB⟩
  obtain ⟨b0, b1, hbb⟩ := W2_blocks hB
  have c0 := blk_cell b1 0
  have c1 := blk_cell b1 1
  have c2 := blk_cell b1 2
  have c3 := blk_cell b1 3
  have f0 := blk_frozen b1 0
  have f1 := blk_frozen b1 1
  have f2 := blk_frozen b1 2
  have f3 := blk_frozen b1 3
  have x0 := blk_cell b0 0
  have x2 := blk_cell b0 2
  have B1 := Lib.hid b1
  clear b1 b0
  simp at c0 c1 c2 c3 x0 x2
  have fin : ∀ (r : Int) (W : World), W = ((((w1.setCell ⟨w.heap.size + 1, 0, none⟩ (.int .i64 0)).setCell ⟨w.heap.size + 1, 1, none⟩ (.int .i64 0)).setCell ⟨w.heap.size + 1, 2, none⟩ (.int .i64 0)).setCell ⟨w.heap.size + 1, 3, none⟩ (.slice none 0 0)) →
      W.heap[w.heap.size + 1]? = some (.cells #[.int .i64 0, .int .i64 0, .int .i64 0, .slice none 0 0] 24 (0, 0)) ∧ Below w.heap.size w W := fun r W hW => by
    subst hW
    exact ⟨blk_put (cs := #[.int .i64 0, .int .i64 0, .int .i64 0, .slice none 0 0]) (blk_put (cs := #[.int .i64 0, .int .i64 0, .int .i64 0, .slice none 0 0]) (blk_put (cs := #[.int .i64 0, .int .i64 0, .int .i64 0, .slice none 0 0]) (blk_put (cs := #[.int .i64 0, .int .i64 0, .int .i64 0, .slice none 0 0]) B1.out 0 _ rfl) 1 _ rfl) 2 _ rfl) 3 _ rfl,
      (((hbb.setCell (by simp) _).setCell (by simp) _).setCell (by simp) _).setCell (by simp) _⟩
  clear hch
  rcases hq with ⟨hq, rfl⟩ | ⟨hq, hlim, rfl⟩
  · by_cases h1 : value < 0
    · go_wp2_with fail
      obtain ⟨g1, g2⟩ := fin 2 _ rfl
      exact bodyPost_ret (results_ct rfl _ _ (w.heap.size + 1) 24 #[.int .i64 0, .int .i64 0, .int .i64 0, .slice none 0 0] (0, 0) _ rfl g1 Try.underlying24 rfl (by kernel_rfl)) rfl ⟨_, rfl, Kd.R_nil _ _ _ _ _, g2⟩
    · by_cases h2 : 2 ^ a0.toNat ≤ value
      · go_wp2_with fail
        obtain ⟨g1, g2⟩ := fin 2 _ rfl
        exact bodyPost_ret (results_ct rfl _ _ (w.heap.size + 1) 24 #[.int .i64 0, .int .i64 0, .int .i64 0, .slice none 0 0] (0, 0) _ rfl g1 Try.underlying24 rfl (by kernel_rfl)) rfl ⟨_, rfl, Kd.R_nil _ _ _ _ _, g2⟩
      · have h3 : n < 1 := by
          rcases hq with h | h | h
          · exact absurd h h1
          · exact absurd h h2
          · exact h
        go_wp2_with fail
        obtain ⟨g1, g2⟩ := fin 2 _ rfl
        exact bodyPost_ret (results_ct rfl _ _ (w.heap.size + 1) 24 #[.int .i64 0, .int .i64 0, .int .i64 0, .slice none 0 0] (0, 0) _ rfl g1 Try.underlying24 rfl (by kernel_rfl)) rfl ⟨_, rfl, Kd.R_nil _ _ _ _ _, g2⟩
  · have h1 : ¬ value < 0 := fun h => hq (.inl h)
    have h2 : ¬ 2 ^ a0.toNat ≤ value := fun h => hq (.inr (.inl h))
    have h3 : ¬ n < 1 := fun h => hq (.inr (.inr h))
    clear hq
    go_wp2_with fail
    obtain ⟨g1, g2⟩ := fin 2 _ rfl
    exact bodyPost_ret (results_ct rfl _ _ (w.heap.size + 1) 24 #[.int .i64 0, .int .i64 0, .int .i64 0, .slice none 0 0] (0, 0) _ rfl g1 Try.underlying24 rfl (by kernel_rfl)) rfl ⟨_, rfl, Kd.R_nil _ _ _ _ _, g2⟩
end Go.Proofs.Ytcgimjoebkeifaa.QAdd

/- qdigest.Add: the rows. -/
namespace Go.Proofs.Ytcgimjoebkeifaa.QAdd
set_option linter.unusedSimpArgs false
set_option linter.unusedVariables false
open Go.RowKit Go.Proofs.YtcgimjoebkeifaaW.PrintWords Go.Proofs.Ytcgimjoebkeifaa.PQ Go.Proofs.Ytcgimjoebkeifaa.QComp Go.Proofs.Ytcgimjoebkeifaa.QHeap Go.Proofs.QComp
set_option maxHeartbeats 1000000
instance : Inhabited S63 := ⟨z63⟩
def enc63 (x : S63) : List Value := [.int .i64 x.f0, .int .i64 x.f1]
theorem flat_pair (xs : List S63) : (xs.map pair).flatMap enc2 = xs.flatMap enc63 := by rw [List.flatMap_map]; rfl
theorem unpair_pair (xs : List S63) : (xs.map pair).map unpair = xs := by
  rw [List.map_map]
  conv => rhs; rw [← List.map_id xs]
  rfl
theorem flat_len (xs : List S63) : (xs.flatMap enc63).length = xs.length * 2 := Ord.flatMap_len enc63 2 (fun _ => rfl) xs
theorem flat_one (xs : List S63) : ∀ v ∈ xs.flatMap enc63, v.oneCell' = true := fun v hv => by
  obtain ⟨x, _, hx⟩ := List.mem_flatMap.1 hv
  simp [enc63] at hx
  rcases hx with rfl | rfl <;> rfl
theorem flat_take : ∀ (xs : List S63) (i : Nat), (xs.flatMap enc63).take (2 * i) = (xs.take i).flatMap enc63
  | [], i => by simp
  | x :: xs, 0 => by simp
  | x :: xs, i + 1 => by
    have := flat_take xs i
    rw [List.take_succ_cons, List.flatMap_cons, List.flatMap_cons, show 2 * (i + 1) = 2 + 2 * i from by omega]
    simp [enc63, ← this, Nat.add_comm 2]
theorem flat_drop : ∀ (xs : List S63) (i : Nat), (xs.flatMap enc63).drop (2 * i) = (xs.drop i).flatMap enc63
  | [], i => by simp
  | x :: xs, 0 => by simp
  | x :: xs, i + 1 => by
    have := flat_drop xs i
    rw [List.drop_succ_cons, List.flatMap_cons, show 2 * (i + 1) = 2 + 2 * i from by omega]
    simp [enc63, ← this, Nat.add_comm 2]
theorem flat_ins (xs : List S63) (i : Nat) (id n : Int) : insRow (xs.flatMap enc63) i (.int .i64 id) (.int .i64 n) = (xs.take i ++ ⟨id, n⟩ :: xs.drop i).flatMap enc63 := by
  unfold insRow
  rw [flat_take, flat_drop, List.flatMap_append, List.flatMap_cons]
  rfl
theorem flat_set : ∀ (xs : List S63) (i : Nat) (y : Int), i < xs.length → (xs.flatMap enc63).set (i * 2 + 1) (.int .i64 y) = (xs.set i ⟨(rd_T63 xs i).f0, y⟩).flatMap enc63
  | [], i, _, h => by simp at h
  | x :: xs, 0, y, _ => by simp [enc63, rd_T63]
  | x :: xs, i + 1, y, h => by
    have := flat_set xs i y (by simpa using h)
    have e1 : rd_T63 (x :: xs) ((i + 1 : Nat) : Int) = rd_T63 xs i := by simp [rd_T63]
    rw [e1, List.set_cons_succ, List.flatMap_cons, List.flatMap_cons, ← this, show (i + 1) * 2 + 1 = (i * 2 + 1) + 2 from by omega]
    simp [enc63]
theorem flat_get : ∀ (xs : List S63) (i : Nat), i < xs.length → (xs.flatMap enc63)[i * 2 + 1]? = some (.int .i64 (rd_T63 xs i).f1)
  | [], i, h => by simp at h
  | x :: xs, 0, _ => by simp [enc63, rd_T63]
  | x :: xs, i + 1, h => by
    have := flat_get xs i (by simpa using h)
    have e1 : rd_T63 (x :: xs) ((i + 1 : Nat) : Int) = rd_T63 xs i := by simp [rd_T63]
    rw [e1, List.flatMap_cons, show (i + 1) * 2 + 1 = (i * 2 + 1) + 2 from by omega, ← this]
    simp [enc63]
theorem own_R63 {w : World} {B : Nat} {v : Value} {xs : List S63} (h : w.ownsRow B 63 2 v xs.length (xs.flatMap enc63)) : Kd.R k63 63 w B (fun _ => True) v xs := by
  have := own_R (cs := xs.map pair) (by rw [flat_pair]; exact h) (by simp)
  rwa [unpair_pair] at this
/-- The cells of a row that is read, as what append takes. -/
theorem src_of {w : World} {A : Option Addr} {xs : List S63} (h : Kd.C k63 w A xs.length xs) (c : Nat) : Src Try.prog 2 22 (.slice A xs.length c) xs.length (xs.flatMap enc63) w := by
  by_cases h0 : xs = []
  · subst h0
    cases A with
    | none => exact Src.ofNil w Try.underlying22 c
    | some a => exact Src.ofSlice w Try.underlying22 a 0 c [] rfl (fun j u hj => by simp at hj) (fun u hu => by simp at hu)
  · have hp : 0 < xs.length := by cases xs with | nil => exact absurd rfl h0 | cons x xs => simp
    obtain ⟨ad, rfl, hc⟩ := h.2.2 hp
    refine Src.ofSlice w Try.underlying22 ad _ c _ (flat_len xs) (fun j u hj => ?_) (flat_one xs)
    have hj2 : j < xs.length * 2 := by rw [← flat_len]; exact (List.getElem?_eq_some_iff.1 hj).1
    have hi : j / 2 < xs.length := by omega
    obtain ⟨cs, _, hk, hcell⟩ := hc (j / 2) _ (List.getElem?_eq_getElem hi)
    obtain rfl := k63_open hk
    have e := hcell (j % 2) u (by
      rw [Ord.flatMap_get enc63 2 (fun _ => rfl) (by decide) xs j hj2] at hj
      rw [← hj]
      have hm : j % 2 < 2 := Nat.mod_lt _ (by decide)
      simp [enc63, hi, hm])
    have e' : w.cell? (ad.add (j / 2 * 2 + j % 2)) = some u := e
    rwa [show j / 2 * 2 + j % 2 = j from by omega] at e'
theorem own_fill {w : World} {B g n cap : Nat} {news : List Value} (hown : w.ownsRow B 63 2 (.slice (some ⟨g, 0, none⟩) 0 cap) 0 []) (hl : news.length = n * 2) (hroom : n ≤ cap) :
    (w.setCells g 0 news).ownsRow B 63 2 (.slice (some ⟨g, 0, none⟩) n cap) n news ∧ w.grownBy (w.setCells g 0 news) (some g) := by
  rcases hown.2 with ⟨h0, _⟩ | ⟨g', cap', cur, hvv, hbg, hg, hnc, hcm, hcs, htake⟩
  · cases h0
  · cases hvv
    have hfit : 0 + news.length ≤ cur.size := by rw [hl, hcs]; omega
    obtain ⟨cur', h3, h4, h5⟩ := setCells_row news 0 w cur hg hfit
    obtain ⟨s1, s2, s3, s4⟩ := setCells_same g news 0 w
    refine ⟨⟨hl, .inr ⟨g, cap, cur', rfl, hbg, h3, hroom, hcm, by rw [h4, hcs], ?_⟩⟩, ⟨s1, s2, s3, by rw [s4]; exact Nat.le_refl _, fun k _ hk => setCells_far news _ k (fun he => hk (by rw [he]))⟩⟩
    rw [h5, ← hl]
    simp
theorem own_cap {w : World} {B g n cap : Nat} {news : List Value} (hown : w.ownsRow B 63 2 (.slice (some ⟨g, 0, none⟩) n cap) n news) : ∀ j, j < cap * 2 → (w.cell? ⟨g, j, none⟩).isSome = true ∧ w.frozen? ⟨g, j, none⟩ = false := fun j hj => by
  rcases hown.2 with ⟨h0, _⟩ | ⟨g', cap', cur, hvv, hbg, hg, hnc, hcm, hcs, htake⟩
  · cases h0
  · cases hvv
    refine ⟨?_, by simp [World.frozen?, hg]⟩
    simp [World.cell?, hg]
    omega
end Go.Proofs.Ytcgimjoebkeifaa.QAdd

/- qdigest.Add: the walk. -/
namespace Go.Proofs.Ytcgimjoebkeifaa.QAdd
set_option linter.unusedSimpArgs false
set_option linter.unusedVariables false
open Go.RowKit Go.Proofs.YtcgimjoebkeifaaW.PrintWords Go.Proofs.Ytcgimjoebkeifaa.PQ Go.Proofs.Ytcgimjoebkeifaa.QComp Go.Proofs.Ytcgimjoebkeifaa.QHeap Go.Proofs.QComp
set_option maxHeartbeats 4000000
set_option maxRecDepth 100000 in
theorem add_yes (k : Nat) (a0 a1 a2 value n : Int) (A : Option Addr) (c : Nat) (xs : List S63) (w : World) (hr : Kd.C k63 w A xs.length xs) (hc : xs.length ≤ c) (h : qdigest_Check.f k a0 a1 a2 xs = some 0)
    (hok : AddOk a0 a2 xs) (hq : ¬ (value < 0 ∨ 2 ^ a0.toNat ≤ value ∨ n < 1)) (hlim : ¬ 1099511627776 - a2 < n) (r1 r2 r3 : Int) (r4 : List S63) (r5 : Int)
    (hres : (if found xs (2 ^ a0.toNat + value) = false ∧ 2000 ≤ xs.length then (0, 0, 0, [], 4) else (a0, a1, a2 + n, addNodes xs (2 ^ a0.toNat + value) n, 0) : Int × Int × Int × List S63 × Int) = (r1, r2, r3, r4, r5)) :
    Calls Try.prog 39 #[.agg #[.int .i64 a0, .int .i64 a1, .int .i64 a2, .slice A xs.length c], .int .i64 value, .int .i64 n] w
      (CPost r1 r2 r3 r4 r5 w) := by
  have hch := qdigest_Check.calls k a0 a1 a2 A c xs 0 (W2 w #[.int .i64 a0, .int .i64 a1, .int .i64 a2, .slice A xs.length c]) (Kd.C_below hr (W2_below _ _)) hc h
  obtain ⟨⟨hb1, hb2⟩, ⟨hc1, hc2⟩, hasc, hbd, hlen⟩ := hok
  have hpw := pow_le_41 a0.toNat (by omega)
  have hpw2 : (2 : Int) ^ a0.toNat ≤ 1073741824 := by
    have e1 : (2 : Nat) ^ a0.toNat ≤ 2 ^ 30 := Nat.pow_le_pow_right (by decide) (by omega)
    have e2 : ((2 ^ a0.toNat : Nat) : Int) ≤ ((2 ^ 30 : Nat) : Int) := Int.ofNat_le.2 e1
    simpa using e2
  have h1 : ¬ value < 0 := fun h => hq (.inl h)
  have h2 : ¬ 2 ^ a0.toNat ≤ value := fun h => hq (.inr (.inl h))
  have h3 : ¬ n < 1 := fun h => hq (.inr (.inr h))
  have hs := fun (W : World) (hW : Kd.C k63 W A xs.length xs) => search_calls W A c xs (2 ^ a0.toNat + value) hW hasc (fun x hx => (hbd x hx).1) hlen (by omega)
  have HR := Lib.hid hr
  have HBD := Lib.hid hbd
  have hpl := pos_le xs (2 ^ a0.toNat + value)
  clear hr hbd hq h
  generalize hid : (2 : Int) ^ a0.toNat + value = id at *
  have HID := Lib.hid hid
  generalize hln : xs.length = len at *
  have HLN := Lib.hid hln
  have HRES := Lib.hid hres
  clear hres
  have hmk := fun W => make22 (len + 1) (by omega) W
  have hidb : 0 ≤ id ∧ id ≤ 2147483648 := by omega
  clear hln
  go_enter Try.func39, Try.ntmps39
  go_wp2_with fail
  refine hch.mono ?_
  rintro e w1 ⟨rfl, hB⟩
  obtain ⟨b0, b1, hbb⟩ := W2_blocks hB
  have x0 := blk_cell b0 0
  have x1 := blk_cell b0 1
  have x2 := blk_cell b0 2
  have x3 := blk_cell b0 3
  simp at x0 x1 x2 x3
  have hz : w.heap.size + 1 < w1.heap.size := (Array.getElem?_eq_some_iff.1 b1).1
  have hs1 := hs w1 (Kd.C_below HR.out hbb)
  have B0 := Lib.hid b0
  have B1 := Lib.hid b1
  have HBB := Lib.hid hbb
  clear b0 b1 hbb hch hs hB
  go_wp2_with fail
  refine hs1.mono ?_
  rintro e w2 ⟨rfl, hB2⟩
  clear hs1
  have hz2 : w.heap.size + 1 < w2.heap.size := by have := hB2.size; omega
  have B0' := Lib.hid ((hB2.block _ (by omega)).trans B0.out)
  have B1' := Lib.hid ((hB2.block _ hz).trans B1.out)
  have HBB2 := Lib.hid (HBB.out.trans (hB2.mono (by omega)))
  have x0 := blk_cell B0'.out 0
  have x1 := blk_cell B0'.out 1
  have x2 := blk_cell B0'.out 2
  have x3 := blk_cell B0'.out 3
  simp at x0 x1 x2 x3
  clear hB2 B0 B1 HBB
  generalize hwa : w2.alloc (.cells (madeCells #[.int .i64 0, .int .i64 0] ((len + 1) * 2)) 63) = wa
  have hrow0 : wa.ownsRow w.heap.size 63 2 (.slice (some ⟨w2.heap.size, 0, none⟩) 0 (len + 1)) 0 [] := by
    rw [← hwa]
    exact World.ownsRow_made w2 (madeCells #[.int .i64 0, .int .i64 0] ((len + 1) * 2)) (len + 1) (by omega) (by unfold maxLen; omega) (by rw [size_madeCells])
  have A0 := Lib.hid (show wa.heap[w.heap.size]? = some (.cells #[.int .i64 a0, .int .i64 a1, .int .i64 a2, .slice A len c] 24 (0, 0)) by rw [← hwa]; exact blk_alloc B0'.out _)
  have A1 := Lib.hid (show wa.heap[w.heap.size + 1]? = some (.cells #[.int .i64 0, .int .i64 0, .int .i64 0, .slice none 0 0] 24 (0, 0)) by rw [← hwa]; exact blk_alloc B1'.out _)
  have ABEL := Lib.hid (show Below w.heap.size w wa by rw [← hwa]; exact HBB2.out.alloc (by omega) _)
  have hsa : wa.heap.size = w2.heap.size + 1 := by rw [← hwa]; simp
  have hmk2 := hmk w2
  rw [hwa] at hmk2
  have hcast : ((len + 1 : Nat) : Int) = (len : Int) + 1 := by omega
  rw [hcast] at hmk2
  have y0 := blk_cell A0.out 0
  have y1 := blk_cell A0.out 1
  have y2 := blk_cell A0.out 2
  have y3 := blk_cell A0.out 3
  simp at y0 y1 y2 y3
  obtain ⟨i0, hi, hz0, hz1, hz3⟩ := info_parts Ord.info63
  have hsrc0 := src_of (c := c) (xs := xs) (w := wa) (A := A) (by rw [HLN.out]; exact Kd.C_below HR.out ABEL.out)
  rw [HLN.out] at hsrc0
  have hfl := flat_len xs
  rw [HLN.out] at hfl
  have hcap := own_cap hrow0
  obtain ⟨w3, hw3⟩ : ∃ w3, w3 = wa.setCells w2.heap.size 0 (xs.flatMap enc63) := ⟨_, rfl⟩
  obtain ⟨hown, hgr⟩ := own_fill (n := len) (news := xs.flatMap enc63) hrow0 hfl (by omega)
  rw [← hw3] at hown hgr
  have hw3e : wa.setCells w2.heap.size (0 + 0 * i0.size) (xs.flatMap enc63) = w3 := by rw [hw3, Nat.zero_mul]
  generalize hg : w2.heap.size = g at *
  have C0 := Lib.hid ((hgr.block w.heap.size (by omega) (fun e => by have := Option.some.inj e; omega)).trans A0.out)
  have C1 := Lib.hid ((hgr.block (w.heap.size + 1) (by omega) (fun e => by have := Option.some.inj e; omega)).trans A1.out)
  have CBEL : Below w.heap.size w w3 := ABEL.out.trans ⟨hgr.os, hgr.tape, hgr.output, hgr.size, fun k hk => hgr.block k (by omega) (fun e => by have := Option.some.inj e; omega)⟩
  have x0 := blk_cell C0.out 0
  have x1 := blk_cell C0.out 1
  have x2 := blk_cell C0.out 2
  simp at x0 x1 x2
  have t0 := blk_cell C1.out 0
  have t1 := blk_cell C1.out 1
  have t2 := blk_cell C1.out 2
  have t3 := blk_cell C1.out 3
  have f0 := blk_frozen C1.out 0
  have f1 := blk_frozen C1.out 1
  have f2 := blk_frozen C1.out 2
  have f3 := blk_frozen C1.out 3
  simp at t0 t1 t2 t3
  have HSRC := Lib.hid hsrc0
  have HFL := Lib.hid hfl
  have HCAP := Lib.hid hcap
  have HZ1 := Lib.hid hz1
  have HGR := Lib.hid hgr
  have hs3 : g < w3.heap.size := by have := hgr.size; omega
  have HW3E := Lib.hid hw3e
  clear hmk hwa hcast hsrc0 hfl hrow0 hcap hz1 hgr hw3 hw3e
  cases hfd : found xs id with
  | true =>
    have hp : pos xs id < len := by
      unfold found at hfd
      have := (Bool.and_eq_true_iff.1 hfd).1
      rw [HLN.out] at this
      exact of_decide_eq_true this
    have hv : 0 ≤ (rd_T63 xs (pos xs id)).f1 ∧ (rd_T63 xs (pos xs id)).f1 ≤ 1099511627776 := by
      refine (HBD.out _ ?_).2
      have : pos xs id < xs.length := by rw [HLN.out]; exact hp
      simp [rd_T63, List.getD_eq_getElem?_getD, this]
    have hcl := hown.cellAt (pos xs id * 2 + 1) (by omega)
    rw [flat_get xs (pos xs id) (by rw [HLN.out]; exact hp)] at hcl
    have hfr := hown.frozenAt (pos xs id * 2 + 1)
    have hst := hown.stored (pos xs id * 2 + 1) (.int .i64 ((rd_T63 xs (pos xs id)).f1 + n))
    rw [flat_set xs (pos xs id) _ (by rw [HLN.out]; exact hp)] at hst
    have HADD : Hid (addNodes xs id n = xs.set (pos xs id) ⟨(rd_T63 xs (pos xs id)).f0, (rd_T63 xs (pos xs id)).f1 + n⟩) := Lib.hid (by unfold addNodes; rw [if_pos hfd])
    have HST := Lib.hid hst
    clear hst hown
    generalize (rd_T63 xs (pos xs id)).f1 = y at *
    generalize (rd_T63 xs (pos xs id)).f0 = y0 at *
    generalize pos xs id = p at *
    go_wp2_with (at_builtin; refine Go.wpList_append_room_src _ rfl _ _ 22 22 rfl 63 i0 Try.underlying22 hi g 0 0 (len + 1) rfl _ rfl len (xs.flatMap enc63) (by rw [HZ1.out]; exact HSRC.out) (by omega) (by rw [HZ1.out]; intro j hj; rw [HFL.out] at hj; have := (HCAP.out j (by omega)).1; simpa using this) (by rw [HZ1.out]; intro j hj; rw [HFL.out] at hj; have := (HCAP.out j (by omega)).2; simpa using this) ?_; rw [HW3E.out])
    · have hb1 : (w3.setCell ⟨g, p * 2 + 1, none⟩ (.int .i64 (y + n))).heap[w.heap.size + 1]? = some (.cells #[.int .i64 0, .int .i64 0, .int .i64 0, .slice none 0 0] 24 (0, 0)) := (heap_setCell_other w3 ⟨g, p * 2 + 1, none⟩ _ _ (by simp; omega)).trans C1.out
      refine bodyPost_ret (results_ct rfl _ _ (w.heap.size + 1) 24 #[.int .i64 a0, .int .i64 a1, .int .i64 (a2 + n), .slice (some ⟨g, 0, none⟩) len (len + 1)] (0, 0) _ rfl (blk_put (cs := #[.int .i64 a0, .int .i64 a1, .int .i64 (a2 + n), .slice none 0 0]) (blk_put (cs := #[.int .i64 a0, .int .i64 a1, .int .i64 0, .slice none 0 0]) (blk_put (cs := #[.int .i64 a0, .int .i64 0, .int .i64 0, .slice none 0 0]) (blk_put (cs := #[.int .i64 0, .int .i64 0, .int .i64 0, .slice none 0 0]) hb1 0 _ rfl) 1 _ rfl) 2 _ rfl) 3 _ rfl) Try.underlying24 rfl (by kernel_rfl)) rfl ?_
      have hne : (Value.slice (some ⟨g, 0, none⟩) len (len + 1)).ownBlock ≠ some (w.heap.size + 1) := by
        simp [Value.ownBlock]; omega
      have hre := HRES.out
      rw [if_neg (by simp [hfd]), HADD.out] at hre
      simp only [Prod.mk.injEq] at hre
      obtain ⟨rfl, rfl, rfl, rfl, rfl⟩ := hre
      refine ⟨_, rfl, own_R63 ?_, ?_⟩
      · rw [List.length_set, HLN.out]
        exact ownsRow_setCell_other (ownsRow_setCell_other (ownsRow_setCell_other (ownsRow_setCell_other HST.out.1 hne _) hne _) hne _) hne _
      · exact ((((CBEL.setCell (by simp; omega) _).setCell (by simp) _).setCell (by simp) _).setCell (by simp) _).setCell (by simp) _
  | false =>
    have HADD : Hid (addNodes xs id n = xs.take (pos xs id) ++ ⟨id, n⟩ :: xs.drop (pos xs id)) := Lib.hid (by unfold addNodes; rw [hfd]; rfl)
    by_cases hfull : 2000 ≤ len
    · have hfi : ((len : Int) ≥ 2000) := by omega
      go_wp2_with (at_builtin; refine Go.wpList_append_room_src _ rfl _ _ 22 22 rfl 63 i0 Try.underlying22 hi g 0 0 (len + 1) rfl _ rfl len (xs.flatMap enc63) (by rw [HZ1.out]; exact HSRC.out) (by omega) (by rw [HZ1.out]; intro j hj; rw [HFL.out] at hj; have := (HCAP.out j (by omega)).1; simpa using this) (by rw [HZ1.out]; intro j hj; rw [HFL.out] at hj; have := (HCAP.out j (by omega)).2; simpa using this) ?_; rw [HW3E.out])
      refine bodyPost_ret (results_ct rfl _ _ (w.heap.size + 1) 24 #[.int .i64 0, .int .i64 0, .int .i64 0, .slice none 0 0] (0, 0) _ rfl (blk_put (cs := #[.int .i64 0, .int .i64 0, .int .i64 0, .slice none 0 0]) (blk_put (cs := #[.int .i64 0, .int .i64 0, .int .i64 0, .slice none 0 0]) (blk_put (cs := #[.int .i64 0, .int .i64 0, .int .i64 0, .slice none 0 0]) (blk_put (cs := #[.int .i64 0, .int .i64 0, .int .i64 0, .slice none 0 0]) C1.out 0 _ rfl) 1 _ rfl) 2 _ rfl) 3 _ rfl) Try.underlying24 rfl (by kernel_rfl)) rfl ?_
      have hre := HRES.out
      rw [if_pos ⟨hfd, hfull⟩] at hre
      simp only [Prod.mk.injEq] at hre
      obtain ⟨rfl, rfl, rfl, rfl, rfl⟩ := hre
      refine ⟨_, rfl, Kd.R_nil _ _ _ _ _, ?_⟩
      exact (((CBEL.setCell (by simp) _).setCell (by simp) _).setCell (by simp) _).setCell (by simp) _
    · have hfi : ¬ ((len : Int) ≥ 2000) := by omega
      have hins := fun (W : World) (vb : Nat) (h1 : W.ownsRow w.heap.size 63 2 (.slice (some ⟨g, 0, none⟩) len (len + 1)) len (xs.flatMap enc63)) (h2 : W.heap[vb]? = some (.cells #[.int .i64 id, .int .i64 n] 63 (0, 0))) (h3 : vb ≠ g) => insert_calls W w.heap.size g len (pos xs id) vb (xs.flatMap enc63) (.int .i64 id) (.int .i64 n) h1 hpl hlen h2 h3 rfl rfl (flat_one xs)
      simp only [flat_ins] at hins
      go_wp2_with (first | (at_builtin; refine Go.wpList_append_room_src _ rfl _ _ 22 22 rfl 63 i0 Try.underlying22 hi g 0 0 (len + 1) rfl _ rfl len (xs.flatMap enc63) (by rw [HZ1.out]; exact HSRC.out) (by omega) (by rw [HZ1.out]; intro j hj; rw [HFL.out] at hj; have := (HCAP.out j (by omega)).1; simpa using this) (by rw [HZ1.out]; intro j hj; rw [HFL.out] at hj; have := (HCAP.out j (by omega)).2; simpa using this) ?_; rw [HW3E.out]))
      refine (hins _ w3.heap.size (hown.alloc _) (blk_new _ _) (by omega)).mono ?_
      rintro e w4 ⟨rfl, hown4, hgr4⟩
      have hgn := hgr4.size
      simp at hgn
      have hkeep : ∀ kk, kk ≤ w.heap.size + 1 → w4.heap[kk]? = w3.heap[kk]? := fun kk hk => (hgr4.block kk (by simp; omega) (fun e => by have := Option.some.inj e; omega)).trans (Below.heap_alloc w3 _ kk (by omega))
      have D0 := Lib.hid ((hkeep w.heap.size (by omega)).trans C0.out)
      have D1 := Lib.hid ((hkeep (w.heap.size + 1) (Nat.le_refl _)).trans C1.out)
      have DBEL : Below w.heap.size w w4 := (CBEL.alloc (by omega) _).trans ⟨hgr4.os, hgr4.tape, hgr4.output, hgr4.size, fun kk hk => hgr4.block kk (by simp; omega) (fun e => by have := Option.some.inj e; omega)⟩
      have x0 := blk_cell D0.out 0
      have x1 := blk_cell D0.out 1
      have x2 := blk_cell D0.out 2
      simp at x0 x1 x2
      have t0 := blk_cell D1.out 0
      have t1 := blk_cell D1.out 1
      have t2 := blk_cell D1.out 2
      have t3 := blk_cell D1.out 3
      have f0 := blk_frozen D1.out 0
      have f1 := blk_frozen D1.out 1
      have f2 := blk_frozen D1.out 2
      have f3 := blk_frozen D1.out 3
      simp at t0 t1 t2 t3
      have HOWN := Lib.hid hown4
      clear hown4 hgr4 hkeep hins hown C0 C1 hgn
      go_wp2_with fail
      have hne : (Value.slice (some ⟨g, 0, none⟩) (len + 1) (len + 1)).ownBlock ≠ some (w.heap.size + 1) := by
        simp [Value.ownBlock]; omega
      refine bodyPost_ret (results_ct rfl _ _ (w.heap.size + 1) 24 #[.int .i64 a0, .int .i64 a1, .int .i64 (a2 + n), .slice (some ⟨g, 0, none⟩) (len + 1) (len + 1)] (0, 0) _ rfl (blk_put (cs := #[.int .i64 a0, .int .i64 a1, .int .i64 (a2 + n), .slice none 0 0]) (blk_put (cs := #[.int .i64 a0, .int .i64 a1, .int .i64 0, .slice none 0 0]) (blk_put (cs := #[.int .i64 a0, .int .i64 0, .int .i64 0, .slice none 0 0]) (blk_put (cs := #[.int .i64 0, .int .i64 0, .int .i64 0, .slice none 0 0]) D1.out 0 _ rfl) 1 _ rfl) 2 _ rfl) 3 _ rfl) Try.underlying24 rfl (by kernel_rfl)) rfl ?_
      have hre := HRES.out
      rw [if_neg (fun h => hfull h.2), HADD.out] at hre
      simp only [Prod.mk.injEq] at hre
      obtain ⟨rfl, rfl, rfl, rfl, rfl⟩ := hre
      refine ⟨_, rfl, own_R63 ?_, ?_⟩
      · rw [show (xs.take (pos xs id) ++ (⟨id, n⟩ : S63) :: xs.drop (pos xs id)).length = len + 1 from by
          have := HLN.out; simp; omega]
        exact ownsRow_setCell_other (ownsRow_setCell_other (ownsRow_setCell_other (ownsRow_setCell_other HOWN.out hne _) hne _) hne _) hne _
      · exact (((DBEL.setCell (by simp) _).setCell (by simp) _).setCell (by simp) _).setCell (by simp) _
end Go.Proofs.Ytcgimjoebkeifaa.QAdd

/- qdigest.Add as a Lean function, with a proof that the call answers so. Conditions: the nodes lie in memory as given. -/
namespace Go.Proofs.Ytcgimjoebkeifaa.PQ
set_option linter.unusedSimpArgs false
set_option linter.unusedVariables false
open Go.RowKit Go.Proofs.YtcgimjoebkeifaaW.PrintWords Go.Proofs.QComp Go.Proofs.Ytcgimjoebkeifaa.QComp Go.Proofs.Ytcgimjoebkeifaa.QAdd Go.Proofs.YtcgimjoebkeifaaW.PrintLast Go.Proofs.YtcgimjoebkeifaaW.PrintMore
def qdigest_Add.f (k : Nat) (a0_0 : Int) (a0_1 : Int) (a0_2 : Int) (l0_3 : List (S63)) (a1 : Int) (a2 : Int) : Option (Int × Int × Int × (List (S63)) × Int) :=
  (qdigest_Check.f k a0_0 a0_1 a0_2 l0_3).bind fun t => if t = 0 then addF a0_0 a0_1 a0_2 l0_3 a1 a2 else some (0, 0, 0, [], 1)
theorem qdigest_Add.mono : ∀ a0 a1 a2 a3 a4 a5 k, LeO (qdigest_Add.f k a0 a1 a2 a3 a4 a5) (qdigest_Add.f (k + 1) a0 a1 a2 a3 a4 a5) := by
  intro a0 a1 a2 a3 a4 a5 k
  unfold qdigest_Add.f
  refine LeO.bind (qdigest_Check.mono _ _ _ _ _) (fun t => ?_)
  exact LeO.refl _
theorem qdigest_Add.calls (k : Nat) (a0_0 : Int) (a0_1 : Int) (a0_2 : Int) (A0_3 : Option Addr) (c0_3 : Nat) (l0_3 : List (S63)) (a1 : Int) (a2 : Int) (r1 : Int) (r2 : Int) (r3 : Int) (r4 : List (S63)) (r5 : Int) (w : World) (hr0_3 : Kd.C k63 w A0_3 l0_3.length l0_3) (hc0_3 : l0_3.length ≤ c0_3) (h : qdigest_Add.f k a0_0 a0_1 a0_2 l0_3 a1 a2 = some (r1, r2, r3, r4, r5)) :
    Calls Try.prog 39 #[.agg #[.int .i64 a0_0, .int .i64 a0_1, .int .i64 a0_2, .slice A0_3 l0_3.length c0_3], .int .i64 a1, .int .i64 a2] w fun e w' => ∃ v3_ : Value, e = .returned (.tuple #[.agg #[.int .i64 r1, .int .i64 r2, .int .i64 r3, v3_], .int .i64 r5]) ∧ Kd.R k63 63 w' w.heap.size (fun _ => True) v3_ r4 ∧ Below w.heap.size w w' := by
  unfold qdigest_Add.f at h
  obtain ⟨t, ht, h⟩ := Option.bind_eq_some_iff.1 h
  by_cases h0 : t = 0
  · rw [if_pos h0] at h
    subst h0
    unfold addF at h
    by_cases hok : AddOk a0_0 a0_2 l0_3
    case neg => rw [if_neg hok] at h; cases h
    rw [if_pos hok] at h
    by_cases hq : a1 < 0 ∨ 2 ^ a0_0.toNat ≤ a1 ∨ a2 < 1
    · rw [if_pos hq] at h
      simp only [Option.some.injEq, Prod.mk.injEq] at h
      obtain ⟨rfl, rfl, rfl, rfl, rfl⟩ := h
      exact add_refused k a0_0 a0_1 a0_2 a1 a2 2 A0_3 c0_3 l0_3 w hr0_3 hc0_3 ht hok.1 hok.2.1 (.inl ⟨hq, rfl⟩)
    · rw [if_neg hq] at h
      by_cases hl : 1099511627776 - a0_2 < a2
      · rw [if_pos hl] at h
        simp only [Option.some.injEq, Prod.mk.injEq] at h
        obtain ⟨rfl, rfl, rfl, rfl, rfl⟩ := h
        exact add_refused k a0_0 a0_1 a0_2 a1 a2 4 A0_3 c0_3 l0_3 w hr0_3 hc0_3 ht hok.1 hok.2.1 (.inr ⟨hq, hl, rfl⟩)
      · rw [if_neg hl] at h
        refine add_yes k a0_0 a0_1 a0_2 a1 a2 A0_3 c0_3 l0_3 w hr0_3 hc0_3 ht hok hq hl r1 r2 r3 r4 r5 ?_
        by_cases hh : found l0_3 (2 ^ a0_0.toNat + a1) = false ∧ 2000 ≤ l0_3.length
        · rw [if_pos hh] at h ⊢
          exact Option.some.inj h
        · rw [if_neg hh] at h ⊢
          exact Option.some.inj h
  · rw [if_neg h0] at h
    simp only [Option.some.injEq, Prod.mk.injEq] at h
    obtain ⟨rfl, rfl, rfl, rfl, rfl⟩ := h
    exact add_no k a0_0 a0_1 a0_2 a1 a2 A0_3 c0_3 l0_3 t w hr0_3 hc0_3 ht h0
end Go.Proofs.Ytcgimjoebkeifaa.PQ
