/- The example of the document for the ledger: awake. Written by gen_a13.py. -/
import Derived.Test.YtebdajkknkapcaaGreatG14xB0B2
import Derived.Test.YtebdajkknkapcaaGreatG14xB3B8
import Derived.Test.YtebdajkknkapcaaGreatG14xB14
import Derived.Test.YtebdajkknkapcaaGreatG14xB16
import Derived.Test.YtebdajkknkapcaaGreatG14xB17B24
import Derived.Test.YtebdajkknkapcaaGreatG14xB29B32
import Derived.Test.YtebdajkknkapcaaGreatG14xS3C3
import Derived.Test.YtebdajkknkapcaaGreatG14xC4E3
import Derived.Test.YtebdajkknkapcaaGreatG14xE4E5
import Derived.Test.YtebdajkknkapcaaGreatG14xE6F1
import Derived.Test.YtebdajkknkapcaaGreatG14xF2I7
import Derived.Test.YtebdajkknkapcaaGreatG14xI8I11
import Derived.Test.YtebdajkknkapcaaGreatG14xI12
import Derived.Test.YtebdajkknkapcaaGreatG14xI13I15
import Derived.Test.YtebdajkknkapcaaGreatG14xI16
import Derived.Test.YtebdajkknkapcaaGreatG14xI19Q2
import Derived.Test.YtebdajkknkapcaaGreatG14xK1A5
import Derived.Test.YtebdajkknkapcaaGreatG14xA6A12
import Derived.Test.YtebdajkknkapcaaGreatProg
set_option linter.unusedVariables false
set_option linter.unusedSimpArgs false
set_option maxRecDepth 4000
attribute [local go_sem ↓] Go.wp_at_zero Go.wp_at_succ
namespace Go.Proofs.YtebdajkknkapcaaGreat
open Go Go.RowKit
def aw14L : List XLine := [⟨10, 100, -1⟩, ⟨100, -100, -1⟩]
def aw14 : XEntry := ⟨1, 0, 20454, 1, 0, ⟨#[]⟩, aw14L⟩
theorem aw14_bd : ∀ x ∈ aw14L, lineBd x := by
 show ∀ x ∈ aw14L, intBd x.account ∧ intBd x.amount ∧ intBd x.partner
 decide
theorem aw14_first : calFirst 2026 1 36 0 = (20454, 0) := by decide +kernel
theorem aw14_post : postE sampleG [] aw14 = 0 := by decide +kernel
theorem aw14_valid : validJ sampleG [aw14] := ⟨sample_valid, fun k hk => by
 have : k = 0 := by simp at hk; omega
 subst this
 exact aw14_post⟩
theorem aw14_chk : BChk sampleG [aw14] 0 (-4611686018427387904) 100 true 0 := .inr ⟨aw14_valid, by decide +kernel⟩
theorem aw14_sum : sumE (qB 20454) [aw14] 0 100 = -100 := by decide +kernel
theorem entry_lay {w W : World} {T : TypeId} {x : XEntry} {cs : List Value} (hW : W.heap[w.heap.size]? = some (.cells cs.toArray T (0, 0))) (hx : EntryC W (· < W.heap.size) cs x) (hs : cs.length = 7) : ListC EntryC 7 W (· < W.heap.size) [.slice (some ⟨w.heap.size, 0, none⟩) 1 1] [x] :=
 ⟨_, _, rfl, Nat.le_refl _, by unfold maxLen; decide, fun _ => ⟨w.heap.size, 0, rfl, blk_lt hW, fun i y hi => by
  have hi0 : i = 0 := by
   have := (List.getElem?_eq_some_iff.1 hi).1
   simp at this
   exact this
  subst hi0
  simp at hi
  subst hi
  exact ⟨cs, hx, by simpa using box_at hW⟩⟩⟩
set_option maxHeartbeats 4000000 in
theorem awake14_c (w : World) : Calls Tryz.prog 23 #[] w (Quiet w (.bool true)) := by
 go_enter Tryz.func23, Tryz.ntmps23
 go_wp2_with fail
 refine (sample_c w).mono ?_
 rintro e w2 ⟨vs, rfl, hg, hb2⟩
 have hone : vs.toArray.all (·.oneCell') = true := by rw [List.all_toArray, List.all_eq_true]; exact grp_one hg
 have HGS := Lib.hid (show vs.toArray.size = 21 by simpa using hg.len)
 have HONE := Lib.hid hone
 have HG := Lib.hid hg
 obtain ⟨_, _, _, _, _, _, _, k1, k2, k3, _, _⟩ := hg.view
 have K1 := Lib.hid (show vs[1]? = some (.int .i64 2026) from k1)
 have K2 := Lib.hid (show vs[2]? = some (.int .i64 1) from k2)
 have K3 := Lib.hid (show vs[3]? = some (.int .i64 36) from k3)
 clear hg hone k1 k2 k3
 go_upto_region 2 with (show wpList _ _ _ (Oper.mk none (Op.store _ (Operand.tmp 1) _) _ _ _ _ :: _) _ _; refine wpList_store_fresh3 rfl 29 (.tmp 1) (.tmp 7) rfl rfl w2 #[.string ⟨#[]⟩, .int .i64 0, .int .i64 0, .int .i64 0, .slice none 0 0, .int .i64 0, .int .i64 0, .int .i64 0, .int .i64 0, .int .i64 0, .int .i64 0, .int .i64 0, .int .i64 0, .int .i64 0, .int .i64 0, .int .i64 0, .int .i64 0, .int .i64 0, .int .i64 0, .int .i64 0, .slice none 0 0] 29 vs.toArray rfl rfl rfl (by rw [info_group]; exact congrArg some HGS.out.symm) HGS.out.symm HONE.out ?_; intro w3 H3 HB3 HS3)
 have HK3 := Lib.hid H3
 have HB03 := Lib.hid (hb2.trans (HB3.mono hb2.size))
 have HCR := Lib.hid (cal_range H3 K1.out K2.out K3.out)
 have HG3 := Lib.hid (HG.out.keep HB3)
 clear H3 HB3 hb2
 go_wp2_with (show wpList _ _ _ (Oper.mk (some 10) _ _ _ _ _ :: _) _ _; refine wpList_load_mid rfl 23 (.tmp 9) rfl w2.heap.size 1 rfl [.int .i64 2026, .int .i64 1, .int .i64 36] _ HCR.out Tryz.underlying23 rfl info_cal ?_)
 refine (rcalFirst_c 2026 1 36 0 w3).mono ?_
 rintro e w5 ⟨rfl, hb5⟩
 rw [aw14_first]
 have HB05 := Lib.hid (HB03.out.trans (hb5.mono HB03.out.size))
 have HK5 := Lib.hid ((hb5.block _ (blk_lt HK3.out)).trans HK3.out)
 have HG5 := Lib.hid (HG3.out.keep hb5)
 clear hb5
 go_upto_region 4 with fail
 have H6 := heap_alloc_new w5 (.cells #[.int .i64 10, .int .i64 100, .int .i64 (-1), .int .i64 100, .int .i64 (-100), .int .i64 (-1)] 52)
 have HB6 := below1 w5 (.cells #[.int .i64 10, .int .i64 100, .int .i64 (-1), .int .i64 100, .int .i64 (-100), .int .i64 (-1)] 52)
 have es6 : (w5.alloc (.cells #[.int .i64 10, .int .i64 100, .int .i64 (-1), .int .i64 100, .int .i64 (-100), .int .i64 (-1)] 52)).heap.size = w5.heap.size + 1 := by simp
 generalize w5.alloc (.cells #[.int .i64 10, .int .i64 100, .int .i64 (-1), .int .i64 100, .int .i64 (-100), .int .i64 (-1)] 52) = w6 at *
 have HL6 := Lib.hid (lines_lay aw14L aw14_bd (by decide) w5 w6 _ _ rfl H6)
 have H7 := heap_alloc_new w6 (.cells #[.int .i64 1, .int .i64 0, .int .i64 20454, .int .i64 1, .int .i64 0, .string ⟨#[]⟩, .slice (some ⟨w5.heap.size, 0, none⟩) 2 2] 42)
 have HB7 := below1 w6 (.cells #[.int .i64 1, .int .i64 0, .int .i64 20454, .int .i64 1, .int .i64 0, .string ⟨#[]⟩, .slice (some ⟨w5.heap.size, 0, none⟩) 2 2] 42)
 rw [es6] at H7
 generalize w6.alloc (.cells #[.int .i64 1, .int .i64 0, .int .i64 20454, .int .i64 1, .int .i64 0, .string ⟨#[]⟩, .slice (some ⟨w5.heap.size, 0, none⟩) 2 2] 42) = w7 at *
 have hb57 := HB6.trans (HB7.mono HB6.size)
 have HB07 := Lib.hid (HB05.out.trans (hb57.mono HB05.out.size))
 have HG7 := Lib.hid (HG5.out.keep hb57)
 have HK7 := Lib.hid ((hb57.block _ (blk_lt HK5.out)).trans HK5.out)
 have HX7 := Lib.hid H7
 have HL7 := Lib.hid (lines_keep HL6.out HB7)
 clear H6 HB6 es6 H7 HB7 hb57 HL6
 go_upto_region 5 with (first | (show wpList _ _ _ (Oper.mk (some 20) _ _ _ _ _ :: _) _ _; refine wpList_load_row_g rfl 29 (.tmp 1) rfl (w2.heap.size) rfl _ _ _ _ HK7.out Tryz.underlying29 rfl (by rw [info_group]; exact congrArg some HGS.out.symm) ?_) | (show wpList _ _ _ (Oper.mk (some 21) _ _ _ _ _ :: _) _ _; refine wpList_load_row_g rfl 42 (.tmp 4) rfl (w5.heap.size + 1) rfl _ _ _ _ HX7.out Tryz.underlying42 rfl info_entry ?_))
 have H8 := heap_alloc_new w7 (.cells #[.int .i64 1, .int .i64 0, .int .i64 20454, .int .i64 1, .int .i64 0, .string ⟨#[]⟩, .slice (some ⟨w5.heap.size, 0, none⟩) 2 2] 42)
 have HB8 := below1 w7 (.cells #[.int .i64 1, .int .i64 0, .int .i64 20454, .int .i64 1, .int .i64 0, .string ⟨#[]⟩, .slice (some ⟨w5.heap.size, 0, none⟩) 2 2] 42)
 generalize w7.alloc (.cells #[.int .i64 1, .int .i64 0, .int .i64 20454, .int .i64 1, .int .i64 0, .string ⟨#[]⟩, .slice (some ⟨w5.heap.size, 0, none⟩) 2 2] 42) = w8 at *
 have hx := EntryC.mk (w := w8) (Q := (· < w8.heap.size)) (x := aw14) (A := some ⟨w5.heap.size, 0, none⟩) (c := 2) (by show intBd 1 ∧ intBd 0 ∧ intBd 20454 ∧ intBd 1 ∧ intBd 0; unfold intBd; omega) (lines_keep HL7.out HB8)
 have hb := balance_c sampleG [aw14] vs (some ⟨w7.heap.size, 0, none⟩) 1 0 100 20454 w8 (HG7.out.keep HB8) (entry_lay H8 hx rfl) sample_small ⟨by intro x hx; simp at hx; subst hx; decide, by simp⟩ (by simp) (by unfold intBd; omega)
 have HBAL := Lib.hid hb
 have HB08 := Lib.hid (HB07.out.trans (HB8.mono HB07.out.size))
 clear hb hx H8 HB8
 refine HBAL.out.mono ?_
 rintro e w9 ⟨r, rfl, hr, hb9⟩
 obtain rfl : r = 0 := hr.uniq aw14_chk
 rw [if_pos rfl, aw14_sum]
 have HB09 := Lib.hid (HB08.out.trans (hb9.mono HB08.out.size))
 clear hr hb9
 go_wp2_with fail
 go_ret
 exact ⟨rfl, HB09.out⟩
theorem few_modest {g : XGroup} {l : List XEntry} (h : fewJ g l) : modest l := ⟨fun x hx => by have h1 := h.1 x hx; have h2 := h1.1; have h3 := h1.2.1; omega, by have := h.2.1; omega⟩
set_option maxHeartbeats 4000000 in
theorem law_ledgerBalance (g : XGroup) (l : List XEntry) (gl : List Value) (A : Option Addr) (c : Nat) (pe pa pw : Int) (w : World) (hg : GroupC w (· < w.heap.size) gl g) (hsz : szG g) (hl : ListC EntryC 7 w (· < w.heap.size) [.slice A l.length c] l) (hts : ∀ x ∈ l, x.text.size ≤ 140737488355327) (hpa : intBd pa) : Calls Tryz.prog 6 #[.agg gl.toArray, .slice A l.length c, .agg #[.int .i64 pe, .int .i64 pa, .int .i64 pw]] w (Quiet w (.bool true)) := by
 have HFEW := Lib.hid (fun (w2 : World) (hb : Below w.heap.size w w2) => few12_c g l gl A c w2 (hg.keep hb) hsz (entries_keep hl hb) hts)
 have HGS := Lib.hid (show gl.toArray.size = 21 by have := hg.len; simpa using this)
 have HBA := Lib.hid (fun (w2 : World) (hb : Below w.heap.size w w2) (hf : fewJ g l) => balance_c g l gl A c pe pa pw w2 (hg.keep hb) (entries_keep hl hb) hf.2.2.small (few_modest hf) (by have := hf.2.1; omega) hpa)
 have HRB := Lib.hid (fun (w2 : World) (hb : Below w.heap.size w w2) (hf : fewJ g l) => rbal_c g l gl A c pe pa pw w2 (hg.keep hb) (entries_keep hl hb) hf.2.2.small (few_modest hf) (by have := hf.2.1; omega) hpa)
 obtain ⟨n, hnl⟩ : ∃ n, l.length = n := ⟨_, rfl⟩
 rw [hnl] at HFEW HBA HRB ⊢
 obtain ⟨fw, hfw⟩ : ∃ p : Prop, fewJ g l = p := ⟨_, rfl⟩
 rw [hfw] at HFEW
 have HFWE := Lib.hid hfw
 clear hg hsz hl hts hnl hfw hpa
 go_enter Tryz.func6, Tryz.ntmps6
 go_upto_region 1 with fail
 have H := heap_alloc_new w (.cells gl.toArray 29)
 have HB := below1 w (.cells gl.toArray 29)
 have HS := blk_lt H
 generalize hW : w.alloc (Obj.cells gl.toArray 29) = W at *
 have H2 := heap_alloc_new W (.cells #[.int .i64 pe, .int .i64 pa, .int .i64 pw] 56)
 have HB2 := below1 W (.cells #[.int .i64 pe, .int .i64 pa, .int .i64 pw] 56)
 have HS2 := blk_lt H2
 replace H := alloc_keep H (Obj.cells #[.int .i64 pe, .int .i64 pa, .int .i64 pw] 56)
 generalize hW2 : W.alloc (Obj.cells #[.int .i64 pe, .int .i64 pa, .int .i64 pw] 56) = W2 at *
 clear hW2
 have eW : W.heap.size = w.heap.size + 1 := by rw [← hW]; simp
 rw [eW] at H2
 clear hW
 have hb2 := HB.trans (HB2.mono HB.size)
 have hs2 := HB2.size
 have LT1 := blk_lt H2
 have LT0 : w.heap.size < W2.heap.size := by omega
 have HH := Lib.hid H
 have HZ := Lib.hid H2
 have EW := Lib.hid eW
 clear H H2 eW
 have hb02 := hb2
 have LT02 := LT0
 have LT12 := LT1
 have HH2 := HH
 have HZ2 := HZ
 go_wp2_with fail
 refine (awake14_c W2).mono ?_
 rintro e w3 ⟨rfl, hb3⟩
 have hb03 := hb02.trans (hb3.mono hb02.size)
 have hs3 := hb3.size
 have LT03 := Nat.lt_of_lt_of_le LT02 hs3
 have LT13 := Nat.lt_of_lt_of_le LT12 hs3
 have HH3 := Lib.hid ((hb3.block _ LT02).trans HH2.out)
 have HZ3 := Lib.hid ((hb3.block _ LT12).trans HZ2.out)
 go_wp2_with (show wpList _ _ _ (Oper.mk (some 13) _ _ _ _ _ :: _) _ _; refine wpList_load_row_g rfl 29 (.tmp 3) rfl (w.heap.size) rfl _ _ _ _ HH3.out Tryz.underlying29 rfl (by rw [info_group]; exact congrArg some HGS.out.symm) ?_)
 refine (HFEW.out w3 hb03).mono ?_
 rintro e w4 ⟨bf, rfl, hf, hb4⟩
 have hb04 := hb03.trans (hb4.mono hb03.size)
 have hs4 := hb4.size
 have LT04 := Nat.lt_of_lt_of_le LT03 hs4
 have LT14 := Nat.lt_of_lt_of_le LT13 hs4
 have HH4 := Lib.hid ((hb4.block _ LT03).trans HH3.out)
 have HZ4 := Lib.hid ((hb4.block _ LT13).trans HZ3.out)
 cases bf with
 | false =>
  clear hf
  go_wp2_with fail
  go_ret
  exact ⟨rfl, hb04⟩
 | true =>
 have HFP := Lib.hid (show fewJ g l from HFWE.out ▸ hf rfl)
 clear hf
 have p0 := blk_cell HZ4.out 0
 have p1 := blk_cell HZ4.out 1
 have p2 := blk_cell HZ4.out 2
 go_wp2_with (show wpList _ _ _ (Oper.mk (some 18) _ _ _ _ _ :: _) _ _; refine wpList_load_row_g rfl 29 (.tmp 3) rfl (w.heap.size) rfl _ _ _ _ HH4.out Tryz.underlying29 rfl (by rw [info_group]; exact congrArg some HGS.out.symm) ?_)
 refine (HBA.out w4 hb04 HFP.out).mono ?_
 rintro e w5 ⟨r, rfl, hr, hb5⟩
 obtain ⟨v, hv⟩ : ∃ v, (if r = 0 then sumE (qB pw) l pe pa else 0) = v := ⟨_, rfl⟩
 have HV := Lib.hid hv
 have HR := Lib.hid hr
 rw [hv]
 clear hv hr p0 p1 p2
 have hb05 := hb04.trans (hb5.mono hb04.size)
 have hs5 := hb5.size
 have LT05 := Nat.lt_of_lt_of_le LT04 hs5
 have LT15 := Nat.lt_of_lt_of_le LT14 hs5
 have HH5 := Lib.hid ((hb5.block _ LT04).trans HH4.out)
 have HZ5 := Lib.hid ((hb5.block _ LT14).trans HZ4.out)
 have p0 := blk_cell HZ5.out 0
 have p1 := blk_cell HZ5.out 1
 have p2 := blk_cell HZ5.out 2
 go_wp2_with (show wpList _ _ _ (Oper.mk (some 30) _ _ _ _ _ :: _) _ _; refine wpList_load_row_g rfl 29 (.tmp 3) rfl (w.heap.size) rfl _ _ _ _ HH5.out Tryz.underlying29 rfl (by rw [info_group]; exact congrArg some HGS.out.symm) ?_)
 refine (HRB.out w5 hb05 HFP.out).mono ?_
 rintro e w6 ⟨r2, rfl, hr2, hb6⟩
 obtain rfl : r = r2 := HR.out.uniq hr2
 rw [HV.out]
 have hb06 := hb05.trans (hb6.mono hb05.size)
 clear hr2 p0 p1 p2
 go_wp2_with fail
 go_ret
 exact ⟨rfl, hb06⟩
section
variable {H : Type} {enc : TypeId × Value → H} {W : World}
theorem opPlace : Opens enc W 56 (CalC W (· < W.heap.size)) szCal := fun fuel cs x h hfz hz => by
 obtain ⟨xs, n, _, rfl, hcl, hxl, hf⟩ := DataW.trod_struct Tryz.underlying56 h
 have hcl2 : cs.length = 3 := hcl.trans (by kernel_rfl)
 have hw : ∀ (j : Nat) (t : TypeId) (y : DataW H × List MemPlace), ([3, 3, 3] : List TypeId)[j]? = some t → xs[j]? = some y → ∀ n ∈ y.1.weights Tryz.prog t, n ≤ reachBytes := fun j t y ht hy n hn => hz n (by
  simp only [DataW.weights, Tryz.underlying56]
  exact DataW.weights_mem_each (j := j) (t := t) (d := y.1) ht (by rw [List.getElem?_map, hy]; rfl) n hn)
 have h0 := hf 0 _ rfl
 obtain ⟨y0, hy0⟩ : ∃ y, xs[0]? = some y := ⟨_, List.getElem?_eq_getElem (by rw [hxl]; decide)⟩
 obtain ⟨a0, q0, z0⟩ := opInt _ _ _ (h0.trans hy0) (fun b off hb => hfz b off (List.mem_flatMap.2 ⟨y0, List.mem_of_getElem? hy0, hb⟩)) (hw 0 _ y0 rfl hy0)
 have h1 := hf 1 _ rfl
 obtain ⟨y1, hy1⟩ : ∃ y, xs[1]? = some y := ⟨_, List.getElem?_eq_getElem (by rw [hxl]; decide)⟩
 obtain ⟨a1, q1, z1⟩ := opInt _ _ _ (h1.trans hy1) (fun b off hb => hfz b off (List.mem_flatMap.2 ⟨y1, List.mem_of_getElem? hy1, hb⟩)) (hw 1 _ y1 rfl hy1)
 have h2 := hf 2 _ rfl
 obtain ⟨y2, hy2⟩ : ∃ y, xs[2]? = some y := ⟨_, List.getElem?_eq_getElem (by rw [hxl]; decide)⟩
 obtain ⟨a2, q2, z2⟩ := opInt _ _ _ (h2.trans hy2) (fun b off hb => hfz b off (List.mem_flatMap.2 ⟨y2, List.mem_of_getElem? hy2, hb⟩)) (hw 2 _ y2 rfl hy2)
 refine ⟨⟨a0, a1, a2⟩, ⟨_, _, _, ?_, q0, q1, q2⟩, trivial⟩
 have e0 : (cs.drop 0).take (Tryz.prog.cellsOf 3) = (cs.drop 0).take 1 := by rw [show Tryz.prog.cellsOf 3 = 1 from by kernel_rfl]
 have e1 : (cs.drop 1).take (Tryz.prog.cellsOf 3) = (cs.drop 1).take 1 := by rw [show Tryz.prog.cellsOf 3 = 1 from by kernel_rfl]
 have e2 : (cs.drop 2).take (Tryz.prog.cellsOf 3) = (cs.drop 2).take 1 := by rw [show Tryz.prog.cellsOf 3 = 1 from by kernel_rfl]
 show cs = (cs.drop 0).take (Tryz.prog.cellsOf 3) ++ (cs.drop 1).take (Tryz.prog.cellsOf 3) ++ (cs.drop 2).take (Tryz.prog.cellsOf 3)
 rw [e0, e1, e2]
 have z : cs = cs.drop 0 := rfl
 have t0 := take_drop_one cs 0 1
 have t1 := take_drop_one cs 1 1
 have t2 := take_drop_one cs 2 1
 have tn : cs.drop 3 = [] := List.drop_eq_nil_of_le (by omega)
 simp only [Nat.reduceAdd] at t0 t1 t2
 have r2 := t2.trans (by rw [tn, List.append_nil])
 have r1 := t1.trans (congrArg (_ ++ ·) r2)
 have r0 := t0.trans (congrArg (_ ++ ·) r1)
 refine z.trans (r0.trans ?_)
 simp only [List.append_assoc]
end
end Go.Proofs.YtebdajkknkapcaaGreat
