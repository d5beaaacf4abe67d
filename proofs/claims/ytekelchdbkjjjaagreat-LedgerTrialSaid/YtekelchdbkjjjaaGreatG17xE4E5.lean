/- The fields of an entry, in the reference. Written by gen_e4.py. -/
import Derived.Test.YtekelchdbkjjjaaGreatG17xB0B2
import Derived.Test.YtekelchdbkjjjaaGreatG17xB3B8
import Derived.Test.YtekelchdbkjjjaaGreatG17xB9B13
import Derived.Test.YtekelchdbkjjjaaGreatG17xB14
import Derived.Test.YtekelchdbkjjjaaGreatG17xB16
import Derived.Test.YtekelchdbkjjjaaGreatG17xB17B24
import Derived.Test.YtekelchdbkjjjaaGreatG17xB25B28
import Derived.Test.YtekelchdbkjjjaaGreatG17xB29B32
import Derived.Test.YtekelchdbkjjjaaGreatG17xB33S2
import Derived.Test.YtekelchdbkjjjaaGreatG17xC4E3
import Derived.Test.YtekelchdbkjjjaaGreatProg
set_option linter.unusedVariables false
set_option linter.unusedSimpArgs false
set_option maxRecDepth 4000
attribute [local go_sem ↓] Go.wp_at_zero Go.wp_at_succ
namespace Go.Proofs.YtekelchdbkjjjaaGreat
open Go Go.RowKit
set_option maxHeartbeats 1000000 in
theorem rline_c (G : Array Value) (Ae : Option Addr) (ne ce : Nat) (ent la lm lp : Int) (w : World) (hGs : G.size = 21) (hG20 : G[20]? = some (.slice Ae ne ce)) (h0 : 0 ≤ ent) (hlp : intBd lp) : Calls Tryz.prog 166 #[.agg G, .int .i64 ent, .agg #[.int .i64 la, .int .i64 lm, .int .i64 lp]] w (Quiet w (.bool (lineB ne ent ⟨la, lm, lp⟩))) := by
 obtain ⟨r, hr⟩ : ∃ r, lineB ne ent ⟨la, lm, lp⟩ = r := ⟨_, rfl⟩
 have HLB := Lib.hid (fun h : r = true => (lineB_iff ne ent ⟨la, lm, lp⟩).1 (hr.trans h))
 have HLT := Lib.hid (fun h => hr.symm.trans ((lineB_iff ne ent ⟨la, lm, lp⟩).2 h))
 rw [hr]
 have HG20 := Lib.hid hG20
 obtain ⟨hp1, hp2⟩ := hlp
 clear hr hG20 hGs
 go_enter Tryz.func166, Tryz.ntmps166
 go_upto_region 1 with fail
 have H := heap_alloc_new w (.cells G 29)
 have HB := below1 w (.cells G 29)
 have HS := blk_lt H
 generalize hW : w.alloc (Obj.cells G 29) = W at *
 have H2 := heap_alloc_new W (.cells #[.int .i64 la, .int .i64 lm, .int .i64 lp] 76)
 have HB2 := below1 W (.cells #[.int .i64 la, .int .i64 lm, .int .i64 lp] 76)
 have HS2 := blk_lt H2
 replace H := alloc_keep H (Obj.cells #[.int .i64 la, .int .i64 lm, .int .i64 lp] 76)
 generalize hW2 : W.alloc (Obj.cells #[.int .i64 la, .int .i64 lm, .int .i64 lp] 76) = W2 at *
 clear hW2
 have eW : W.heap.size = w.heap.size + 1 := by rw [← hW]; simp
 rw [eW] at H2
 clear hW
 have hb2 := HB.trans (HB2.mono HB.size)
 have hs2 := HB2.size
 have LT1 := blk_lt H2
 have LT0 : w.heap.size < W2.heap.size := by omega
 have HH := Lib.hid H
 have HZ := Lib.hid H2
 have EW := Lib.hid eW
 clear H H2 eW
 have hb02 := hb2
 have LT02 := LT0
 have LT12 := LT1
 have HH2 := HH
 have HZ2 := HZ
 have e1 := blk_cell HZ.out 1
 have e2 := blk_cell HZ.out 2
 by_cases ha : lm = 0
 case pos =>
  have ha1 : (lm == 0) = true := by simpa using ha
  have hf := Lib.hid (show r = false by exact Bool.eq_false_iff.2 (fun h0 => absurd (HLB.out h0).1 (fun h => h ha)))
  clear ha
  go_wp2_with fail
  go_ret
  exact ⟨by rw [hf.out]; first | done | rfl, hb02⟩
 case neg =>
 have ha1 : (lm == 0) = false := by simpa using ha
 obtain ⟨mv, hmv⟩ : ∃ v, monB lm = v := ⟨_, rfl⟩
 have hcall := rMoney_c lm W2
 rw [hmv] at hcall
 have HMV := Lib.hid hmv
 have HCALL := Lib.hid hcall
 clear hmv hcall
 go_wp2_with fail
 refine HCALL.out.mono ?_
 rintro e w3 ⟨rfl, hb3⟩
 have hb03 := hb02.trans (hb3.mono hb02.size)
 have hs3 := hb3.size
 have LT03 := Nat.lt_of_lt_of_le LT02 hs3
 have LT13 := Nat.lt_of_lt_of_le LT12 hs3
 have HH3 := Lib.hid ((hb3.block _ LT02).trans HH2.out)
 have HZ3 := Lib.hid ((hb3.block _ LT12).trans HZ2.out)
 clear e1 e2
 cases mv with
 | false =>
  have hf := Lib.hid (show r = false by exact Bool.eq_false_iff.2 (fun h0 => absurd (HLB.out h0).2.1 (by rw [HMV.out]; decide)))
  go_wp2_with fail
  go_ret
  exact ⟨by rw [hf.out]; first | done | rfl, hb03⟩
 | true =>
 have e2 := blk_cell HZ3.out 2
 have g20 := (blk_cell HH3.out 20).trans HG20.out
 by_cases hm : lp = -1
 case pos =>
  have hm1 : (lp == -1) = true := by simpa using hm
  have hf := Lib.hid (show r = true from HLT.out ⟨ha, HMV.out, by omega, by omega, by omega⟩)
  clear hm
  go_wp2_with fail
  go_ret
  exact ⟨by rw [hf.out]; first | done | rfl, hb03⟩
 case neg =>
 have hm1 : (lp == -1) = false := by simpa using hm
 by_cases hq1 : 0 ≤ lp
 case neg =>
  have hq1' : ¬ lp ≥ 0 := hq1
  have hf := Lib.hid (show r = false by exact Bool.eq_false_iff.2 (fun h0 => absurd (HLB.out h0).2.2.1 (by omega)))
  go_wp2_with fail
  go_ret
  exact ⟨by rw [hf.out]; first | done | rfl, hb03⟩
 case pos =>
 have hq1' : lp ≥ 0 := hq1
 by_cases hq2 : lp < (ne : Int)
 case neg =>
  have hq2d : decide (lp < (ne : Int)) = false := decide_eq_false hq2
  have hf := Lib.hid (show r = false by exact Bool.eq_false_iff.2 (fun h0 => absurd (HLB.out h0).2.2.2.1 hq2))
  go_wp2_with fail
  go_ret
  exact ⟨by rw [hf.out]; first | done | rfl, hb03⟩
 case pos =>
 by_cases hq3 : lp = ent
 case pos =>
  have hq3' : (lp != ent) = false := by simpa using hq3
  have HQ3 := Lib.hid hq3
  clear hq3
  have hf := Lib.hid (show r = false by exact Bool.eq_false_iff.2 (fun h0 => absurd (HLB.out h0).2.2.2.2 (fun h => h HQ3.out)))
  go_wp2_with fail
  go_ret
  exact ⟨by rw [hf.out]; first | done | rfl, hb03⟩
 case neg =>
  have hq3' : (lp != ent) = true := by simpa using hq3
  have hf := Lib.hid (show r = true from HLT.out ⟨ha, HMV.out, by omega, hq2, hq3⟩)
  go_wp2_with fail
  go_ret
  exact ⟨by rw [hf.out]; first | done | rfl, hb03⟩
set_option maxHeartbeats 4000000 in
theorem rshape_c (G : Array Value) (Ae : Option Addr) (ne ce : Nat) (gv : Bool) (xi xe xd xk xo : Int) (xt : ByteArray) (ls : List XLine) (Al : Option Addr) (cl : Nat) (w : World) (hGs : G.size = 21) (hG20 : G[20]? = some (.slice Ae ne ce)) (hne : ne ≤ 1000)
 (hv : ∀ w2 : World, Below w.heap.size w w2 → Calls Tryz.prog 37 #[.agg G] w2 (Quiet w2 (.bool gv))) (hx : intBd xi ∧ intBd xe ∧ intBd xd ∧ intBd xk ∧ intBd xo) (hts : xt.size ≤ 140737488355327) (hl : ListC LineC 3 w (· < w.heap.size) [.slice Al ls.length cl] ls) : Calls Tryz.prog 160 #[.agg G, .agg #[.int .i64 xi, .int .i64 xe, .int .i64 xd, .int .i64 xk, .int .i64 xo, .string xt, .slice Al ls.length cl]] w (Quiet w (.bool (formB gv ne ⟨xi, xe, xd, xk, xo, xt, ls⟩))) := by
 obtain ⟨gl, rfl⟩ : ∃ gl : List Value, G = gl.toArray := ⟨G.toList, by simp⟩
 obtain ⟨r, hr⟩ : ∃ r, formB gv ne ⟨xi, xe, xd, xk, xo, xt, ls⟩ = r := ⟨_, rfl⟩
 have hFM : r = true → Formed gv ne ⟨xi, xe, xd, xk, xo, xt, ls⟩ := fun h => (formB_iff _ _ _).1 (hr.trans h)
 have hFT : Formed gv ne ⟨xi, xe, xd, xk, xo, xt, ls⟩ → r = true := fun h => hr.symm.trans ((formB_iff _ _ _).2 h)
 rw [hr]
 unfold Formed at hFM hFT
 simp only at hFM hFT
 have HFM := Lib.hid hFM
 have HFT := Lib.hid hFT
 have hbn := hl.cap
 obtain ⟨nl, hnl⟩ : ∃ n, ls.length = n := ⟨_, rfl⟩
 have HL := Lib.hid hl
 have HN := Lib.hid hnl
 have HG20 := Lib.hid hG20
 have HGS := Lib.hid hGs
 have HV := Lib.hid hv
 rw [hnl] at hbn ⊢
 unfold maxLen at hbn
 have hn9 : nl ≤ 9223372036854775807 := by omega
 obtain ⟨⟨hxi, hxi2⟩, ⟨hxe, hxe2⟩, _, ⟨hxk, hxk2⟩, ⟨hxo, hxo2⟩⟩ := hx
 clear hr hFM hFT hl hnl hGs hG20 hv hbn
 have HGI := Lib.hid (show (Tryz.prog.info? 29).map (·.size) = some gl.length by rw [info_group]; have := HGS.out; simp at this; rw [this])
 go_enter Tryz.func160, Tryz.ntmps160
 go_upto_region 1 with fail
 have H := heap_alloc_new w (.cells gl.toArray 29)
 have HB := below1 w (.cells gl.toArray 29)
 have HS := blk_lt H
 generalize hW : w.alloc (Obj.cells gl.toArray 29) = W at *
 have H2 := heap_alloc_new W (.cells #[.int .i64 xi, .int .i64 xe, .int .i64 xd, .int .i64 xk, .int .i64 xo, .string xt, .slice Al nl cl] 46)
 have HB2 := below1 W (.cells #[.int .i64 xi, .int .i64 xe, .int .i64 xd, .int .i64 xk, .int .i64 xo, .string xt, .slice Al nl cl] 46)
 have HS2 := blk_lt H2
 replace H := alloc_keep H (Obj.cells #[.int .i64 xi, .int .i64 xe, .int .i64 xd, .int .i64 xk, .int .i64 xo, .string xt, .slice Al nl cl] 46)
 generalize hW2 : W.alloc (Obj.cells #[.int .i64 xi, .int .i64 xe, .int .i64 xd, .int .i64 xk, .int .i64 xo, .string xt, .slice Al nl cl] 46) = W2 at *
 clear hW2
 have eW : W.heap.size = w.heap.size + 1 := by rw [← hW]; simp
 rw [eW] at H2
 clear hW
 have hb2 := HB.trans (HB2.mono HB.size)
 have hs2 := HB2.size
 have LT1 := blk_lt H2
 have LT0 : w.heap.size < W2.heap.size := by omega
 have HH := Lib.hid H
 have HZ := Lib.hid H2
 have EW := Lib.hid eW
 clear H H2 eW
 have hb02 := hb2
 have LT02 := LT0
 have LT12 := LT1
 have HH2 := HH
 have HZ2 := HZ
 go_wp2_with (show wpList _ _ _ (Oper.mk (some 6) _ _ _ _ _ :: _) _ _; refine wpList_load_row_g rfl 29 (.tmp 2) rfl (w.heap.size) rfl _ _ _ _ HH2.out Tryz.underlying29 rfl (by rw [info_group]; exact congrArg some HGS.out.symm) ?_)
 refine (HV.out W2 hb2).mono ?_
 rintro e w3 ⟨rfl, hb3⟩
 have hb03 := hb02.trans (hb3.mono hb02.size)
 have hs3 := hb3.size
 have LT03 := Nat.lt_of_lt_of_le LT02 hs3
 have LT13 := Nat.lt_of_lt_of_le LT12 hs3
 have HH3 := Lib.hid ((hb3.block _ LT02).trans HH2.out)
 have HZ3 := Lib.hid ((hb3.block _ LT12).trans HZ2.out)
 have e0 := blk_cell HZ3.out 0
 have e1 := blk_cell HZ3.out 1
 have e3 := blk_cell HZ3.out 3
 have e4 := blk_cell HZ3.out 4
 have e5 := blk_cell HZ3.out 5
 have g20 := (blk_cell HH3.out 20).trans HG20.out
 cases gv with
 | false =>
  have hf := Lib.hid (show r = false from Bool.eq_false_iff.2 (fun h0 => absurd (HFM.out h0).1 (by decide)))
  go_wp2_with fail
  go_ret
  exact ⟨by rw [hf.out]; first | done | rfl, hb03⟩
 | true =>
 by_cases hid : 1 ≤ xi
 case neg =>
  have hi1 : decide (xi < 1) = true := decide_eq_true (by omega)
  have hf := Lib.hid (show r = false from Bool.eq_false_iff.2 (fun h0 => absurd (HFM.out h0).2.1 hid))
  go_wp2_with fail
  go_ret
  exact ⟨by rw [hf.out]; first | done | rfl, hb03⟩
 case pos =>
 have hi1 : decide (xi < 1) = false := decide_eq_false (by omega)
 by_cases he0 : 0 ≤ xe
 case neg =>
  have hi2 : decide (xe < 0) = true := decide_eq_true (by omega)
  have hf := Lib.hid (show r = false from Bool.eq_false_iff.2 (fun h0 => absurd (HFM.out h0).2.2.1 he0))
  go_wp2_with fail
  go_ret
  exact ⟨by rw [hf.out]; first | done | rfl, hb03⟩
 case pos =>
 have hi2 : decide (xe < 0) = false := decide_eq_false (by omega)
 by_cases hen : xe < (ne : Int)
 case neg =>
  have hi3 : decide ((ne : Int) ≤ xe) = true := decide_eq_true (by omega)
  have hf := Lib.hid (show r = false from Bool.eq_false_iff.2 (fun h0 => absurd (HFM.out h0).2.2.2.1 hen))
  go_wp2_with fail
  go_ret
  exact ⟨by rw [hf.out]; first | done | rfl, hb03⟩
 case pos =>
 have hi3 : decide ((ne : Int) ≤ xe) = false := decide_eq_false (by omega)
 by_cases hk1 : 1 ≤ xk
 case neg =>
  have hi4 : decide (xk < 1) = true := decide_eq_true (by omega)
  have hf := Lib.hid (show r = false from Bool.eq_false_iff.2 (fun h0 => absurd (HFM.out h0).2.2.2.2.1 hk1))
  go_wp2_with fail
  go_ret
  exact ⟨by rw [hf.out]; first | done | rfl, hb03⟩
 case pos =>
 have hi4 : decide (xk < 1) = false := decide_eq_false (by omega)
 by_cases hk3 : xk ≤ 3
 case neg =>
  have hi5e : decide (3 < xk) = true := decide_eq_true (by omega)
  have hf := Lib.hid (show r = false from Bool.eq_false_iff.2 (fun h0 => absurd (HFM.out h0).2.2.2.2.2.1 hk3))
  go_wp2_with fail
  go_ret
  exact ⟨by rw [hf.out]; first | done | rfl, hb03⟩
 case pos =>
 have hi5d : decide (3 < xk) = false := decide_eq_false (by omega)
 by_cases hk : xk = 3
 case pos =>
  have hk2 : (xk == 3) = true := by simpa using hk
  have hk5 : (xk != 3) = false := by simp [hk]
  have HK := Lib.hid hk
  clear hk
  by_cases ho : 1 ≤ xo
  case neg =>
   have ho2 : decide (xo < 1) = true := decide_eq_true (by omega)
   have HNO := Lib.hid (show ¬ (xk = 3 → 1 ≤ xo) from fun h => ho (h HK.out))
   have hf := Lib.hid (show r = false from Bool.eq_false_iff.2 (fun h0 => absurd (HFM.out h0).2.2.2.2.2.2.1 HNO.out))
   go_wp2_with fail
   go_ret
   exact ⟨by rw [hf.out]; first | done | rfl, hb03⟩
  case pos =>
  have ho2 : decide (xo < 1) = false := decide_eq_false (by omega)
  have HOF := Lib.hid (show (xk = 3 → 1 ≤ xo) ∧ (xk ≠ 3 → xo = 0) from ⟨fun _ => ho, fun h => absurd HK.out h⟩)
  clear ho
  obtain ⟨pt, hpt⟩ : ∃ v, printB xt = v := ⟨_, rfl⟩
  have HPC := Lib.hid (fun w2 : World => rplain_c xt w2 hts)
  rw [hpt] at HPC
  have HPT := Lib.hid hpt
  clear hpt
  go_wp2_with fail
  refine (HPC.out w3).mono ?_
  rintro e w4 ⟨rfl, hb4⟩
  clear hk2 hk5 ho2
  have hb04 := hb03.trans (hb4.mono hb03.size)
  have hs4 := hb4.size
  have LT04 := Nat.lt_of_lt_of_le LT03 hs4
  have LT14 := Nat.lt_of_lt_of_le LT13 hs4
  have HH4 := Lib.hid ((hb4.block _ LT03).trans HH3.out)
  have HZ4 := Lib.hid ((hb4.block _ LT13).trans HZ3.out)
  have d6 := blk_cell HZ4.out 6
  cases pt with
  | false =>
   have hf := Lib.hid (show r = false from Bool.eq_false_iff.2 (fun h0 => absurd (HFM.out h0).2.2.2.2.2.2.2.2.1 (by rw [HPT.out]; decide)))
   go_wp2_with fail
   go_ret
   exact ⟨by rw [hf.out]; first | done | rfl, hb04⟩
  | true =>
  by_cases hl2 : 2 ≤ nl
  case neg =>
   have hl2I : decide ((nl : Int) < 2) = true := decide_eq_true (by omega)
   have hf := Lib.hid (show r = false from Bool.eq_false_iff.2 (fun h0 => absurd (HFM.out h0).2.2.2.2.2.2.2.2.2.1 (fun h => hl2 (by rw [← HN.out]; exact h))))
   go_wp2_with fail
   go_ret
   exact ⟨by rw [hf.out]; first | done | rfl, hb04⟩
  case pos =>
  have hl2I : decide ((nl : Int) < 2) = false := decide_eq_false (by omega)
  by_cases hl4 : nl ≤ 40
  case neg =>
   have hl4d : decide (40 < (nl : Int)) = true := decide_eq_true (by omega)
   have hf := Lib.hid (show r = false from Bool.eq_false_iff.2 (fun h0 => absurd (HFM.out h0).2.2.2.2.2.2.2.2.2.2.1 (fun h => hl4 (by rw [← HN.out]; exact h))))
   go_wp2_with fail
   go_ret
   exact ⟨by rw [hf.out]; first | done | rfl, hb04⟩
  case pos =>
  have hl4d : decide (40 < (nl : Int)) = false := decide_eq_false (by omega)
  go_wp2_with fail
  clear d6 hl4d hl2I
  go_loopw [5] (fun i wr => ∃ k : Nat, k ≤ nl ∧ i = .int .i64 (k : Int) ∧ Below w4.heap.size w4 wr ∧ ∀ j (hj : j < ls.length), j < k → lineB ne xe ls[j] = true) (fun i _ => nl - (intOf i).toNat)
  case atStart => exact ⟨0, by omega, rfl, Below.refl _ _, fun j hj h => by omega⟩
  case round =>
  obtain ⟨k, hk', rfl, hb, hall⟩ := hrel
  have HA := Lib.hid hall
  clear hall
  have hHr := (hb.block _ LT04).trans HH4.out
  have hZr := (hb.block _ LT14).trans HZ4.out
  have HV1 := Lib.hid (Nat.lt_of_lt_of_le LT14 hb.size)
  have HV0 := Lib.hid (Nat.lt_of_lt_of_le LT04 hb.size)
  have HATG := Lib.hid (box_at (cs := gl) hHr)
  have d1 := blk_cell hZr 1
  have d6 := blk_cell hZr 6
  clear hHr hZr
  by_cases hlt : k < nl
  case pos =>
   have hltI : (k : Int) < (nl : Int) := by omega
   have hkl : k < ls.length := by rw [HN.out]; exact hlt
   obtain ⟨b, o, es, hAe, hbw, hes, hat⟩ := ListC.get HL.out k hkl
   subst hAe
   have hes1 := (LineC.lit hes).1
   have hbd := (LineC.lit hes).2
   rw [hes1] at hat
   have HMEM := Lib.hid (List.getElem_mem hkl)
   obtain ⟨x, hx⟩ : ∃ x, ls[k] = x := ⟨_, rfl⟩
   rw [hx] at hat hbd HMEM
   have HX := Lib.hid hx
   obtain ⟨la, lm, lp⟩ := x
   try simp only at hat
   have HLP := Lib.hid (show intBd lp from hbd.2.2)
   obtain ⟨lv, hlv⟩ : ∃ v, lineB ne xe ⟨la, lm, lp⟩ = v := ⟨_, rfl⟩
   have HLV := Lib.hid hlv
   have hatw := (hat.fr (Fr.ofBelow hb04)).fr (Fr.ofBelow (hb.mono hb04.size))
   have hwr := Nat.le_trans hb04.size hb.size
   have HATL := Lib.hid (hatw.mono (fun q (hq : q < w.heap.size) => show q < wr.heap.size by omega))
   have D1 := Lib.hid d1
   have D6 := Lib.hid d6
   clear hes hes1 hat hatw hx hlv hbd d1
   go_wp2_with fail
   refine wp_region_inv (Ks wr [.val (.agg gl.toArray), .val (.pointer (some ⟨(w.heap.size + 1), 1, none⟩)), .val (.int .i64 xe), .val (.pointer (some ⟨(w.heap.size + 1), 6, none⟩)), .val (.slice (some ⟨b, o, none⟩) nl cl), .val (.int .i64 (k : Int)), .val (.pointer (some ⟨b, o + k * 3, none⟩)), .val (.agg #[.int .i64 la, .int .i64 lm, .int .i64 lp]), .val (.bool lv), .val (.bool (!lv))])
    (fun w' => Below wr.heap.size wr w') (by kernel_rfl) (by kernel_rfl) (by kernel_rfl) (Below.refl _ _).drew ?_ ?_
   · refine ⟨?_, ?_, ?_, ?_, ?_, ?_, ?_, ?_, ?_, ?_, trivial⟩
     · intro _ A0 w2 hI hd hnd K hK; have e0 := hI.q hnd 2; have hS := hI.world; have hrange : w2.rangeAt w.heap.size 0 gl := (HATG.out.fr (Fr.ofBelow hS)).range
       have hisize := HGI.out
       refine wanted_go rfl ?_; clear hI hd hnd
       refine wp_load_mid 29 (.tmp 2) rfl _ _ (by simpa [Act.eval, Array.getD_eq_getD_getElem?] using e0) _ _ hrange Tryz.underlying29 rfl hisize ?_
       exact kq hK hS rfl
     · intro _ A0 w2 hI hd hnd K hK; have e0 := hI.q hnd 3; exact hI.z hK
     · intro _ A0 w2 hI hd hnd K hK; have e0 := hI.p hd 1 81; have hS := hI.world; have hcc : w2.cell? ⟨w.heap.size + 1, 1, none⟩ = _ := (hS.cell (p := ⟨w.heap.size + 1, 1, none⟩) HV1.out).trans D1.out; exact hI.z hK
     · intro _ A0 w2 hI hd hnd K hK; have e0 := hI.q hnd 3; exact hI.z hK
     · intro _ A0 w2 hI hd hnd K hK; have e0 := hI.p hd 3 83; have hS := hI.world; have hcc : w2.cell? ⟨w.heap.size + 1, 6, none⟩ = _ := (hS.cell (p := ⟨w.heap.size + 1, 6, none⟩) HV1.out).trans D6.out; exact hI.z hK
     · intro _ A0 w2 hI hd hnd K hK; have e0 := hI.q hnd 5; exact hI.z hK
     · intro _ A0 w2 hI hd hnd K hK; have e0 := hI.p hd 4 84; have e1 := hI.p hd 5 85; exact hI.z hK
     · intro _ A0 w2 hI hd hnd K hK; have e0 := hI.p hd 6 86; have hS := hI.world; have hrange : w2.rangeAt b (o + k * 3) [.int .i64 la, .int .i64 lm, .int .i64 lp] := (HATL.out.fr (Fr.ofBelow hS)).range; have hisize := info_line; refine wanted_go rfl ?_; clear hI hd hnd
       refine wp_load_mid 76 (.tmp 86) rfl _ _ (by simpa [Act.eval, Array.getD_eq_getD_getElem?] using e0) _ _ hrange Tryz.underlying76 rfl hisize ?_
       exact kq hK hS rfl
     · intro _ A0 w2 hI hd hnd K hK; have e0 := hI.p hd 0 80; have e1 := hI.p hd 2 82; have e2 := hI.p hd 7 87; have hS := hI.world; refine wanted_go rfl ?_; clear hI hd hnd; go_simp
       go_at_call 166
       refine (rline_c gl.toArray Ae ne ce xe la lm lp w2 HGS.out HG20.out he0 HLP.out).mono ?_
       rintro e w3 ⟨rfl, h3⟩
       exact hK.out _ _ (hS.trans (h3.mono hS.size)) (Ks.of rfl (congrArg Value.bool HLV.out)) (Ks.keep h3)
     · intro _ A0 w2 hI hd hnd K hK; have e0 := hI.p hd 8 88; exact hI.z hK
   · intro _ A0 w2 hI hall; have hS := hI.world; have c9 := hI.ch hall [80, 81, 82, 83, 84, 85, 86, 87, 88, 89]; obtain ⟨x0, x1, x2, x3, x4, x5, x6, x7, x8, x9, hA, hV⟩ := c9
     obtain rfl : x9 = .bool (!lv) := hV 9 _ _ rfl _ rfl
     clear hV hI hall
     simp only [setAll, List.foldl, List.setIfInBounds_toArray, List.set_cons_zero, List.set_cons_succ] at hA
     rw [hA]
     clear hA
     have hb2' := hb.trans (hS.mono hb.size)
     have d6' := (hS.cell (p := ⟨w.heap.size + 1, 6, none⟩) HV1.out).trans D6.out
     clear d6
     cases lv with
     | false =>
      have hf := Lib.hid (show r = false from Bool.eq_false_iff.2 (fun h0 => absurd (HFM.out h0).2.2.2.2.2.2.2.2.2.2.2 (fun h => absurd (h _ HMEM.out) (by rw [HLV.out]; decide))))
      go_wp2_with fail
      go_ret
      exact ⟨by rw [hf.out]; first | done | rfl, hb04.trans (hb2'.mono hb04.size)⟩
     | true =>
     clear hS
     go_wp2_with fail
     go_roundw
     case rel => exact ⟨k + 1, by omega, by go_num, hb2', fun j hj hjk => by
      rcases Nat.lt_or_ge j k with h | h
      · exact HA.out j hj h
      · have : j = k := by omega
        subst this
        rw [HX.out]
        exact HLV.out⟩
     case measure => first | exact meas_v hlt | (simp only [intOf]; omega)
  case neg =>
   have hltI : ¬ (k : Int) < (nl : Int) := by omega
   have HALL := Lib.hid (show ∀ l ∈ ls, lineB ne xe l = true from fun x hx => by
    obtain ⟨j, hj, rfl⟩ := List.getElem_of_mem hx
    exact HA.out j hj (by have := HN.out; omega))
   have hf := Lib.hid (show r = true from HFT.out ⟨by first | trivial | rfl, hid, he0, hen, hk1, hk3, HOF.out.1, HOF.out.2, HPT.out, by rw [HN.out]; exact hl2, by rw [HN.out]; exact hl4, HALL.out⟩)
   go_wp2_with fail
   go_ret
   exact ⟨by rw [hf.out]; first | done | rfl, hb04.trans (hb.mono hb04.size)⟩
 case neg =>
  have hk2 : (xk == 3) = false := by simpa using hk
  have hk5 : (xk != 3) = true := by simpa using hk
  have HK := Lib.hid hk
  clear hk
  by_cases ho : xo = 0
  case neg =>
   have ho2 : (xo != 0) = true := by simpa using ho
   have HNO := Lib.hid (show ¬ (xk ≠ 3 → xo = 0) from fun h => ho (h HK.out))
   have hf := Lib.hid (show r = false from Bool.eq_false_iff.2 (fun h0 => absurd (HFM.out h0).2.2.2.2.2.2.2.1 HNO.out))
   go_wp2_with fail
   go_ret
   exact ⟨by rw [hf.out]; first | done | rfl, hb03⟩
  case pos =>
  have ho2 : (xo != 0) = false := by simpa using ho
  have HOF := Lib.hid (show (xk = 3 → 1 ≤ xo) ∧ (xk ≠ 3 → xo = 0) from ⟨fun h => absurd h HK.out, fun _ => ho⟩)
  clear ho
  obtain ⟨pt, hpt⟩ : ∃ v, printB xt = v := ⟨_, rfl⟩
  have HPC := Lib.hid (fun w2 : World => rplain_c xt w2 hts)
  rw [hpt] at HPC
  have HPT := Lib.hid hpt
  clear hpt
  go_wp2_with fail
  refine (HPC.out w3).mono ?_
  rintro e w4 ⟨rfl, hb4⟩
  clear hk2 hk5 ho2
  have hb04 := hb03.trans (hb4.mono hb03.size)
  have hs4 := hb4.size
  have LT04 := Nat.lt_of_lt_of_le LT03 hs4
  have LT14 := Nat.lt_of_lt_of_le LT13 hs4
  have HH4 := Lib.hid ((hb4.block _ LT03).trans HH3.out)
  have HZ4 := Lib.hid ((hb4.block _ LT13).trans HZ3.out)
  have d6 := blk_cell HZ4.out 6
  cases pt with
  | false =>
   have hf := Lib.hid (show r = false from Bool.eq_false_iff.2 (fun h0 => absurd (HFM.out h0).2.2.2.2.2.2.2.2.1 (by rw [HPT.out]; decide)))
   go_wp2_with fail
   go_ret
   exact ⟨by rw [hf.out]; first | done | rfl, hb04⟩
  | true =>
  by_cases hl2 : 2 ≤ nl
  case neg =>
   have hl2I : decide ((nl : Int) < 2) = true := decide_eq_true (by omega)
   have hf := Lib.hid (show r = false from Bool.eq_false_iff.2 (fun h0 => absurd (HFM.out h0).2.2.2.2.2.2.2.2.2.1 (fun h => hl2 (by rw [← HN.out]; exact h))))
   go_wp2_with fail
   go_ret
   exact ⟨by rw [hf.out]; first | done | rfl, hb04⟩
  case pos =>
  have hl2I : decide ((nl : Int) < 2) = false := decide_eq_false (by omega)
  by_cases hl4 : nl ≤ 40
  case neg =>
   have hl4d : decide (40 < (nl : Int)) = true := decide_eq_true (by omega)
   have hf := Lib.hid (show r = false from Bool.eq_false_iff.2 (fun h0 => absurd (HFM.out h0).2.2.2.2.2.2.2.2.2.2.1 (fun h => hl4 (by rw [← HN.out]; exact h))))
   go_wp2_with fail
   go_ret
   exact ⟨by rw [hf.out]; first | done | rfl, hb04⟩
  case pos =>
  have hl4d : decide (40 < (nl : Int)) = false := decide_eq_false (by omega)
  go_wp2_with fail
  clear d6 hl4d hl2I
  go_loopw [5] (fun i wr => ∃ k : Nat, k ≤ nl ∧ i = .int .i64 (k : Int) ∧ Below w4.heap.size w4 wr ∧ ∀ j (hj : j < ls.length), j < k → lineB ne xe ls[j] = true) (fun i _ => nl - (intOf i).toNat)
  case atStart => exact ⟨0, by omega, rfl, Below.refl _ _, fun j hj h => by omega⟩
  case round =>
  obtain ⟨k, hk', rfl, hb, hall⟩ := hrel
  have HA := Lib.hid hall
  clear hall
  have hHr := (hb.block _ LT04).trans HH4.out
  have hZr := (hb.block _ LT14).trans HZ4.out
  have HV1 := Lib.hid (Nat.lt_of_lt_of_le LT14 hb.size)
  have HV0 := Lib.hid (Nat.lt_of_lt_of_le LT04 hb.size)
  have HATG := Lib.hid (box_at (cs := gl) hHr)
  have d1 := blk_cell hZr 1
  have d6 := blk_cell hZr 6
  clear hHr hZr
  by_cases hlt : k < nl
  case pos =>
   have hltI : (k : Int) < (nl : Int) := by omega
   have hkl : k < ls.length := by rw [HN.out]; exact hlt
   obtain ⟨b, o, es, hAe, hbw, hes, hat⟩ := ListC.get HL.out k hkl
   subst hAe
   have hes1 := (LineC.lit hes).1
   have hbd := (LineC.lit hes).2
   rw [hes1] at hat
   have HMEM := Lib.hid (List.getElem_mem hkl)
   obtain ⟨x, hx⟩ : ∃ x, ls[k] = x := ⟨_, rfl⟩
   rw [hx] at hat hbd HMEM
   have HX := Lib.hid hx
   obtain ⟨la, lm, lp⟩ := x
   try simp only at hat
   have HLP := Lib.hid (show intBd lp from hbd.2.2)
   obtain ⟨lv, hlv⟩ : ∃ v, lineB ne xe ⟨la, lm, lp⟩ = v := ⟨_, rfl⟩
   have HLV := Lib.hid hlv
   have hatw := (hat.fr (Fr.ofBelow hb04)).fr (Fr.ofBelow (hb.mono hb04.size))
   have hwr := Nat.le_trans hb04.size hb.size
   have HATL := Lib.hid (hatw.mono (fun q (hq : q < w.heap.size) => show q < wr.heap.size by omega))
   have D1 := Lib.hid d1
   have D6 := Lib.hid d6
   clear hes hes1 hat hatw hx hlv hbd d1
   go_wp2_with fail
   refine wp_region_inv (Ks wr [.val (.agg gl.toArray), .val (.pointer (some ⟨(w.heap.size + 1), 1, none⟩)), .val (.int .i64 xe), .val (.pointer (some ⟨(w.heap.size + 1), 6, none⟩)), .val (.slice (some ⟨b, o, none⟩) nl cl), .val (.int .i64 (k : Int)), .val (.pointer (some ⟨b, o + k * 3, none⟩)), .val (.agg #[.int .i64 la, .int .i64 lm, .int .i64 lp]), .val (.bool lv), .val (.bool (!lv))])
    (fun w' => Below wr.heap.size wr w') (by kernel_rfl) (by kernel_rfl) (by kernel_rfl) (Below.refl _ _).drew ?_ ?_
   · refine ⟨?_, ?_, ?_, ?_, ?_, ?_, ?_, ?_, ?_, ?_, trivial⟩
     · intro _ A0 w2 hI hd hnd K hK; have e0 := hI.q hnd 2; have hS := hI.world; have hrange : w2.rangeAt w.heap.size 0 gl := (HATG.out.fr (Fr.ofBelow hS)).range
       have hisize := HGI.out
       refine wanted_go rfl ?_; clear hI hd hnd
       refine wp_load_mid 29 (.tmp 2) rfl _ _ (by simpa [Act.eval, Array.getD_eq_getD_getElem?] using e0) _ _ hrange Tryz.underlying29 rfl hisize ?_
       exact kq hK hS rfl
     · intro _ A0 w2 hI hd hnd K hK; have e0 := hI.q hnd 3; exact hI.z hK
     · intro _ A0 w2 hI hd hnd K hK; have e0 := hI.p hd 1 81; have hS := hI.world; have hcc : w2.cell? ⟨w.heap.size + 1, 1, none⟩ = _ := (hS.cell (p := ⟨w.heap.size + 1, 1, none⟩) HV1.out).trans D1.out; exact hI.z hK
     · intro _ A0 w2 hI hd hnd K hK; have e0 := hI.q hnd 3; exact hI.z hK
     · intro _ A0 w2 hI hd hnd K hK; have e0 := hI.p hd 3 83; have hS := hI.world; have hcc : w2.cell? ⟨w.heap.size + 1, 6, none⟩ = _ := (hS.cell (p := ⟨w.heap.size + 1, 6, none⟩) HV1.out).trans D6.out; exact hI.z hK
     · intro _ A0 w2 hI hd hnd K hK; have e0 := hI.q hnd 5; exact hI.z hK
     · intro _ A0 w2 hI hd hnd K hK; have e0 := hI.p hd 4 84; have e1 := hI.p hd 5 85; exact hI.z hK
     · intro _ A0 w2 hI hd hnd K hK; have e0 := hI.p hd 6 86; have hS := hI.world; have hrange : w2.rangeAt b (o + k * 3) [.int .i64 la, .int .i64 lm, .int .i64 lp] := (HATL.out.fr (Fr.ofBelow hS)).range; have hisize := info_line; refine wanted_go rfl ?_; clear hI hd hnd
       refine wp_load_mid 76 (.tmp 86) rfl _ _ (by simpa [Act.eval, Array.getD_eq_getD_getElem?] using e0) _ _ hrange Tryz.underlying76 rfl hisize ?_
       exact kq hK hS rfl
     · intro _ A0 w2 hI hd hnd K hK; have e0 := hI.p hd 0 80; have e1 := hI.p hd 2 82; have e2 := hI.p hd 7 87; have hS := hI.world; refine wanted_go rfl ?_; clear hI hd hnd; go_simp
       go_at_call 166
       refine (rline_c gl.toArray Ae ne ce xe la lm lp w2 HGS.out HG20.out he0 HLP.out).mono ?_
       rintro e w3 ⟨rfl, h3⟩
       exact hK.out _ _ (hS.trans (h3.mono hS.size)) (Ks.of rfl (congrArg Value.bool HLV.out)) (Ks.keep h3)
     · intro _ A0 w2 hI hd hnd K hK; have e0 := hI.p hd 8 88; exact hI.z hK
   · intro _ A0 w2 hI hall; have hS := hI.world; have c9 := hI.ch hall [80, 81, 82, 83, 84, 85, 86, 87, 88, 89]; obtain ⟨x0, x1, x2, x3, x4, x5, x6, x7, x8, x9, hA, hV⟩ := c9
     obtain rfl : x9 = .bool (!lv) := hV 9 _ _ rfl _ rfl
     clear hV hI hall
     simp only [setAll, List.foldl, List.setIfInBounds_toArray, List.set_cons_zero, List.set_cons_succ] at hA
     rw [hA]
     clear hA
     have hb2' := hb.trans (hS.mono hb.size)
     have d6' := (hS.cell (p := ⟨w.heap.size + 1, 6, none⟩) HV1.out).trans D6.out
     clear d6
     cases lv with
     | false =>
      have hf := Lib.hid (show r = false from Bool.eq_false_iff.2 (fun h0 => absurd (HFM.out h0).2.2.2.2.2.2.2.2.2.2.2 (fun h => absurd (h _ HMEM.out) (by rw [HLV.out]; decide))))
      go_wp2_with fail
      go_ret
      exact ⟨by rw [hf.out]; first | done | rfl, hb04.trans (hb2'.mono hb04.size)⟩
     | true =>
     clear hS
     go_wp2_with fail
     go_roundw
     case rel => exact ⟨k + 1, by omega, by go_num, hb2', fun j hj hjk => by
      rcases Nat.lt_or_ge j k with h | h
      · exact HA.out j hj h
      · have : j = k := by omega
        subst this
        rw [HX.out]
        exact HLV.out⟩
     case measure => first | exact meas_v hlt | (simp only [intOf]; omega)
  case neg =>
   have hltI : ¬ (k : Int) < (nl : Int) := by omega
   have HALL := Lib.hid (show ∀ l ∈ ls, lineB ne xe l = true from fun x hx => by
    obtain ⟨j, hj, rfl⟩ := List.getElem_of_mem hx
    exact HA.out j hj (by have := HN.out; omega))
   have hf := Lib.hid (show r = true from HFT.out ⟨by first | trivial | rfl, hid, he0, hen, hk1, hk3, HOF.out.1, HOF.out.2, HPT.out, by rw [HN.out]; exact hl2, by rw [HN.out]; exact hl4, HALL.out⟩)
   go_wp2_with fail
   go_ret
   exact ⟨by rw [hf.out]; first | done | rfl, hb04.trans (hb.mono hb04.size)⟩
theorem GroupC.view {w : World} {Q : Nat → Prop} {cs : List Value} {g : XGroup} (h : GroupC w Q cs g) : ∃ Ac cc Ae ce, cs.length = 21 ∧ cs[20]? = some (.slice Ae g.entities.length ce) ∧ cs[4]? = some (.slice Ac g.chart.length cc) ∧
 cs[1]? = some (.int .i64 g.calendar.year) ∧ cs[2]? = some (.int .i64 g.calendar.month) ∧ cs[3]? = some (.int .i64 g.calendar.periods) ∧ ListC AccountC 4 w Q [.slice Ac g.chart.length cc] g.chart ∧ ListC EntityC 5 w Q [.slice Ae g.entities.length ce] g.entities := by
 have hl := h.len
 obtain ⟨Ac, cc, Ae, ce, e, h1, h2, _⟩ := h.lit
 subst e
 exact ⟨Ac, cc, Ae, ce, hl, rfl, rfl, rfl, rfl, rfl, h1, h2⟩
def chartedB (ch : List XAccount) (ls : List XLine) : Bool := ls.all (fun l => (findA ch l.account).isSome)
theorem charted_no {ch : List XAccount} {ls : List XLine} {x : XLine} (hx : x ∈ ls) (h : (findA ch x.account).isSome = false) : chartedB ch ls = false := by
 unfold chartedB
 rw [List.all_eq_false]
 exact ⟨x, hx, by rw [h]; decide⟩
set_option maxHeartbeats 4000000 in
theorem charted_c (g : XGroup) (gl : List Value) (q : Nat) (xi xd xk xo : Int) (xt : ByteArray) (ls : List XLine) (Al : Option Addr) (cl : Nat) (w : World) (hg : GroupC w (· < w.heap.size) gl g) (hsm : smallG g) (hq : q < g.entities.length) (hl : ListC LineC 3 w (· < w.heap.size) [.slice Al ls.length cl] ls) (hls : ls.length ≤ 40) : Calls Tryz.prog 139 #[.agg gl.toArray, .agg #[.int .i64 xi, .int .i64 (q : Int), .int .i64 xd, .int .i64 xk, .int .i64 xo, .string xt, .slice Al ls.length cl]] w (Quiet w (.int .i64 (if chartedB g.entities[q].chart ls = true then 0 else 17))) := by
 obtain ⟨r, hr⟩ : ∃ r, chartedB g.entities[q].chart ls = r := ⟨_, rfl⟩
 rw [hr]
 obtain ⟨Ac, cc, Ae, ce, hl21, h20, _, _, _, _, _, hen⟩ := hg.view
 obtain ⟨be, oe, es, hAe, hbe, hes, hat⟩ := ListC.get hen q hq
 subst hAe
 obtain ⟨Ec, c2, Al2, cl2, hes1, hch, _⟩ := EntityC.lit hes
 have hn2 := (hsm.2.2.2 _ (List.getElem_mem hq)).1
 obtain ⟨ec, hec⟩ : ∃ ec, g.entities[q].chart = ec := ⟨_, rfl⟩
 rw [hec] at hr hes1 hch hn2
 obtain ⟨n2, hn2'⟩ : ∃ n, ec.length = n := ⟨_, rfl⟩
 rw [hn2'] at hes1
 subst hes1
 obtain ⟨ne, hne⟩ : ∃ n, g.entities.length = n := ⟨_, rfl⟩
 rw [hne] at h20 hq
 have hne1 : ne ≤ 1000 := by rw [← hne]; exact hsm.2.1
 have HR := Lib.hid hr
 have HN2 := Lib.hid hn2'
 have HN3 := Lib.hid hn2
 have HCH := Lib.hid hch
 have HDE := Lib.hid (hat.c (j := 2) rfl)
 have HBE := Lib.hid hbe
 have HL := Lib.hid hl
 obtain ⟨nl, hnl⟩ : ∃ n, ls.length = n := ⟨_, rfl⟩
 have HN := Lib.hid hnl
 have hn4 : nl ≤ 40 := by rw [← hnl]; exact hls
 rw [hnl]
 have HG20 := Lib.hid (show gl.toArray[20]? = some (.slice (some ⟨be, oe, none⟩) ne ce) by simpa using h20)
 have HGS := Lib.hid (show gl.toArray.size = 21 by simpa using hl21)
 clear hr hn2' hn2 hch hat hbe hl hnl h20 hl21 hen hes hne hec hls hsm hg
 obtain ⟨R, hR⟩ : ∃ R : Int, (if r = true then (0 : Int) else 17) = R := ⟨_, rfl⟩
 rw [hR]
 have HE := Lib.hid hR.symm
 clear hR
 go_enter Tryz.func139, Tryz.ntmps139
 go_upto_region 1 with fail
 have H := heap_alloc_new w (.cells gl.toArray 29)
 have HB := below1 w (.cells gl.toArray 29)
 have HS := blk_lt H
 generalize hW : w.alloc (Obj.cells gl.toArray 29) = W at *
 have H2 := heap_alloc_new W (.cells #[.int .i64 xi, .int .i64 (q : Int), .int .i64 xd, .int .i64 xk, .int .i64 xo, .string xt, .slice Al nl cl] 46)
 have HB2 := below1 W (.cells #[.int .i64 xi, .int .i64 (q : Int), .int .i64 xd, .int .i64 xk, .int .i64 xo, .string xt, .slice Al nl cl] 46)
 have HS2 := blk_lt H2
 replace H := alloc_keep H (Obj.cells #[.int .i64 xi, .int .i64 (q : Int), .int .i64 xd, .int .i64 xk, .int .i64 xo, .string xt, .slice Al nl cl] 46)
 generalize hW2 : W.alloc (Obj.cells #[.int .i64 xi, .int .i64 (q : Int), .int .i64 xd, .int .i64 xk, .int .i64 xo, .string xt, .slice Al nl cl] 46) = W2 at *
 clear hW2
 have eW : W.heap.size = w.heap.size + 1 := by rw [← hW]; simp
 rw [eW] at H2
 clear hW
 have hb2 := HB.trans (HB2.mono HB.size)
 have hs2 := HB2.size
 have LT1 := blk_lt H2
 have LT0 : w.heap.size < W2.heap.size := by omega
 have HH := Lib.hid H
 have HZ := Lib.hid H2
 have EW := Lib.hid eW
 clear H H2 eW
 have e6 := blk_cell HZ.out 6
 go_wp2_with fail
 clear e6
 go_loopw [12] (fun i wr => ∃ k : Nat, k ≤ nl ∧ i = .int .i64 (k : Int) ∧ Below W2.heap.size W2 wr ∧ ∀ j (hj : j < ls.length), j < k → (findA ec ls[j].account).isSome = true) (fun i _ => nl - (intOf i).toNat)
 case atStart => exact ⟨0, by omega, rfl, Below.refl _ _, fun j hj h => by omega⟩
 case round =>
  obtain ⟨k, hk', rfl, hb, hall⟩ := hrel
  have HA := Lib.hid hall
  clear hall
  by_cases hlt : k < nl
  case pos =>
   have hltI : (k : Int) < (nl : Int) := by omega
   have hkl : k < ls.length := by rw [HN.out]; exact hlt
   obtain ⟨b, o, es, hAe, hbw, hes, hat⟩ := ListC.get HL.out k hkl
   subst hAe
   have hes1 := (LineC.lit hes).1
   have hbd := (LineC.lit hes).2
   rw [hes1] at hat
   have HMEM := Lib.hid (List.getElem_mem hkl)
   obtain ⟨x, hx⟩ : ∃ x, ls[k] = x := ⟨_, rfl⟩
   rw [hx] at hat hbd HMEM
   have HX := Lib.hid hx
   obtain ⟨la, lm, lp⟩ := x
   try simp only at hat
   have HLA := Lib.hid (show intBd la from hbd.1)
   have hatw := (hat.fr (Fr.ofBelow hb2)).fr (Fr.ofBelow (hb.mono hb2.size))
   have hHr := (hb.block _ LT0).trans HH.out
   have hZr := (hb.block _ LT1).trans HZ.out
   have HV0r := Lib.hid (Nat.lt_of_lt_of_le LT0 hb.size)
   have HV1r := Lib.hid (Nat.lt_of_lt_of_le LT1 hb.size)
   have hbw0 := hb2.trans (hb.mono hb2.size)
   obtain ⟨ao, hao⟩ : ∃ a, accO (findA ec la) = a := ⟨_, rfl⟩
   obtain ⟨p1, p2, p3, p4⟩ := ao
   have HFO := Lib.hid hao
   obtain ⟨fs, hfs⟩ : ∃ s, (findA ec la).isSome = s := ⟨_, rfl⟩
   have HFS := Lib.hid hfs
   clear hao hfs
   have HAR := Lib.hid hatw.range
   have hDEr := (hbw0.cell (p := ⟨be, oe + q * 5 + 2, none⟩) HBE.out).trans HDE.out
   clear hes hes1 hat hatw hx hbd
   go_upto_region 4 with (show wpList _ _ _ (Oper.mk (some 15) _ _ _ _ _ :: _) _ _; refine wpList_load_mid rfl 76 (.tmp 14) rfl b (o + k * 3) rfl [.int .i64 la, .int .i64 lm, .int .i64 lp] _ HAR.out Tryz.underlying76 rfl info_line ?_)
   have H6 := heap_alloc_new wr (.cells #[.int .i64 la, .int .i64 lm, .int .i64 lp] 76)
   have HB6 := below1 wr (.cells #[.int .i64 la, .int .i64 lm, .int .i64 lp] 76)
   have HS6 := blk_lt H6
   generalize hW6 : wr.alloc (Obj.cells #[.int .i64 la, .int .i64 lm, .int .i64 lp] 76) = W6 at *
   clear hW6
   have C0 := Lib.hid (blk_cell H6 0)
   clear H6
   have HBW := Lib.hid (hbw0.trans (HB6.mono hbw0.size))
   have HV0 := Lib.hid (Nat.lt_of_lt_of_le HV0r.out HB6.size)
   have HV1 := Lib.hid (Nat.lt_of_lt_of_le HV1r.out HB6.size)
   have HVE := Lib.hid (show be < W6.heap.size by have := HBW.out.size; have := HBE.out; omega)
   have D20 := Lib.hid ((HB6.cell (p := ⟨w.heap.size, 20, none⟩) HV0r.out).trans ((blk_cell hHr 20).trans HG20.out))
   have D1 := Lib.hid ((HB6.cell (p := ⟨w.heap.size + 1, 1, none⟩) HV1r.out).trans (blk_cell hZr 1))
   have DE := Lib.hid ((HB6.cell (p := ⟨be, oe + q * 5 + 2, none⟩) (show be < wr.heap.size by have := hbw0.size; have := HBE.out; omega)).trans hDEr)
   have hb6 := hb.trans (HB6.mono hb.size)
   clear hHr hZr hDEr
   have hqI : (q : Int) < (ne : Int) := by omega
   cases fs with
   | false =>
    have hf := Lib.hid (show r = false from HR.out.symm.trans (charted_no HMEM.out HFS.out))
    refine wp_region_inv6 14 (fun i => i == 12) (Ks W6 [.val (.pointer (some ⟨w.heap.size, 20, none⟩)), .val (.slice (some ⟨be, oe, none⟩) ne ce), .val (.pointer (some ⟨(w.heap.size + 1), 1, none⟩)), .val (.int .i64 (q : Int)), .val (.pointer (some ⟨be, oe + q * 5, none⟩)), .val (.pointer (some ⟨be, oe + q * 5 + 2, none⟩)), .val (.slice Ec n2 c2), .val (.pointer (some ⟨wr.heap.size, 0, none⟩)), .val (.int .i64 la), .val (.tuple #[.agg #[.int .i64 p1, .int .i64 p2, .int .i64 p3, .int .i64 p4], .bool false]), .val (.tuple #[.agg #[.int .i64 p1, .int .i64 p2, .int .i64 p3, .int .i64 p4], .bool false]), .val (.agg #[.int .i64 p1, .int .i64 p2, .int .i64 p3, .int .i64 p4]), .val (.bool false), .own (IsNew W6 #[.int .i64 0, .int .i64 0, .int .i64 0, .int .i64 0] 87) (IsNew.keep _ _ _)])
     (fun w' => Below W6.heap.size W6 w') (Ks W6 [.val (.pointer (some ⟨w.heap.size, 20, none⟩)), .val (.slice (some ⟨be, oe, none⟩) ne ce), .val (.pointer (some ⟨(w.heap.size + 1), 1, none⟩)), .val (.int .i64 (q : Int)), .val (.pointer (some ⟨be, oe + q * 5, none⟩)), .val (.pointer (some ⟨be, oe + q * 5 + 2, none⟩)), .val (.slice Ec n2 c2), .val (.pointer (some ⟨wr.heap.size, 0, none⟩)), .val (.int .i64 la), .val (.tuple #[.agg #[.int .i64 p1, .int .i64 p2, .int .i64 p3, .int .i64 p4], .bool false]), .val (.tuple #[.agg #[.int .i64 p1, .int .i64 p2, .int .i64 p3, .int .i64 p4], .bool false]), .val (.agg #[.int .i64 p1, .int .i64 p2, .int .i64 p3, .int .i64 p4]), .val (.bool false), .own (IsNew W6 #[.int .i64 p1, .int .i64 p2, .int .i64 p3, .int .i64 p4] 87) (IsNew.keep _ _ _)])
     (fun w' => Below W6.heap.size W6 w') (by kernel_rfl) (by kernel_rfl) (by kernel_rfl) (by decide) (by kernel_rfl) (by kernel_rfl) (by kernel_rfl) (by kernel_rfl) rfl (by kernel_rfl) _ rfl rfl (Below.refl _ _).drew ?_ ?_ ?_ ?_
    · refine ⟨?_, ?_, ?_, ?_, ?_, ?_, ?_, ?_, ?_, ?_, ?_, ?_, ?_, ?_, trivial⟩
      · intro _ A0 w2 hI hd hnd K hK; have e0 := hI.q hnd 2; exact hI.z hK
      · intro _ A0 w2 hI hd hnd K hK; have e0 := hI.p hd 0 17; have hS := hI.world; have hcc : w2.cell? ⟨w.heap.size, 20, none⟩ = _ := (hS.cell (p := ⟨w.heap.size, 20, none⟩) HV0.out).trans D20.out; exact hI.z hK
      · intro _ A0 w2 hI hd hnd K hK; have e0 := hI.q hnd 3; exact hI.z hK
      · intro _ A0 w2 hI hd hnd K hK; have e0 := hI.p hd 2 19; have hS := hI.world; have hcc : w2.cell? ⟨(w.heap.size + 1), 1, none⟩ = _ := (hS.cell (p := ⟨(w.heap.size + 1), 1, none⟩) HV1.out).trans D1.out; exact hI.z hK
      · intro _ A0 w2 hI hd hnd K hK; have e0 := hI.p hd 1 18; have e1 := hI.p hd 3 20; exact hI.z hK
      · intro _ A0 w2 hI hd hnd K hK; have e0 := hI.p hd 4 21; exact hI.z hK
      · intro _ A0 w2 hI hd hnd K hK; have e0 := hI.p hd 5 22; have hS := hI.world; have hcc : w2.cell? ⟨be, oe + q * 5 + 2, none⟩ = _ := (hS.cell (p := ⟨be, oe + q * 5 + 2, none⟩) HVE.out).trans DE.out; exact hI.z hK
      · intro _ A0 w2 hI hd hnd K hK; have e0 := hI.q hnd 6; exact hI.z hK
      · intro _ A0 w2 hI hd hnd K hK; have e0 := hI.p hd 7 24; have hS := hI.world; have hcc : w2.cell? ⟨wr.heap.size, 0, none⟩ = _ := (hS.cell (p := ⟨wr.heap.size, 0, none⟩) HS6).trans C0.out; exact hI.z hK
      · intro _ A0 w2 hI hd hnd K hK; have e0 := hI.p hd 6 23; have e1 := hI.p hd 8 25; have hS := hI.world; refine wanted_go rfl ?_; clear hI hd hnd; go_simp
        go_at_call 56
        refine (find_n HN2.out (chart_keep HCH.out (HBW.out.trans (hS.mono HBW.out.size))) HN3.out la HLA.out HFO.out HFS.out).mono ?_
        rintro e w3 ⟨rfl, h3⟩
        exact hK.out _ _ (hS.trans (h3.mono hS.size)) (Ks.of rfl rfl) (Ks.keep h3)
      · intro _ A0 w2 hI hd hnd K hK; have e0 := hI.p hd 9 26; exact hI.z hK
      iterate 2 (· intro _ A0 w2 hI hd hnd K hK; have e0 := hI.p hd 10 16; exact hI.z hK)
      · intro _ A0 w2 hI hd hnd K hK; have hS := hI.world; refine wanted_go rfl ?_; clear hI hd hnd; go_simp
        exact hK.out _ _ (hS.alloc hS.size _) (Ks.of rfl (IsNew.made hS.size _ _)) (Ks.keep (below1 w2 _))
    · intro _ A0 w2 hI hall K hK
      obtain ⟨xp, gp, hp⟩ := hI.got 13 _ 7 rfl rfl (hall 13 (by decide) rfl)
      obtain ⟨xv, gv, hv⟩ := hI.got 11 _ 27 rfl rfl (hall 11 (by decide) rfl)
      obtain ⟨g, rfl, hg1, hg2⟩ := hp _ rfl
      obtain rfl : xv = .agg #[.int .i64 p1, .int .i64 p2, .int .i64 p3, .int .i64 p4] := hv _ rfl
      have hS := hI.world; refine wanted_go rfl ?_
      refine wp_store_row 87 (.tmp 7) (.tmp 27) rfl g #[.int .i64 p1, .int .i64 p2, .int .i64 p3, .int .i64 p4] (by simp [Act.eval, Array.getD_eq_getD_getElem?, gp]) (by simp [Act.eval, Array.getD_eq_getD_getElem?, gv]) 87 #[.int .i64 0, .int .i64 0, .int .i64 0, .int .i64 0] hg2 (info_accS ⟨p1, p2, p3, p4⟩) rfl (by simp [Value.oneCell']) ?_
      refine hK _ (below_setRow hS hg1 _) ?_
      intro i o d u hi ho hd hu hV
      refine Ks.store (p := 13) (kn := _) rfl hV (fun hip => ?_)
      subst hip
      obtain rfl : _ = o := Option.some.inj ho
      obtain rfl : _ = d := Option.some.inj hd
      obtain rfl : _ = u := Option.some.inj (gp.symm.trans hu)
      exact ⟨g, rfl, hg1, heap_setRow hg2 _⟩
    · refine ⟨fun h => absurd h (by decide), fun h => absurd h (by decide), fun h => absurd h (by decide), fun h => absurd h (by decide), fun h => absurd h (by decide), fun h => absurd h (by decide), fun h => absurd h (by decide), fun h => absurd h (by decide), fun h => absurd h (by decide), fun h => absurd h (by decide), fun h => absurd h (by decide), fun h => absurd h (by decide), ?_, fun h => absurd h (by decide), fun h => absurd h (by decide), trivial⟩
      · intro _; intro _ A0 w2 hI hd hnd K hK; have e0 := hI.p hd 10 16; exact hI.z hK
    · intro A0 w2 hI
      obtain ⟨x0, g0, h0⟩ := hI.got 0 _ 17 rfl rfl rfl
      obtain ⟨x1, g1, h1⟩ := hI.got 1 _ 18 rfl rfl rfl
      obtain ⟨x2, g2, h2⟩ := hI.got 2 _ 19 rfl rfl rfl
      obtain ⟨x3, g3, h3⟩ := hI.got 3 _ 20 rfl rfl rfl
      obtain ⟨x4, g4, h4⟩ := hI.got 4 _ 21 rfl rfl rfl
      obtain ⟨x5, g5, h5⟩ := hI.got 5 _ 22 rfl rfl rfl
      obtain ⟨x6, g6, h6⟩ := hI.got 6 _ 23 rfl rfl rfl
      obtain ⟨x7, g7, h7⟩ := hI.got 7 _ 24 rfl rfl rfl
      obtain ⟨x8, g8, h8⟩ := hI.got 8 _ 25 rfl rfl rfl
      obtain ⟨x9, g9, h9⟩ := hI.got 9 _ 26 rfl rfl rfl
      obtain ⟨x10, g10, h10⟩ := hI.got 10 _ 16 rfl rfl rfl
      obtain ⟨x11, g11, h11⟩ := hI.got 11 _ 27 rfl rfl rfl
      obtain ⟨x12, g12, h12⟩ := hI.got 12 _ 28 rfl rfl rfl
      obtain ⟨x13, g13, h13⟩ := hI.got 13 _ 7 rfl rfl rfl
      have hS := hI.world
      obtain ⟨y8, o8⟩ : ∃ v, A0.tmps[8]? = some v := ⟨_, hI.oldHead 8 (by kernel_rfl)⟩
      have hA : A0 = _ := hI.tmps [(17, x0), (18, x1), (19, x2), (20, x3), (21, x4), (22, x5), (23, x6), (24, x7), (25, x8), (26, x9), (16, x10), (27, x11), (28, x12), (7, x13), (8, y8)] (by simp only [List.mem_cons, List.not_mem_nil, or_false, forall_eq_or_imp, forall_eq]; exact ⟨g0, g1, g2, g3, g4, g5, g6, g7, g8, g9, g10, g11, g12, g13, o8⟩) (by kernel_rfl)
      obtain rfl : x11 = .agg #[.int .i64 p1, .int .i64 p2, .int .i64 p3, .int .i64 p4] := h11 _ rfl
      obtain rfl : x12 = .bool false := h12 _ rfl
      obtain ⟨g, rfl, hg1, hg2⟩ := h13 _ rfl
      clear h0 g0 h1 g1 h2 g2 h3 g3 h4 g4 h5 g5 h6 g6 h7 g7 h8 g8 h9 g9 h10 g10 h11 g11 h12 g12 h13 g13 o8 hI
      simp only [setAll, List.foldl, List.setIfInBounds_toArray, List.set_cons_zero, List.set_cons_succ] at hA
      rw [hA]
      clear hA
      simp only [List.drop_succ_cons, List.drop_zero]
      have hwE := hb2.trans ((hb6.trans (hS.mono hb6.size)).mono hb2.size)
      clear hg2
      go_wp2_with fail
      go_ret
      exact ⟨by rw [HE.out, hf.out]; first | done | rfl, hwE⟩
   | true =>
    refine wp_region_inv6 14 (fun i => i == 12) (Ks W6 [.val (.pointer (some ⟨w.heap.size, 20, none⟩)), .val (.slice (some ⟨be, oe, none⟩) ne ce), .val (.pointer (some ⟨(w.heap.size + 1), 1, none⟩)), .val (.int .i64 (q : Int)), .val (.pointer (some ⟨be, oe + q * 5, none⟩)), .val (.pointer (some ⟨be, oe + q * 5 + 2, none⟩)), .val (.slice Ec n2 c2), .val (.pointer (some ⟨wr.heap.size, 0, none⟩)), .val (.int .i64 la), .val (.tuple #[.agg #[.int .i64 p1, .int .i64 p2, .int .i64 p3, .int .i64 p4], .bool true]), .val (.tuple #[.agg #[.int .i64 p1, .int .i64 p2, .int .i64 p3, .int .i64 p4], .bool true]), .val (.agg #[.int .i64 p1, .int .i64 p2, .int .i64 p3, .int .i64 p4]), .val (.bool true), .own (IsNew W6 #[.int .i64 0, .int .i64 0, .int .i64 0, .int .i64 0] 87) (IsNew.keep _ _ _)])
     (fun w' => Below W6.heap.size W6 w') (Ks W6 [.val (.pointer (some ⟨w.heap.size, 20, none⟩)), .val (.slice (some ⟨be, oe, none⟩) ne ce), .val (.pointer (some ⟨(w.heap.size + 1), 1, none⟩)), .val (.int .i64 (q : Int)), .val (.pointer (some ⟨be, oe + q * 5, none⟩)), .val (.pointer (some ⟨be, oe + q * 5 + 2, none⟩)), .val (.slice Ec n2 c2), .val (.pointer (some ⟨wr.heap.size, 0, none⟩)), .val (.int .i64 la), .val (.tuple #[.agg #[.int .i64 p1, .int .i64 p2, .int .i64 p3, .int .i64 p4], .bool true]), .val (.tuple #[.agg #[.int .i64 p1, .int .i64 p2, .int .i64 p3, .int .i64 p4], .bool true]), .val (.agg #[.int .i64 p1, .int .i64 p2, .int .i64 p3, .int .i64 p4]), .val (.bool true), .own (IsNew W6 #[.int .i64 p1, .int .i64 p2, .int .i64 p3, .int .i64 p4] 87) (IsNew.keep _ _ _)])
     (fun w' => Below W6.heap.size W6 w') (by kernel_rfl) (by kernel_rfl) (by kernel_rfl) (by decide) (by kernel_rfl) (by kernel_rfl) (by kernel_rfl) (by kernel_rfl) rfl (by kernel_rfl) _ rfl rfl (Below.refl _ _).drew ?_ ?_ ?_ ?_
    · refine ⟨?_, ?_, ?_, ?_, ?_, ?_, ?_, ?_, ?_, ?_, ?_, ?_, ?_, ?_, trivial⟩
      · intro _ A0 w2 hI hd hnd K hK; have e0 := hI.q hnd 2; exact hI.z hK
      · intro _ A0 w2 hI hd hnd K hK; have e0 := hI.p hd 0 17; have hS := hI.world; have hcc : w2.cell? ⟨w.heap.size, 20, none⟩ = _ := (hS.cell (p := ⟨w.heap.size, 20, none⟩) HV0.out).trans D20.out; exact hI.z hK
      · intro _ A0 w2 hI hd hnd K hK; have e0 := hI.q hnd 3; exact hI.z hK
      · intro _ A0 w2 hI hd hnd K hK; have e0 := hI.p hd 2 19; have hS := hI.world; have hcc : w2.cell? ⟨(w.heap.size + 1), 1, none⟩ = _ := (hS.cell (p := ⟨(w.heap.size + 1), 1, none⟩) HV1.out).trans D1.out; exact hI.z hK
      · intro _ A0 w2 hI hd hnd K hK; have e0 := hI.p hd 1 18; have e1 := hI.p hd 3 20; exact hI.z hK
      · intro _ A0 w2 hI hd hnd K hK; have e0 := hI.p hd 4 21; exact hI.z hK
      · intro _ A0 w2 hI hd hnd K hK; have e0 := hI.p hd 5 22; have hS := hI.world; have hcc : w2.cell? ⟨be, oe + q * 5 + 2, none⟩ = _ := (hS.cell (p := ⟨be, oe + q * 5 + 2, none⟩) HVE.out).trans DE.out; exact hI.z hK
      · intro _ A0 w2 hI hd hnd K hK; have e0 := hI.q hnd 6; exact hI.z hK
      · intro _ A0 w2 hI hd hnd K hK; have e0 := hI.p hd 7 24; have hS := hI.world; have hcc : w2.cell? ⟨wr.heap.size, 0, none⟩ = _ := (hS.cell (p := ⟨wr.heap.size, 0, none⟩) HS6).trans C0.out; exact hI.z hK
      · intro _ A0 w2 hI hd hnd K hK; have e0 := hI.p hd 6 23; have e1 := hI.p hd 8 25; have hS := hI.world; refine wanted_go rfl ?_; clear hI hd hnd; go_simp
        go_at_call 56
        refine (find_n HN2.out (chart_keep HCH.out (HBW.out.trans (hS.mono HBW.out.size))) HN3.out la HLA.out HFO.out HFS.out).mono ?_
        rintro e w3 ⟨rfl, h3⟩
        exact hK.out _ _ (hS.trans (h3.mono hS.size)) (Ks.of rfl rfl) (Ks.keep h3)
      · intro _ A0 w2 hI hd hnd K hK; have e0 := hI.p hd 9 26; exact hI.z hK
      iterate 2 (· intro _ A0 w2 hI hd hnd K hK; have e0 := hI.p hd 10 16; exact hI.z hK)
      · intro _ A0 w2 hI hd hnd K hK; have hS := hI.world; refine wanted_go rfl ?_; clear hI hd hnd; go_simp
        exact hK.out _ _ (hS.alloc hS.size _) (Ks.of rfl (IsNew.made hS.size _ _)) (Ks.keep (below1 w2 _))
    · intro _ A0 w2 hI hall K hK
      obtain ⟨xp, gp, hp⟩ := hI.got 13 _ 7 rfl rfl (hall 13 (by decide) rfl)
      obtain ⟨xv, gv, hv⟩ := hI.got 11 _ 27 rfl rfl (hall 11 (by decide) rfl)
      obtain ⟨g, rfl, hg1, hg2⟩ := hp _ rfl
      obtain rfl : xv = .agg #[.int .i64 p1, .int .i64 p2, .int .i64 p3, .int .i64 p4] := hv _ rfl
      have hS := hI.world; refine wanted_go rfl ?_
      refine wp_store_row 87 (.tmp 7) (.tmp 27) rfl g #[.int .i64 p1, .int .i64 p2, .int .i64 p3, .int .i64 p4] (by simp [Act.eval, Array.getD_eq_getD_getElem?, gp]) (by simp [Act.eval, Array.getD_eq_getD_getElem?, gv]) 87 #[.int .i64 0, .int .i64 0, .int .i64 0, .int .i64 0] hg2 (info_accS ⟨p1, p2, p3, p4⟩) rfl (by simp [Value.oneCell']) ?_
      refine hK _ (below_setRow hS hg1 _) ?_
      intro i o d u hi ho hd hu hV
      refine Ks.store (p := 13) (kn := _) rfl hV (fun hip => ?_)
      subst hip
      obtain rfl : _ = o := Option.some.inj ho
      obtain rfl : _ = d := Option.some.inj hd
      obtain rfl : _ = u := Option.some.inj (gp.symm.trans hu)
      exact ⟨g, rfl, hg1, heap_setRow hg2 _⟩
    · refine ⟨fun h => absurd h (by decide), fun h => absurd h (by decide), fun h => absurd h (by decide), fun h => absurd h (by decide), fun h => absurd h (by decide), fun h => absurd h (by decide), fun h => absurd h (by decide), fun h => absurd h (by decide), fun h => absurd h (by decide), fun h => absurd h (by decide), fun h => absurd h (by decide), fun h => absurd h (by decide), ?_, fun h => absurd h (by decide), fun h => absurd h (by decide), trivial⟩
      · intro _; intro _ A0 w2 hI hd hnd K hK; have e0 := hI.p hd 10 16; exact hI.z hK
    · intro A0 w2 hI
      obtain ⟨x0, g0, h0⟩ := hI.got 0 _ 17 rfl rfl rfl
      obtain ⟨x1, g1, h1⟩ := hI.got 1 _ 18 rfl rfl rfl
      obtain ⟨x2, g2, h2⟩ := hI.got 2 _ 19 rfl rfl rfl
      obtain ⟨x3, g3, h3⟩ := hI.got 3 _ 20 rfl rfl rfl
      obtain ⟨x4, g4, h4⟩ := hI.got 4 _ 21 rfl rfl rfl
      obtain ⟨x5, g5, h5⟩ := hI.got 5 _ 22 rfl rfl rfl
      obtain ⟨x6, g6, h6⟩ := hI.got 6 _ 23 rfl rfl rfl
      obtain ⟨x7, g7, h7⟩ := hI.got 7 _ 24 rfl rfl rfl
      obtain ⟨x8, g8, h8⟩ := hI.got 8 _ 25 rfl rfl rfl
      obtain ⟨x9, g9, h9⟩ := hI.got 9 _ 26 rfl rfl rfl
      obtain ⟨x10, g10, h10⟩ := hI.got 10 _ 16 rfl rfl rfl
      obtain ⟨x11, g11, h11⟩ := hI.got 11 _ 27 rfl rfl rfl
      obtain ⟨x12, g12, h12⟩ := hI.got 12 _ 28 rfl rfl rfl
      obtain ⟨x13, g13, h13⟩ := hI.got 13 _ 7 rfl rfl rfl
      have hS := hI.world
      obtain ⟨y8, o8⟩ : ∃ v, A0.tmps[8]? = some v := ⟨_, hI.oldHead 8 (by kernel_rfl)⟩
      have hA : A0 = _ := hI.tmps [(17, x0), (18, x1), (19, x2), (20, x3), (21, x4), (22, x5), (23, x6), (24, x7), (25, x8), (26, x9), (16, x10), (27, x11), (28, x12), (7, x13), (8, y8)] (by simp only [List.mem_cons, List.not_mem_nil, or_false, forall_eq_or_imp, forall_eq]; exact ⟨g0, g1, g2, g3, g4, g5, g6, g7, g8, g9, g10, g11, g12, g13, o8⟩) (by kernel_rfl)
      obtain rfl : x11 = .agg #[.int .i64 p1, .int .i64 p2, .int .i64 p3, .int .i64 p4] := h11 _ rfl
      obtain rfl : x12 = .bool true := h12 _ rfl
      obtain ⟨g, rfl, hg1, hg2⟩ := h13 _ rfl
      clear h0 g0 h1 g1 h2 g2 h3 g3 h4 g4 h5 g5 h6 g6 h7 g7 h8 g8 h9 g9 h10 g10 h11 g11 h12 g12 h13 g13 o8 hI
      simp only [setAll, List.foldl, List.setIfInBounds_toArray, List.set_cons_zero, List.set_cons_succ] at hA
      rw [hA]
      clear hA
      simp only [List.drop_succ_cons, List.drop_zero]
      have hwE := hb6.trans (hS.mono hb6.size)
      clear hg2
      go_wp2_with fail
      go_roundw
      case rel => exact ⟨k + 1, by omega, by go_num, hwE, fun j hj hjk => by
       rcases Nat.lt_or_ge j k with h | h
       · exact HA.out j hj h
       · have : j = k := by omega
         subst this
         rw [HX.out]
         exact HFS.out⟩
      case measure => first | exact meas_v hlt | (simp only [intOf]; omega)
  case neg =>
   have hltI : ¬ (k : Int) < (nl : Int) := by omega
   have hf := Lib.hid (show r = true from HR.out.symm.trans (by
    unfold chartedB
    rw [List.all_eq_true]
    intro x hx
    obtain ⟨j, hj, rfl⟩ := List.getElem_of_mem hx
    exact HA.out j hj (by have := HN.out; omega)))
   go_wp2_with fail
   go_ret
   exact ⟨by rw [HE.out, hf.out]; first | done | rfl, hb2.trans (hb.mono hb2.size)⟩
end Go.Proofs.YtekelchdbkjjjaaGreat
