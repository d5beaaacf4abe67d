/- The walk of the law LockBeginnings. Written by gen_k10.py. -/
import Derived.Test.YtebdajkknkapcaaG7xB0B2
import Derived.Test.YtebdajkknkapcaaG7xB3B8
import Derived.Test.YtebdajkknkapcaaG7xB9B13
import Derived.Test.YtebdajkknkapcaaG7xB14
import Derived.Test.YtebdajkknkapcaaG7xB16
import Derived.Test.YtebdajkknkapcaaG7xB17B24
import Derived.Test.YtebdajkknkapcaaG7xB29B32
import Derived.Test.YtebdajkknkapcaaG7xB33C3
import Derived.Test.YtebdajkknkapcaaG7xC4I15
import Derived.Test.YtebdajkknkapcaaG7xI16Q2
import Derived.Test.YtebdajkknkapcaaG7xK1K12
import Derived.Test.YtebdajkknkapcaaG7xT1K9
import Derived.Test.YtebdajkknkapcaaProg
set_option linter.unusedVariables false
set_option linter.unusedSimpArgs false
set_option maxRecDepth 4000
attribute [local go_sem ↓] Go.wp_at_zero Go.wp_at_succ
namespace Go.Proofs.Ytebdajkknkapcaa
open Go Go.RowKit
theorem info_stepA : (Try.prog.info? 37).map (fun i => (i.zero, i.size, i.bytes)) = some (some (.agg #[.int .i64 0, .int .i64 0, .bool false]), 3, 24) := by kernel_rfl
theorem steps_uty : Try.prog.underlying 30 = some (.slice 37) := by kernel_rfl
theorem groupB_cal {g : XGroup} (h : groupB g = true) : calB g.calendar.year g.calendar.month g.calendar.periods = true := by
 unfold groupB at h
 simp only [Bool.and_eq_true] at h
 exact h.1.1.1.1.2
theorem allF_pos {p ne : Int} {l : List XStep} (hp : p ≤ 120) : ∀ c, allF p ne l c = true → 0 ≤ c.1.2 ∧ c.1.2 ≤ 1000 := fun c hc => by
 have := (allF_range p ne l c hc).2
 omega
theorem stepC_of {w : World} {Q : Nat → Prop} {x : XStep} (h : bdS x) : StepC w Q (stepL x) x := ⟨[_], [_], [_], rfl, ⟨rfl, h.1⟩, ⟨rfl, h.2⟩, rfl⟩
set_option maxHeartbeats 8000000 in
theorem law_lockBeginnings (g : XGroup) (l : List XStep) (gl : List Value) (A : Option Addr) (c : Nat) (a0 a1 a2 : Int) (w : World) (hg : GroupC w (· < w.heap.size) gl g) (hsz : szG g) (hl : ListC StepC 3 w (· < w.heap.size) [.slice A l.length c] l) (hab : intBd a0 ∧ intBd a1 ∧ intBd a2) :
 Calls Try.prog 3 #[.agg gl.toArray, .slice A l.length c, .agg #[.int .i64 a0, .int .i64 a1, .int .i64 a2]] w (Quiet w (.bool true)) := by
 obtain ⟨ia, hia, hzia, hsia, hbia⟩ := info_parts info_stepA
 have HFEW := Lib.hid (fun (w2 : World) (hb : Below w.heap.size w w2) => few_v hg hsz hb)
 have HVAL := Lib.hid (fun (hf : fewG g) => rgroup_v hg hf.small)
 have HFIL := Lib.hid (fun (l2 : List XStep) (B : Option Addr) (d : Nat) (w2 : World) (hb : Below w.heap.size w w2) (hf : fewG g) (hv : groupB g = true) (h2 : ListC StepC 3 w2 (· < w2.heap.size) [.slice B l2.length d] l2) (hn : l2.length ≤ 1000) => filled_c g gl l2 B d w2 (hg.keep hb) hf.small hv h2 hn)
 have HGS := Lib.hid (show gl.toArray.size = 21 by have := hg.len; simpa using this)
 have HL := Lib.hid hl
 have HBD := Lib.hid (steps_bd hl)
 have hcap := hl.cap
 unfold maxLen at hcap
 have HCAL := Lib.hid (fun (h : groupB g = true) => (calB_in (q := 0) (groupB_cal h) (Int.le_refl 0) (by have := groupB_cal h; unfold calB at this; simp at this; omega)).2.2.2.2.1)
 unfold FillPost at HFIL
 obtain ⟨yy, hyy⟩ : ∃ y, g.calendar.year = y := ⟨_, rfl⟩
 obtain ⟨mm, hmm⟩ : ∃ y, g.calendar.month = y := ⟨_, rfl⟩
 obtain ⟨pp, hpp⟩ : ∃ y, g.calendar.periods = y := ⟨_, rfl⟩
 obtain ⟨ne, hne⟩ : ∃ y, (g.entities.length : Int) = y := ⟨_, rfl⟩
 rw [hyy, hmm, hpp, hne] at HFIL
 rw [hpp] at HCAL
 obtain ⟨fw, hfw⟩ : ∃ p : Prop, fewG g = p := ⟨_, rfl⟩
 rw [hfw] at HFEW HVAL HFIL
 obtain ⟨bg, hbg⟩ : ∃ b, groupB g = b := ⟨_, rfl⟩
 rw [hbg] at HVAL HFIL HCAL
 obtain ⟨n, hnl⟩ : ∃ n, l.length = n := ⟨_, rfl⟩
 have HN := Lib.hid hnl
 rw [hnl] at hcap ⊢
 clear hg hsz hl hyy hmm hpp hne hfw hbg hnl hab
 go_enter Try.func3, Try.ntmps3
 go_upto_region 1 with fail
 have H := heap_alloc_new w (.cells gl.toArray 29)
 have HB := below1 w (.cells gl.toArray 29)
 have HS : w.heap.size < (w.alloc (.cells gl.toArray 29)).heap.size := blk_lt H
 generalize hW : w.alloc (Obj.cells gl.toArray 29) = W at *
 have H2 := heap_alloc_new W (.cells #[.int .i64 a0, .int .i64 a1, .int .i64 a2] 31)
 have HB2 := below1 W (.cells #[.int .i64 a0, .int .i64 a1, .int .i64 a2] 31)
 have HS2 : W.heap.size < (W.alloc (.cells #[.int .i64 a0, .int .i64 a1, .int .i64 a2] 31)).heap.size := blk_lt H2
 replace H := alloc_keep H (Obj.cells #[.int .i64 a0, .int .i64 a1, .int .i64 a2] 31)
 generalize hW2 : W.alloc (Obj.cells #[.int .i64 a0, .int .i64 a1, .int .i64 a2] 31) = W2 at *
 clear hW2
 have eW : W.heap.size = w.heap.size + 1 := by rw [← hW]; simp
 rw [eW] at H2
 clear hW
 have hb2 := HB.trans (HB2.mono HB.size)
 have hs2 := HB2.size
 have LT1 := blk_lt H2
 have LT0 : w.heap.size < W2.heap.size := by omega
 have HH := Lib.hid H
 have HZ := Lib.hid H2
 have EW := Lib.hid eW
 clear H H2 eW
 have hb02 := hb2
 have LT02 := LT0
 have LT12 := LT1
 have HH2 := HH
 have HZ2 := HZ
 go_wp2_with fail
 refine (awake13_c W2).mono ?_
 rintro e w3 ⟨rfl, hb3⟩
 have hb03 := hb02.trans (hb3.mono hb02.size)
 have hs3 := hb3.size
 have LT03 := Nat.lt_of_lt_of_le LT02 hs3
 have LT13 := Nat.lt_of_lt_of_le LT12 hs3
 have HH3 := Lib.hid ((hb3.block _ LT02).trans HH2.out)
 have HZ3 := Lib.hid ((hb3.block _ LT12).trans HZ2.out)
 go_wp2_with (show wpList _ _ _ (Oper.mk (some 20) _ _ _ _ _ :: _) _ _; refine wpList_load_row_g rfl 29 (.tmp 3) rfl (w.heap.size) rfl _ _ _ _ HH3.out Try.underlying29 rfl (by rw [info_group]; exact congrArg some HGS.out.symm) ?_)
 refine (HFEW.out w3 hb03).mono ?_
 rintro e w4 ⟨bf, rfl, hf, hb4⟩
 have hb04 := hb03.trans (hb4.mono hb03.size)
 have hs4 := hb4.size
 have LT04 := Nat.lt_of_lt_of_le LT03 hs4
 have LT14 := Nat.lt_of_lt_of_le LT13 hs4
 have HH4 := Lib.hid ((hb4.block _ LT03).trans HH3.out)
 have HZ4 := Lib.hid ((hb4.block _ LT13).trans HZ3.out)
 cases bf with
 | false =>
  clear hf
  go_wp2_with fail
  refine (awake13_c w4).mono ?_
  rintro e wz ⟨rfl, hbz⟩
  go_wp2_with fail
  go_ret
  exact ⟨rfl, hb04.trans (hbz.mono hb04.size)⟩
 | true =>
 have HFP := Lib.hid (hf rfl)
 clear hf
 by_cases h30 : n ≤ 30
 case neg =>
  have h30d : decide ((30 : Int) < (n : Int)) = true := decide_eq_true (by omega)
  clear h30
  go_wp2_with fail
  refine (awake13_c w4).mono ?_
  rintro e wz ⟨rfl, hbz⟩
  go_wp2_with fail
  go_ret
  exact ⟨rfl, hb04.trans (hbz.mono hb04.size)⟩
 case pos =>
 have h30d : decide ((30 : Int) < (n : Int)) = false := decide_eq_false (by omega)
 go_wp2_with (show wpList _ _ _ (Oper.mk (some 30) _ _ _ _ _ :: _) _ _; refine wpList_load_row_g rfl 29 (.tmp 3) rfl (w.heap.size) rfl _ _ _ _ HH4.out Try.underlying29 rfl (by rw [info_group]; exact congrArg some HGS.out.symm) ?_)
 refine (HVAL.out HFP.out w4 hb04).mono ?_
 rintro e w5 ⟨rfl, hb5⟩
 have hb05 := hb04.trans (hb5.mono hb04.size)
 have hs5 := hb5.size
 have LT05 := Nat.lt_of_lt_of_le LT04 hs5
 have LT15 := Nat.lt_of_lt_of_le LT14 hs5
 have HH5 := Lib.hid ((hb5.block _ LT04).trans HH4.out)
 have HZ5 := Lib.hid ((hb5.block _ LT14).trans HZ4.out)
 cases bg with
 | false =>
  go_wp2_with fail
  refine (awake13_c w5).mono ?_
  rintro e wz ⟨rfl, hbz⟩
  go_wp2_with fail
  go_ret
  exact ⟨rfl, hb05.trans (hbz.mono hb05.size)⟩
 | true =>
 have hp120 := HCAL.out rfl
 have X0 := Lib.hid (show w5.cell? ⟨w.heap.size + 1, 0, none⟩ = some (.int .i64 a0) from blk_cell HZ5.out 0)
 have X1 := Lib.hid (show w5.cell? ⟨w.heap.size + 1, 1, none⟩ = some (.int .i64 a1) from blk_cell HZ5.out 1)
 have X2 := Lib.hid (show w5.cell? ⟨w.heap.size + 1, 2, none⟩ = some (.int .i64 a2) from blk_cell HZ5.out 2)
 go_upto_region 3 with fail
 refine wp_region_inv (Ks w5 [.val (.pointer (some ⟨w.heap.size + 1, 0, none⟩)), .val (.int .i64 a0), .val (.pointer (some ⟨w.heap.size + 1, 1, none⟩)), .val (.int .i64 a1), .val (.pointer (some ⟨w.heap.size + 1, 2, none⟩)), .val (.int .i64 a2), .val (.int .i64 (min a1 a2)), .val (.pointer (some ⟨w.heap.size + 1, 1, none⟩)), .val (.int .i64 a1), .val (.pointer (some ⟨w.heap.size + 1, 2, none⟩)), .val (.int .i64 a2), .val (.int .i64 (max a1 a2)), .val (.int .i64 a0), .val (.int .i64 (min a1 a2)), .val (.int .i64 (max a1 a2))])
  (fun w' => Below w5.heap.size w5 w') (by kernel_rfl) (by kernel_rfl) (by kernel_rfl) (Below.refl _ _).drew ?_ ?_
 · refine ⟨?_, ?_, ?_, ?_, ?_, ?_, ?_, ?_, ?_, ?_, ?_, ?_, ?_, ?_, ?_, trivial⟩
   · intro listed A0 w2 hI hd hnd K hK
     have e0 := hI.slot hnd 5 _ rfl (by kernel_rfl)
     have hS := hI.world
     refine wanted_go rfl ?_
     clear hI hd hnd
     go_simp
     exact kq hK hS rfl
   · intro listed A0 w2 hI hd hnd K hK
     have e0 := hI.depv hd 0 35 _ rfl rfl rfl (by kernel_rfl)
     have hS := hI.world
     have hcc : w2.cell? ⟨w.heap.size + 1, 0, none⟩ = _ := (hS.cell (p := ⟨w.heap.size + 1, 0, none⟩) LT15).trans X0.out
     refine wanted_go rfl ?_
     clear hI hd hnd
     go_simp
     exact kq hK hS rfl
   · intro listed A0 w2 hI hd hnd K hK
     have e0 := hI.slot hnd 5 _ rfl (by kernel_rfl)
     have hS := hI.world
     refine wanted_go rfl ?_
     clear hI hd hnd
     go_simp
     exact kq hK hS rfl
   · intro listed A0 w2 hI hd hnd K hK
     have e0 := hI.depv hd 2 37 _ rfl rfl rfl (by kernel_rfl)
     have hS := hI.world
     have hcc : w2.cell? ⟨w.heap.size + 1, 1, none⟩ = _ := (hS.cell (p := ⟨w.heap.size + 1, 1, none⟩) LT15).trans X1.out
     refine wanted_go rfl ?_
     clear hI hd hnd
     go_simp
     exact kq hK hS rfl
   · intro listed A0 w2 hI hd hnd K hK
     have e0 := hI.slot hnd 5 _ rfl (by kernel_rfl)
     have hS := hI.world
     refine wanted_go rfl ?_
     clear hI hd hnd
     go_simp
     exact kq hK hS rfl
   · intro listed A0 w2 hI hd hnd K hK
     have e0 := hI.depv hd 4 39 _ rfl rfl rfl (by kernel_rfl)
     have hS := hI.world
     have hcc : w2.cell? ⟨w.heap.size + 1, 2, none⟩ = _ := (hS.cell (p := ⟨w.heap.size + 1, 2, none⟩) LT15).trans X2.out
     refine wanted_go rfl ?_
     clear hI hd hnd
     go_simp
     exact kq hK hS rfl
   · intro listed A0 w2 hI hd hnd K hK
     have e0 := hI.depv hd 3 38 _ rfl rfl rfl (by kernel_rfl)
     have e1 := hI.depv hd 5 40 _ rfl rfl rfl (by kernel_rfl)
     have hS := hI.world
     refine wanted_go rfl ?_
     clear hI hd hnd
     go_simp
     exact kq hK hS rfl
   · intro listed A0 w2 hI hd hnd K hK
     have e0 := hI.slot hnd 5 _ rfl (by kernel_rfl)
     have hS := hI.world
     refine wanted_go rfl ?_
     clear hI hd hnd
     go_simp
     exact kq hK hS rfl
   · intro listed A0 w2 hI hd hnd K hK
     have e0 := hI.depv hd 7 42 _ rfl rfl rfl (by kernel_rfl)
     have hS := hI.world
     have hcc : w2.cell? ⟨w.heap.size + 1, 1, none⟩ = _ := (hS.cell (p := ⟨w.heap.size + 1, 1, none⟩) LT15).trans X1.out
     refine wanted_go rfl ?_
     clear hI hd hnd
     go_simp
     exact kq hK hS rfl
   · intro listed A0 w2 hI hd hnd K hK
     have e0 := hI.slot hnd 5 _ rfl (by kernel_rfl)
     have hS := hI.world
     refine wanted_go rfl ?_
     clear hI hd hnd
     go_simp
     exact kq hK hS rfl
   · intro listed A0 w2 hI hd hnd K hK
     have e0 := hI.depv hd 9 44 _ rfl rfl rfl (by kernel_rfl)
     have hS := hI.world
     have hcc : w2.cell? ⟨w.heap.size + 1, 2, none⟩ = _ := (hS.cell (p := ⟨w.heap.size + 1, 2, none⟩) LT15).trans X2.out
     refine wanted_go rfl ?_
     clear hI hd hnd
     go_simp
     exact kq hK hS rfl
   · intro listed A0 w2 hI hd hnd K hK
     have e0 := hI.depv hd 8 43 _ rfl rfl rfl (by kernel_rfl)
     have e1 := hI.depv hd 10 45 _ rfl rfl rfl (by kernel_rfl)
     have hS := hI.world
     refine wanted_go rfl ?_
     clear hI hd hnd
     go_simp
     exact kq hK hS rfl
   · intro listed A0 w2 hI hd hnd K hK
     have e0 := hI.depv hd 1 36 _ rfl rfl rfl (by kernel_rfl)
     have hS := hI.world
     refine wanted_go rfl ?_
     clear hI hd hnd
     go_simp
     exact kq hK hS rfl
   · intro listed A0 w2 hI hd hnd K hK
     have e0 := hI.depv hd 6 41 _ rfl rfl rfl (by kernel_rfl)
     have hS := hI.world
     refine wanted_go rfl ?_
     clear hI hd hnd
     go_simp
     exact kq hK hS rfl
   · intro listed A0 w2 hI hd hnd K hK
     have e0 := hI.depv hd 11 46 _ rfl rfl rfl (by kernel_rfl)
     have hS := hI.world
     refine wanted_go rfl ?_
     clear hI hd hnd
     go_simp
     exact kq hK hS rfl
 · intro listed A0 w2 hI hall
   obtain ⟨x0, g0, h0⟩ := hI.got 0 _ 35 rfl rfl (hall 0 (by decide))
   obtain ⟨x1, g1, h1⟩ := hI.got 1 _ 36 rfl rfl (hall 1 (by decide))
   obtain ⟨x2, g2, h2⟩ := hI.got 2 _ 37 rfl rfl (hall 2 (by decide))
   obtain ⟨x3, g3, h3⟩ := hI.got 3 _ 38 rfl rfl (hall 3 (by decide))
   obtain ⟨x4, g4, h4⟩ := hI.got 4 _ 39 rfl rfl (hall 4 (by decide))
   obtain ⟨x5, g5, h5⟩ := hI.got 5 _ 40 rfl rfl (hall 5 (by decide))
   obtain ⟨x6, g6, h6⟩ := hI.got 6 _ 41 rfl rfl (hall 6 (by decide))
   obtain ⟨x7, g7, h7⟩ := hI.got 7 _ 42 rfl rfl (hall 7 (by decide))
   obtain ⟨x8, g8, h8⟩ := hI.got 8 _ 43 rfl rfl (hall 8 (by decide))
   obtain ⟨x9, g9, h9⟩ := hI.got 9 _ 44 rfl rfl (hall 9 (by decide))
   obtain ⟨x10, g10, h10⟩ := hI.got 10 _ 45 rfl rfl (hall 10 (by decide))
   obtain ⟨x11, g11, h11⟩ := hI.got 11 _ 46 rfl rfl (hall 11 (by decide))
   obtain ⟨x12, g12, h12⟩ := hI.got 12 _ 7 rfl rfl (hall 12 (by decide))
   obtain ⟨x13, g13, h13⟩ := hI.got 13 _ 8 rfl rfl (hall 13 (by decide))
   obtain ⟨x14, g14, h14⟩ := hI.got 14 _ 9 rfl rfl (hall 14 (by decide))
   have hS := hI.world
   have hA : A0 = _ := hI.tmps [(35, x0), (36, x1), (37, x2), (38, x3), (39, x4), (40, x5), (41, x6), (42, x7), (43, x8), (44, x9), (45, x10), (46, x11), (7, x12), (8, x13), (9, x14)] (by simp only [List.mem_cons, List.not_mem_nil, or_false, forall_eq_or_imp, forall_eq]; exact ⟨g0, g1, g2, g3, g4, g5, g6, g7, g8, g9, g10, g11, g12, g13, g14⟩) (by kernel_rfl)
   obtain rfl : x12 = .int .i64 a0 := h12 _ rfl
   obtain rfl : x13 = .int .i64 (min a1 a2) := h13 _ rfl
   obtain rfl : x14 = .int .i64 (max a1 a2) := h14 _ rfl
   clear h0 g0 h1 g1 h2 g2 h3 g3 h4 g4 h5 g5 h6 g6 h7 g7 h8 g8 h9 g9 h10 g10 h11 g11 h12 g12 h13 g13 h14 g14 hI hall
   simp only [setAll, List.foldl, List.setIfInBounds_toArray, List.set_cons_zero, List.set_cons_succ] at hA
   rw [hA]
   clear hA
   have hb6 := hS
   generalize w2 = w6 at *
   have hb06 := hb05.trans (hb6.mono hb05.size)
   have hs6 := hb6.size
   have LT06 := Nat.lt_of_lt_of_le LT05 hs6
   have LT16 := Nat.lt_of_lt_of_le LT15 hs6
   have HH6 := Lib.hid ((hb6.block _ LT05).trans HH5.out)
   have HZ6 := Lib.hid ((hb6.block _ LT15).trans HZ5.out)
   obtain ⟨ea, hea⟩ : ∃ x, min a1 a2 = x := ⟨_, rfl⟩
   obtain ⟨la, hla⟩ : ∃ x, max a1 a2 = x := ⟨_, rfl⟩
   have HLE := Lib.hid (show ea ≤ la by omega)
   rw [hea, hla]
   clear hea hla hS X0 X1 X2
   have hfil := HFIL.out l A c w6 hb06 HFP.out trivial (by have h := steps_keep HL.out hb06; exact h) (by have := HN.out; omega)
   rw [HN.out] at hfil
   have HF1 := Lib.hid hfil
   clear hfil
   go_wp2_with (show wpList _ _ _ (Oper.mk (some 47) _ _ _ _ _ :: _) _ _; refine wpList_load_row_g rfl 29 (.tmp 3) rfl (w.heap.size) rfl _ _ _ _ HH6.out Try.underlying29 rfl (by rw [info_group]; exact congrArg some HGS.out.symm) ?_)
   refine HF1.out.mono ?_
   rintro e w7 ⟨L, b, n1, rfl, hn1, hlk, hL1, hb1, hb7⟩
   have hb07 := hb06.trans (hb7.mono hb06.size)
   have hs7 := hb7.size
   have LT07 := Nat.lt_of_lt_of_le LT06 hs7
   have LT17 := Nat.lt_of_lt_of_le LT16 hs7
   have HH7 := Lib.hid ((hb7.block _ LT06).trans HH6.out)
   have HZ7 := Lib.hid ((hb7.block _ LT16).trans HZ6.out)
   have HLK := Lib.hid hlk
   clear hlk hn1 hL1 hb1 HF1
   go_wp2_with fail
   go_loopw [11, 52] (fun v i wr => ∃ k : Nat, k ≤ n ∧ i = .int .i64 (k : Int) ∧ wr.ownsRow w7.heap.size 37 3 v (ownS a0 (l.take k)).length ((ownS a0 (l.take k)).flatMap stepL) ∧ Below w7.heap.size w7 wr) (fun _ i _ => n - (intOf i).toNat)
   case atStart => exact ⟨0, by omega, rfl, World.ownsRow_nil _ _ _ _, Below.refl _ _⟩
   case round =>
    obtain ⟨k, hk, rfl, hown, hb8⟩ := hrel
    generalize wr = w8 at *
    have HOW := Lib.hid hown
    obtain ⟨Ao, no, co, rfl⟩ := own_shape hown
    clear hown
    have hb08 := hb07.trans (hb8.mono hb07.size)
    have hs8 := hb8.size
    have LT08 := Nat.lt_of_lt_of_le LT07 hs8
    have LT18 := Nat.lt_of_lt_of_le LT17 hs8
    have HH8 := Lib.hid ((hb8.block _ LT07).trans HH7.out)
    have HZ8 := Lib.hid ((hb8.block _ LT17).trans HZ7.out)
    have HB8 := Lib.hid hb8
    by_cases hlt : k < n
    case pos =>
     have hltI : (k : Int) < (n : Int) := by omega
     have hkl : k < l.length := by rw [HN.out]; exact hlt
     obtain ⟨ab, ao, cs, hAe, hbw, hes, hat⟩ := ListC.get HL.out k hkl
     subst hAe
     obtain ⟨hcs, hbd⟩ := StepC.lit hes
     have HST := Lib.hid (ownS_succ (e := a0) hkl)
     obtain ⟨x, hx⟩ : ∃ x, l[k] = x := ⟨_, rfl⟩
     rw [hx] at hcs hbd HST
     subst hcs
     obtain ⟨se, sp, su⟩ := x
     have hat2 := hat.fr (Fr.ofBelow hb08)
     have HAT := Lib.hid (show w8.rangeAt ab (ao + k * 3) [.int .i64 se, .int .i64 sp, .bool su] from hat2.range)
     have hnz : 0 < n := by omega
     obtain ⟨OWN, hOWN⟩ : ∃ o, ownS a0 (l.take k) = o := ⟨_, rfl⟩
     have hol : OWN.length ≤ 30 := by rw [← hOWN]; exact Nat.le_trans (ownS_len _ _) (by rw [List.length_take]; omega)
     rw [hOWN] at HST HOW
     obtain ⟨NO, hNO⟩ : ∃ o, OWN.length = o := ⟨_, rfl⟩
     rw [hNO] at HOW hol
     have HNO := Lib.hid hNO
     clear hes hat hat2 hx hbw hOWN hNO hb8
     go_upto_region 9 with (first | (show wpList _ _ _ (Oper.mk (some 55) _ _ _ _ _ :: _) _ _; refine wpList_load_mid rfl 37 (.tmp 54) rfl ab (ao + k * 3) rfl [.int .i64 se, .int .i64 sp, .bool su] _ HAT.out Try.underlying37 rfl info_step ?_) | (show wpList _ _ _ (Oper.mk none (Op.store _ (Operand.tmp 13) _) _ _ _ _ :: _) _ _; refine wpList_store_fresh3 rfl 37 (.tmp 13) (.tmp 55) rfl rfl w8 #[.int .i64 0, .int .i64 0, .bool false] 37 #[.int .i64 se, .int .i64 sp, .bool su] rfl rfl rfl info_step rfl (by simp [Value.oneCell']) ?_; intro wx HX HBX HSX))
     have HXX := Lib.hid HX
     have c0 := blk_cell HX 0
     have HBX2 := Lib.hid (HB8.out.trans (HBX.mono HB8.out.size))
     have hsx := HBX2.out.size
     have HOX := Lib.hid (own_below HOW.out HBX)
     clear HX HSX HBX
     by_cases hse : se = a0
     case neg =>
      have hseb : (se == a0) = false := by simpa using hse
      have HEQ := Lib.hid (show ownS a0 (l.take (k + 1)) = OWN by rw [HST.out, if_neg hse])
      clear hse
      go_wp2_with fail
      go_roundw
      case rel => exact ⟨k + 1, by omega, by go_num, by rw [HEQ.out, HNO.out]; exact HOX.out, HBX2.out⟩
      case measure => first | exact meas_v hlt | (simp only [intOf]; omega)
     case pos =>
      have hseb : (se == a0) = true := by simpa using hse
      have HEQ := Lib.hid (show ownS a0 (l.take (k + 1)) = OWN ++ [⟨se, sp, su⟩] by rw [HST.out, if_pos hse])
      clear hse
      go_wp2_with (first | (show wpList _ _ _ (Oper.mk (some 61) _ _ _ _ _ :: _) _ _; refine wpList_load_row_g rfl 37 (.tmp 13) rfl w8.heap.size rfl _ _ _ _ HXX.out Try.underlying37 rfl info_step ?_) | (at_builtin; go_loud (refine wpList_app _ rfl (.tmp 60) (.tmp 62) 30 rfl w7.heap.size 37 ia _ 3 24 steps_uty hia hzia hsia hbia rfl (by decide) (.slice Ao no co) NO (OWN.flatMap stepL) rfl (HOX.out.alloc _) (fun _ => True) (some ⟨wx.heap.size, 0, none⟩) 1 1 [.int .i64 se, .int .i64 sp, .bool su] rfl (rd_new (heap_alloc_new _ _) rfl) (by simp [Value.oneCell']) (by simp only [maxLen]; omega) (by omega) (by simp; omega) ?_); intro v9 w9 hown9 hg9 _))
      go_roundw
      case rel =>
       refine ⟨k + 1, by omega, by go_num, ?_, below_grown (HBX2.out.alloc hsx _) hg9 (fun q hq => (HOX.out.lt _ hq).1) (Nat.le_refl _)⟩
       rw [HEQ.out, List.length_append, List.flatMap_append, HNO.out]
       exact hown9
      case measure => first | exact meas_v hlt | (simp only [intOf]; omega)
    case neg =>
     have hltI : ¬ (k : Int) < (n : Int) := by omega
     have hkn : k = l.length := by have := HN.out; omega
     have hown : w8.ownsRow w7.heap.size 37 3 (.slice Ao no co) (ownS a0 l).length ((ownS a0 l).flatMap stepL) := by have h := HOW.out; rw [hkn, List.take_length] at h; exact h
     have hln : (ownS a0 l).length ≤ 30 := Nat.le_trans (ownS_len _ _) (by have := HN.out; omega)
     have hlc := own_listC (El := StepC) (f := stepL) (fun _ => rfl) hown (Q := (· < w8.heap.size)) (fun x hx => stepC_of (HBD.out x (List.mem_filter.1 hx).1)) (fun q hq => (hown.lt _ hq).2) (by omega)
     obtain rfl : no = (ownS a0 l).length := own_val hown
     have hfil := HFIL.out (ownS a0 l) Ao co w8 hb08 HFP.out trivial hlc (by omega)
     obtain ⟨no, hno⟩ : ∃ x, (ownS a0 l).length = x := ⟨_, rfl⟩
     rw [hno] at hfil ⊢
     have HF2 := Lib.hid hfil
     have HLK8 := Lib.hid (HLK.out.below hb8)
     clear hfil hown hlc hkn hno hln hb8 HFIL HFEW HVAL HOW
     go_wp2_with (show wpList _ _ _ (Oper.mk (some 65) _ _ _ _ _ :: _) _ _; refine wpList_load_row_g rfl 29 (.tmp 3) rfl (w.heap.size) rfl _ _ _ _ HH8.out Try.underlying29 rfl (by rw [info_group]; exact congrArg some HGS.out.symm) ?_)
     refine HF2.out.mono ?_
     rintro e w9 ⟨L2, b2, n2, rfl, hn2, hlk2, hL2, hb2', hb9⟩
     have hb09 := hb08.trans (hb9.mono hb08.size)
     have HLK9 := Lib.hid (HLK8.out.below hb9)
     have HM9 := Lib.hid hlk2
     have HSAME := Lib.hid (fun (c : KK) (hc : c.1.1 = a0) => (allF_own (p := pp) (ne := ne) HBD.out c hc).symm)
     have HP1 := Lib.hid (allF_pos (p := pp) (ne := ne) (l := l) hp120)
     have HP2 := Lib.hid (allF_pos (p := pp) (ne := ne) (l := ownS a0 l) hp120)
     clear hlk2 hn2 hL2 hb2' HF2 HLK8 hb9
     obtain ⟨f1, hf1⟩ : ∃ f, allF pp ne l = f := ⟨_, rfl⟩
     obtain ⟨f2, hf2⟩ : ∃ f, allF pp ne (ownS a0 l) = f := ⟨_, rfl⟩
     rw [hf1, hf2] at HSAME
     rw [hf1] at HLK9 HP1
     rw [hf2] at HM9 HP2
     clear hf1 hf2
     go_wp2_with fail
     refine (show Calls Try.prog 16 #[.pointer (some ⟨L, 0, none⟩), .agg #[.int .i64 0, .int .i64 a0, .int .i64 ea, .int .i64 0, .int .i64 0, .string ⟨#[]⟩, .slice none 0 0]] w9 _ from lcheck_c L b yy mm pp ne _ _ 0 a0 ea 0 0 _ none 0 0 w9 HLK9.out (HP1.out)).mono ?_
     rintro e wa ⟨rwa, rfl, hr, hbc⟩
     have HRP := Lib.hid (show ckP yy mm pp ne f1 a0 ea rwa from hr)
     have hb0a := hb09.trans (hbc.mono hb09.size)
     have HLKa := Lib.hid (HLK9.out.below hbc)
     have HMa := Lib.hid (HM9.out.below hbc)
     clear hr hbc
     go_wp2_with fail
     refine (show Calls Try.prog 16 #[.pointer (some ⟨L, 0, none⟩), .agg #[.int .i64 0, .int .i64 a0, .int .i64 la, .int .i64 0, .int .i64 0, .string ⟨#[]⟩, .slice none 0 0]] wa _ from lcheck_c L b yy mm pp ne _ _ 0 a0 la 0 0 _ none 0 0 wa HLKa.out (HP1.out)).mono ?_
     rintro e wb ⟨rwb, rfl, hr, hbc⟩
     have HRQ := Lib.hid (show ckP yy mm pp ne f1 a0 la rwb from hr)
     have hb0b := hb0a.trans (hbc.mono hb0a.size)
     have HMb := Lib.hid (HMa.out.below hbc)
     clear hr hbc
     have HEAR := Lib.hid (fun (h : rwb = 12) => ckP.early (fun c hc => (HP1.out c hc).1) HLE.out HRP.out HRQ.out h)
     have hcase : (rwb != 12) = true ∨ (rwb != 12) = false ∧ (rwa == 12) = true := by
      by_cases h : rwb = 12
      · exact .inr ⟨by simp [h], by simp [HEAR.out h]⟩
      · exact .inl (by simpa using h)
     have hbool : ∃ q1 q2 : Bool, (rwb != 12) = q1 ∧ (rwa == 12) = q2 ∧ (q1 || q2) = true := by
      rcases hcase with h | ⟨h1, h2⟩
      · exact ⟨true, _, h, rfl, rfl⟩
      · exact ⟨false, true, h1, h2, rfl⟩
     obtain ⟨q1, q2, hq1, hq2, hq⟩ := hbool
     clear hcase
     cases q1 <;> cases q2 <;> first | (simp at hq; done) | skip
     all_goals clear hq
     all_goals (
      go_wp2_with fail
      refine (show Calls Try.prog 16 #[.pointer (some ⟨L2, 0, none⟩), .agg #[.int .i64 0, .int .i64 a0, .int .i64 ea, .int .i64 0, .int .i64 0, .string ⟨#[]⟩, .slice none 0 0]] wb _ from lcheck_c L2 b2 yy mm pp ne _ _ 0 a0 ea 0 0 _ none 0 0 wb HMb.out (HP2.out)).mono ?_
      rintro e wc ⟨rwc, rfl, hr, hbc⟩
      obtain rfl : rwa = rwc := HRP.out.uniq (fun c hc => (HP1.out c hc).1) HSAME.out (show ckP yy mm pp ne f2 a0 ea rwc from hr)
      have hb0c := hb0b.trans (hbc.mono hb0b.size)
      have HMc := Lib.hid (HMb.out.below hbc)
      have hre : (rwa == rwa) = true := by simp
      clear hr hbc
      go_wp2_with fail
      refine (show Calls Try.prog 16 #[.pointer (some ⟨L2, 0, none⟩), .agg #[.int .i64 0, .int .i64 a0, .int .i64 la, .int .i64 0, .int .i64 0, .string ⟨#[]⟩, .slice none 0 0]] wc _ from lcheck_c L2 b2 yy mm pp ne _ _ 0 a0 la 0 0 _ none 0 0 wc HMc.out (HP2.out)).mono ?_
      rintro e wd ⟨rwd, rfl, hr, hbc⟩
      obtain rfl : rwb = rwd := HRQ.out.uniq (fun c hc => (HP1.out c hc).1) HSAME.out (show ckP yy mm pp ne f2 a0 la rwd from hr)
      have hb0d := hb0c.trans (hbc.mono hb0c.size)
      have hre2 : (rwb == rwb) = true := by simp
      clear hr hbc
      go_wp2_with fail
      go_ret
      exact ⟨rfl, hb0d⟩)
end Go.Proofs.Ytebdajkknkapcaa
