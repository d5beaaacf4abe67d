/- The walk of the law LedgerOrder. Written by gen_a21.py. -/
import Derived.Test.YtekelchdbkjjjaaG18xB0B3
import Derived.Test.YtekelchdbkjjjaaG18xB4B12
import Derived.Test.YtekelchdbkjjjaaG18xB13B14
import Derived.Test.YtekelchdbkjjjaaG18xB15S0
import Derived.Test.YtekelchdbkjjjaaG18xB21B27
import Derived.Test.YtekelchdbkjjjaaG18xB28S2
import Derived.Test.YtekelchdbkjjjaaG18xC4E3
import Derived.Test.YtekelchdbkjjjaaG18xE5F9
import Derived.Test.YtekelchdbkjjjaaG18xH2I7
import Derived.Test.YtekelchdbkjjjaaG18xI8I14
import Derived.Test.YtekelchdbkjjjaaG18xI15
import Derived.Test.YtekelchdbkjjjaaG18xI16
import Derived.Test.YtekelchdbkjjjaaG18xI19Q2
import Derived.Test.YtekelchdbkjjjaaG18xK1A7
import Derived.Test.YtekelchdbkjjjaaG18xA8A16
import Derived.Test.YtekelchdbkjjjaaG18xA15A23
import Derived.Test.YtekelchdbkjjjaaProg
set_option linter.unusedVariables false
set_option linter.unusedSimpArgs false
set_option maxRecDepth 4000
attribute [local go_sem ↓] Go.wp_at_zero Go.wp_at_succ
namespace Go.Proofs.Ytekelchdbkjjjaa
open Go Go.RowKit
set_option maxHeartbeats 8000000 in
theorem law_ledgerOrder (g : XGroup) (l : List XEntry) (gl : List Value) (A : Option Addr) (c : Nat) (a0 a1 a2 : Int) (w : World) (hg : GroupC w (· < w.heap.size) gl g) (hsz : szG g) (hl : ListC EntryC 7 w (· < w.heap.size) [.slice A l.length c] l) (hts : ∀ x ∈ l, x.text.size ≤ 140737488355327) : Calls Try.prog 3 #[.agg gl.toArray, .slice A l.length c, .agg #[.int .i64 a0, .int .i64 a1, .int .i64 a2]] w (Quiet w (.bool true)) := by
 obtain ⟨ib, hib, hzib, hsib, hbib⟩ := info_parts info_entryA
 have HFEW := Lib.hid (fun (w2 : World) (hb : Below w.heap.size w w2) => few12_c g l gl A c w2 (hg.keep hb) hsz (entries_keep hl hb) hts)
 have HGS := Lib.hid (show gl.toArray.size = 21 by have := hg.len; simpa using this)
 have HTR := Lib.hid (fun (w2 : World) (hb : Below w.heap.size w w2) (hf : fewJ g l) => trial_c g l gl A c a1 a2 w2 (hg.keep hb) (entries_keep hl hb) hf.2.2.small (few_modest hf) (by have := hf.2.1; omega))
 have HG := Lib.hid hg
 have HL := Lib.hid hl
 obtain ⟨n, hnl⟩ : ∃ n, l.length = n := ⟨_, rfl⟩
 rw [hnl] at HFEW HTR ⊢
 obtain ⟨fw, hfw⟩ : ∃ p : Prop, fewJ g l = p := ⟨_, rfl⟩
 rw [hfw] at HFEW
 have HFWE := Lib.hid hfw
 have HN := Lib.hid hnl
 clear hg hsz hl hts hnl hfw
 go_enter Try.func3, Try.ntmps3
 go_upto_region 1 with fail
 have H := heap_alloc_new w (.cells gl.toArray 29)
 have HB := below1 w (.cells gl.toArray 29)
 have HS := blk_lt H
 generalize hW : w.alloc (Obj.cells gl.toArray 29) = W at *
 have H2 := heap_alloc_new W (.cells #[.int .i64 a0, .int .i64 a1, .int .i64 a2] 31)
 have HB2 := below1 W (.cells #[.int .i64 a0, .int .i64 a1, .int .i64 a2] 31)
 have HS2 := blk_lt H2
 replace H := alloc_keep H (Obj.cells #[.int .i64 a0, .int .i64 a1, .int .i64 a2] 31)
 generalize hW2 : W.alloc (Obj.cells #[.int .i64 a0, .int .i64 a1, .int .i64 a2] 31) = W2 at *
 clear hW2
 have eW : W.heap.size = w.heap.size + 1 := by rw [← hW]; simp
 rw [eW] at H2
 clear hW
 have hb2 := HB.trans (HB2.mono HB.size)
 have hs2 := HB2.size
 have LT1 := blk_lt H2
 have LT0 : w.heap.size < W2.heap.size := by omega
 have HH := Lib.hid H
 have HZ := Lib.hid H2
 have EW := Lib.hid eW
 clear H H2 eW
 have hb02 := hb2
 have LT02 := LT0
 have LT12 := LT1
 have HH2 := HH
 have HZ2 := HZ
 go_wp2_with fail
 refine (awake14_c W2).mono ?_
 rintro e w3 ⟨rfl, hb3⟩
 have hb03 := hb02.trans (hb3.mono hb02.size)
 have hs3 := hb3.size
 have LT03 := Nat.lt_of_lt_of_le LT02 hs3
 have LT13 := Nat.lt_of_lt_of_le LT12 hs3
 have HH3 := Lib.hid ((hb3.block _ LT02).trans HH2.out)
 have HZ3 := Lib.hid ((hb3.block _ LT12).trans HZ2.out)
 go_wp2_with (show wpList _ _ _ (Oper.mk (some 15) _ _ _ _ _ :: _) _ _; refine wpList_load_row_g rfl 29 (.tmp 3) rfl (w.heap.size) rfl _ _ _ _ HH3.out Try.underlying29 rfl (by rw [info_group]; exact congrArg some HGS.out.symm) ?_)
 refine (HFEW.out w3 hb03).mono ?_
 rintro e w4 ⟨bf, rfl, hf, hb4⟩
 have hb04 := hb03.trans (hb4.mono hb03.size)
 have hs4 := hb4.size
 have LT04 := Nat.lt_of_lt_of_le LT03 hs4
 have LT14 := Nat.lt_of_lt_of_le LT13 hs4
 have HH4 := Lib.hid ((hb4.block _ LT03).trans HH3.out)
 have HZ4 := Lib.hid ((hb4.block _ LT13).trans HZ3.out)
 cases bf with
 | false =>
  clear hf
  go_wp2_with fail
  go_ret
  exact ⟨rfl, hb04⟩
 | true =>
 have HFP := Lib.hid (show fewJ g l from HFWE.out ▸ hf rfl)
 clear hf
 have z0 : w4.cell? ⟨w.heap.size + 1, 0, none⟩ = some (.int .i64 a0) := blk_cell HZ4.out 0
 by_cases hn2 : n < 2
 case pos =>
  have hn2d : decide ((n : Int) < 2) = true := decide_eq_true (by omega)
  have hn2i : (n : Int) < 2 := by omega
  clear hn2
  go_wp2_with fail
  go_ret
  exact ⟨rfl, hb04⟩
 case neg =>
 have hn2d : decide ((n : Int) < 2) = false := decide_eq_false (by omega)
 by_cases ha0 : a0 < 0
 case pos =>
  have ha0d : decide (a0 < 0) = true := decide_eq_true ha0
  clear ha0 hn2
  go_wp2_with fail
  go_ret
  exact ⟨rfl, hb04⟩
 case neg =>
 have ha0d : decide (a0 < 0) = false := decide_eq_false ha0
 have ha0n : 0 ≤ a0 := by omega
 obtain ⟨m, hm⟩ : ∃ m, n = m + 1 := ⟨n - 1, by omega⟩
 have hmI : (n : Int) - 1 = (m : Int) := by omega
 have HMP := Lib.hid (show 0 < m by omega)
 have HNM := Lib.hid hm
 have hf61 := HFP.out.2.1
 rw [HN.out] at hf61
 have H61 := Lib.hid hf61
 have hmne : (m : Int) ≠ 0 := by omega
 have hm0n : ¬ m = 0 := by omega
 have hmpos : 0 < (m : Int) := by omega
 have HWM := Lib.hid (show wrap64 (m : Int) = (m : Int) by unfold wrap64; omega)
 have hwm := HWM.out
 clear hm hf61
 go_upto_region 5 with fail
 clear hn2d ha0d hn2 ha0
 have hm0 := Int.emod_nonneg a0 hmne
 have hm1 := Int.emod_lt_of_pos a0 hmpos
 obtain ⟨k, hkq⟩ : ∃ q : Nat, a0 % (m : Int) = (q : Int) := ⟨(a0 % (m : Int)).toNat, by omega⟩
 have htm : a0.tmod (m : Int) = (k : Int) := by rw [Int.tmod_eq_emod_of_nonneg ha0n]; exact hkq
 rw [hkq] at hm1
 have HKM := Lib.hid (Int.ofNat_lt.1 hm1)
 clear hm0 hm1 hkq
 go_upto_region 6 with fail
 clear htm ha0n hm0n hmne hmpos hmI hwm z0
 have hkm := HKM.out
 have hnm := HNM.out
 obtain ⟨k1, hk1⟩ : ∃ q : Nat, k + 1 = q := ⟨_, rfl⟩
 have HKN := Lib.hid hk1
 have HK1 := Lib.hid (show (k : Int) + 1 = (k1 : Int) by omega)
 have HWR := Lib.hid (show IntKind.i64.wrap (k1 : Int) = (k1 : Int) by have := H61.out; have := HNM.out; have := HKM.out; rw [IntKind.wrap_i64]; omega)
 have HMI := Lib.hid (show (k : Int) < (n : Int) by omega)
 have HMI1 := Lib.hid (show (k1 : Int) < (n : Int) by omega)
 have hkl : k < l.length := by rw [HN.out]; omega
 have hkl1 : k1 < l.length := by rw [HN.out]; omega
 obtain ⟨b, o, ex0, hAe, hbw, hxc, hxa⟩ := ListC.get HL.out k hkl
 obtain ⟨b', o', ey0, hAe', _, hyc, hya⟩ := ListC.get HL.out k1 hkl1
 subst hAe
 obtain ⟨rfl, rfl⟩ : b = b' ∧ o = o' := by simpa using hAe'
 obtain ⟨x, hx⟩ : ∃ x, l[k] = x := ⟨_, rfl⟩
 obtain ⟨y, hy⟩ : ∃ x, l[k1] = x := ⟨_, rfl⟩
 rw [hx] at hxc
 rw [hy] at hyc
 have HXD := Lib.hid (show l.getD k {} = x by rw [← hx]; simp [List.getD_eq_getElem?_getD, hkl])
 have HYD := Lib.hid (show l.getD (k + 1) {} = y by rw [← hy]; simp [List.getD_eq_getElem?_getD, hk1, hkl1])
 obtain ⟨Ax, cx, hxs, _, _⟩ := EntryC.lit hxc
 obtain ⟨Ay, cy, hys, _, _⟩ := EntryC.lit hyc
 subst hxs hys
 obtain ⟨xi, xe, xd, xk, xo, xt, xls⟩ := x
 obtain ⟨yi, ye, yd, yk, yo, yt, yls⟩ := y
 simp only at hxa hya
 have hbl4 : b < w4.heap.size := Nat.lt_of_lt_of_le hbw hb04.size
 have HBL := Lib.hid hbl4
 have HCI := Lib.hid (show w4.cell? ⟨b, o + k * 7, none⟩ = some (.int .i64 xi) from by have h := (hxa.fr (Fr.ofBelow hb04)).c (j := 0) rfl; simpa using h)
 have HCK := Lib.hid (show w4.cell? ⟨b, o + k1 * 7 + 3, none⟩ = some (.int .i64 yk) from (hya.fr (Fr.ofBelow hb04)).c (j := 3) rfl)
 have HCO := Lib.hid (show w4.cell? ⟨b, o + k1 * 7 + 4, none⟩ = some (.int .i64 yo) from (hya.fr (Fr.ofBelow hb04)).c (j := 4) rfl)
 clear hxc hyc hxa hya hx hy hkl hkl1 hbw hAe' hk1 hkm hnm hbl4
 have HNE := Lib.hid (show (yk = 3 ∧ yo = xi) ∨ ¬ (yk = 3 ∧ yo = xi) from Classical.em _)
 by_cases hrv : yk = 3 ∧ yo = xi
 case pos =>
  have HK3B := Lib.hid (show (yk == 3) = true from by simp [hrv.1])
  have HOIB := Lib.hid (show (yo == xi) = true from by simp [hrv.2])
  clear hrv
  refine wp_region_inv' (Ks w4 [.val (.slice (some ⟨b, o, none⟩) n c), .val (.int .i64 (k : Int)), .val (.int .i64 (k1 : Int)), .val (.pointer (some ⟨b, o + k1 * 7, none⟩)), .val (.pointer (some ⟨b, o + k1 * 7 + 3, none⟩)), .val (.int .i64 yk), .val (.bool true), .val (.bool true), .val (.slice (some ⟨b, o, none⟩) n c), .val (.int .i64 (k : Int)), .val (.int .i64 (k1 : Int)), .val (.pointer (some ⟨b, o + k1 * 7, none⟩)), .val (.pointer (some ⟨b, o + k1 * 7 + 4, none⟩)), .val (.int .i64 yo), .val (.slice (some ⟨b, o, none⟩) n c), .val (.int .i64 (k : Int)), .val (.pointer (some ⟨b, o + k * 7, none⟩)), .val (.pointer (some ⟨b, o + k * 7, none⟩)), .val (.int .i64 xi), .val (.bool true), .val (.bool true)])
   (fun w' => Below w4.heap.size w4 w') (by kernel_rfl) (by kernel_rfl) (by kernel_rfl) (Below.refl _ _).drew ?_ ?_
  · refine ⟨?_, ?_, ?_, ?_, ?_, ?_, ?_, ?_, ?_, ?_, ?_, ?_, ?_, ?_, ?_, ?_, ?_, ?_, ?_, ?_, ?_, trivial⟩
    · intro _ A0 w2 hI hd hnd K hK; have e0 := hI.q hnd 1; exact hI.z hK
    · intro _ A0 w2 hI hd hnd K hK; have e0 := hI.q hnd 7; exact hI.z hK
    · intro _ A0 w2 hI hd hnd K hK; have e0 := hI.p hd 1 36; have hS := hI.world
      have hk1 := HK1.out
      have hwr := HWR.out
      exact hI.z hK
    · intro _ A0 w2 hI hd hnd K hK
      have hmi1 := HMI1.out
      have hmi := HMI.out
      have e0 := hI.p hd 0 35; have e1 := hI.p hd 2 37; exact hI.z hK
    · intro _ A0 w2 hI hd hnd K hK; have e0 := hI.p hd 3 38; exact hI.z hK
    · intro _ A0 w2 hI hd hnd K hK; have e0 := hI.p hd 4 39; have hS := hI.world; have hcc : w2.cell? ⟨b, o + k1 * 7 + 3, none⟩ = _ := (hS.cell (p := ⟨b, o + k1 * 7 + 3, none⟩) HBL.out).trans HCK.out; exact hI.z hK
    · intro _ A0 w2 hI hd hnd K hK; have e0 := hI.p hd 5 40; have hS := hI.world
      have hk3b := HK3B.out
      exact hI.z hK
    · intro _ A0 w2 hI hd hnd K hK; have e0 := hI.p hd 6 41; exact hI.z hK
    · intro _ A0 w2 hI hd hnd K hK; have e0 := hI.q hnd 1; exact hI.z1 hK (hI.r hd 7 42 true)
    · intro _ A0 w2 hI hd hnd K hK; have e0 := hI.q hnd 7; exact hI.z1 hK (hI.r hd 7 42 true)
    · intro _ A0 w2 hI hd hnd K hK; have e0 := hI.p hd 9 44; have hS := hI.world
      have hk1 := HK1.out
      have hwr := HWR.out
      exact hI.z1 hK (hI.r hd 7 42 true)
    · intro _ A0 w2 hI hd hnd K hK
      have hmi1 := HMI1.out
      have hmi := HMI.out
      have e0 := hI.p hd 8 43; have e1 := hI.p hd 10 45; exact hI.z1 hK (hI.r hd 7 42 true)
    · intro _ A0 w2 hI hd hnd K hK; have e0 := hI.p hd 11 46; exact hI.z1 hK (hI.r hd 7 42 true)
    · intro _ A0 w2 hI hd hnd K hK; have e0 := hI.p hd 12 47; have hS := hI.world; have hcc : w2.cell? ⟨b, o + k1 * 7 + 4, none⟩ = _ := (hS.cell (p := ⟨b, o + k1 * 7 + 4, none⟩) HBL.out).trans HCO.out; exact hI.z1 hK (hI.r hd 7 42 true)
    · intro _ A0 w2 hI hd hnd K hK; have e0 := hI.q hnd 1; exact hI.z1 hK (hI.r hd 7 42 true)
    · intro _ A0 w2 hI hd hnd K hK; have e0 := hI.q hnd 7; exact hI.z1 hK (hI.r hd 7 42 true)
    · intro _ A0 w2 hI hd hnd K hK
      have hmi1 := HMI1.out
      have hmi := HMI.out
      have e0 := hI.p hd 14 49; have e1 := hI.p hd 15 50; exact hI.z1 hK (hI.r hd 7 42 true)
    · intro _ A0 w2 hI hd hnd K hK; have e0 := hI.p hd 16 51; exact hI.z1 hK (hI.r hd 7 42 true)
    · intro _ A0 w2 hI hd hnd K hK; have e0 := hI.p hd 17 52; have hS := hI.world; have hcc : w2.cell? ⟨b, o + k * 7, none⟩ = _ := (hS.cell (p := ⟨b, o + k * 7, none⟩) HBL.out).trans HCI.out; exact hI.z1 hK (hI.r hd 7 42 true)
    · intro _ A0 w2 hI hd hnd K hK; have e0 := hI.p hd 13 48; have e1 := hI.p hd 18 53; have hS := hI.world
      have hoib := HOIB.out
      exact hI.z1 hK (hI.r hd 7 42 true)
    · intro _ A0 w2 hI hd hnd K hK; have e0 := hI.p hd 7 42; have e1 := hI.p hd 19 54; exact hI.z hK
  · intro _ A0 w2 hI hall; have hS := hI.world; have c9 := hI.ch hall [35, 36, 37, 38, 39, 40, 41, 42, 43, 44, 45, 46, 47, 48, 49, 50, 51, 52, 53, 54, 55]; obtain ⟨x0, x1, x2, x3, x4, x5, x6, x7, x8, x9, x10, x11, x12, x13, x14, x15, x16, x17, x18, x19, x20, hA, hV⟩ := c9
    obtain rfl : x20 = .bool true := hV 20 _ _ rfl _ rfl
    clear hV hI hall
    simp only [setAll, List.foldl, List.setIfInBounds_toArray, List.set_cons_zero, List.set_cons_succ] at hA
    rw [hA]
    clear hA
    go_wp2_with fail
    go_ret
    exact ⟨rfl, hb04.trans (hS.mono hb04.size)⟩
 case neg =>
 have HNR := Lib.hid hrv
 go_cut [55] from 35 to 55 (fun v wx => v = .bool false ∧ Below w4.heap.size w4 wx)
 case first =>
  by_cases hk3 : yk = 3
  case pos =>
   have HK3B := Lib.hid (show (yk == 3) = true from by simp [hk3])
   have HOIB := Lib.hid (show (yo == xi) = false from by simpa using fun e => hrv ⟨hk3, e⟩)
   clear hrv hk3
   refine wp_region_inv' (Ks w4 [.val (.slice (some ⟨b, o, none⟩) n c), .val (.int .i64 (k : Int)), .val (.int .i64 (k1 : Int)), .val (.pointer (some ⟨b, o + k1 * 7, none⟩)), .val (.pointer (some ⟨b, o + k1 * 7 + 3, none⟩)), .val (.int .i64 yk), .val (.bool true), .val (.bool true), .val (.slice (some ⟨b, o, none⟩) n c), .val (.int .i64 (k : Int)), .val (.int .i64 (k1 : Int)), .val (.pointer (some ⟨b, o + k1 * 7, none⟩)), .val (.pointer (some ⟨b, o + k1 * 7 + 4, none⟩)), .val (.int .i64 yo), .val (.slice (some ⟨b, o, none⟩) n c), .val (.int .i64 (k : Int)), .val (.pointer (some ⟨b, o + k * 7, none⟩)), .val (.pointer (some ⟨b, o + k * 7, none⟩)), .val (.int .i64 xi), .val (.bool false), .val (.bool false)])
    (fun w' => Below w4.heap.size w4 w') (by kernel_rfl) (by kernel_rfl) (by kernel_rfl) (Below.refl _ _).drew ?_ ?_
   · refine ⟨?_, ?_, ?_, ?_, ?_, ?_, ?_, ?_, ?_, ?_, ?_, ?_, ?_, ?_, ?_, ?_, ?_, ?_, ?_, ?_, ?_, trivial⟩
     · intro _ A0 w2 hI hd hnd K hK; have e0 := hI.q hnd 1; exact hI.z hK
     · intro _ A0 w2 hI hd hnd K hK; have e0 := hI.q hnd 7; exact hI.z hK
     · intro _ A0 w2 hI hd hnd K hK; have e0 := hI.p hd 1 36; have hS := hI.world
       have hk1 := HK1.out
       have hwr := HWR.out
       exact hI.z hK
     · intro _ A0 w2 hI hd hnd K hK
       have hmi1 := HMI1.out
       have hmi := HMI.out
       have e0 := hI.p hd 0 35; have e1 := hI.p hd 2 37; exact hI.z hK
     · intro _ A0 w2 hI hd hnd K hK; have e0 := hI.p hd 3 38; exact hI.z hK
     · intro _ A0 w2 hI hd hnd K hK; have e0 := hI.p hd 4 39; have hS := hI.world; have hcc : w2.cell? ⟨b, o + k1 * 7 + 3, none⟩ = _ := (hS.cell (p := ⟨b, o + k1 * 7 + 3, none⟩) HBL.out).trans HCK.out; exact hI.z hK
     · intro _ A0 w2 hI hd hnd K hK; have e0 := hI.p hd 5 40; have hS := hI.world
       have hk3b := HK3B.out
       exact hI.z hK
     · intro _ A0 w2 hI hd hnd K hK; have e0 := hI.p hd 6 41; exact hI.z hK
     · intro _ A0 w2 hI hd hnd K hK; have e0 := hI.q hnd 1; exact hI.z1 hK (hI.r hd 7 42 true)
     · intro _ A0 w2 hI hd hnd K hK; have e0 := hI.q hnd 7; exact hI.z1 hK (hI.r hd 7 42 true)
     · intro _ A0 w2 hI hd hnd K hK; have e0 := hI.p hd 9 44; have hS := hI.world
       have hk1 := HK1.out
       have hwr := HWR.out
       exact hI.z1 hK (hI.r hd 7 42 true)
     · intro _ A0 w2 hI hd hnd K hK
       have hmi1 := HMI1.out
       have hmi := HMI.out
       have e0 := hI.p hd 8 43; have e1 := hI.p hd 10 45; exact hI.z1 hK (hI.r hd 7 42 true)
     · intro _ A0 w2 hI hd hnd K hK; have e0 := hI.p hd 11 46; exact hI.z1 hK (hI.r hd 7 42 true)
     · intro _ A0 w2 hI hd hnd K hK; have e0 := hI.p hd 12 47; have hS := hI.world; have hcc : w2.cell? ⟨b, o + k1 * 7 + 4, none⟩ = _ := (hS.cell (p := ⟨b, o + k1 * 7 + 4, none⟩) HBL.out).trans HCO.out; exact hI.z1 hK (hI.r hd 7 42 true)
     · intro _ A0 w2 hI hd hnd K hK; have e0 := hI.q hnd 1; exact hI.z1 hK (hI.r hd 7 42 true)
     · intro _ A0 w2 hI hd hnd K hK; have e0 := hI.q hnd 7; exact hI.z1 hK (hI.r hd 7 42 true)
     · intro _ A0 w2 hI hd hnd K hK
       have hmi1 := HMI1.out
       have hmi := HMI.out
       have e0 := hI.p hd 14 49; have e1 := hI.p hd 15 50; exact hI.z1 hK (hI.r hd 7 42 true)
     · intro _ A0 w2 hI hd hnd K hK; have e0 := hI.p hd 16 51; exact hI.z1 hK (hI.r hd 7 42 true)
     · intro _ A0 w2 hI hd hnd K hK; have e0 := hI.p hd 17 52; have hS := hI.world; have hcc : w2.cell? ⟨b, o + k * 7, none⟩ = _ := (hS.cell (p := ⟨b, o + k * 7, none⟩) HBL.out).trans HCI.out; exact hI.z1 hK (hI.r hd 7 42 true)
     · intro _ A0 w2 hI hd hnd K hK; have e0 := hI.p hd 13 48; have e1 := hI.p hd 18 53; have hS := hI.world
       have hoib := HOIB.out
       exact hI.z1 hK (hI.r hd 7 42 true)
     · intro _ A0 w2 hI hd hnd K hK; have e0 := hI.p hd 7 42; have e1 := hI.p hd 19 54; exact hI.z hK
   · intro _ A0 w2 hI hall; have hS := hI.world; have c9 := hI.ch hall [35, 36, 37, 38, 39, 40, 41, 42, 43, 44, 45, 46, 47, 48, 49, 50, 51, 52, 53, 54, 55]; obtain ⟨x0, x1, x2, x3, x4, x5, x6, x7, x8, x9, x10, x11, x12, x13, x14, x15, x16, x17, x18, x19, x20, hA, hV⟩ := c9
     obtain rfl : x20 = .bool false := hV 20 _ _ rfl _ rfl
     clear hV hI hall
     simp only [setAll, List.foldl, List.setIfInBounds_toArray, List.set_cons_zero, List.set_cons_succ] at hA
     rw [hA]
     clear hA
     go_wp2_with fail
     go_meet
     exact ⟨rfl, hS⟩
  case neg =>
   have HK3B := Lib.hid (show (yk == 3) = false from by simpa using hk3)
   clear hrv hk3
   refine wp_region_inv' (Ks w4 [.val (.slice (some ⟨b, o, none⟩) n c), .val (.int .i64 (k : Int)), .val (.int .i64 (k1 : Int)), .val (.pointer (some ⟨b, o + k1 * 7, none⟩)), .val (.pointer (some ⟨b, o + k1 * 7 + 3, none⟩)), .val (.int .i64 yk), .val (.bool false), .val (.bool false), .val (undef), .val (undef), .val (undef), .val (undef), .val (undef), .val (undef), .val (undef), .val (undef), .val (undef), .val (undef), .val (undef), .val (undef), .val (.bool false)])
    (fun w' => Below w4.heap.size w4 w') (by kernel_rfl) (by kernel_rfl) (by kernel_rfl) (Below.refl _ _).drew ?_ ?_
   · refine ⟨?_, ?_, ?_, ?_, ?_, ?_, ?_, ?_, ?_, ?_, ?_, ?_, ?_, ?_, ?_, ?_, ?_, ?_, ?_, ?_, ?_, trivial⟩
     · intro _ A0 w2 hI hd hnd K hK; have e0 := hI.q hnd 1; exact hI.z hK
     · intro _ A0 w2 hI hd hnd K hK; have e0 := hI.q hnd 7; exact hI.z hK
     · intro _ A0 w2 hI hd hnd K hK; have e0 := hI.p hd 1 36; have hS := hI.world
       have hk1 := HK1.out
       have hwr := HWR.out
       exact hI.z hK
     · intro _ A0 w2 hI hd hnd K hK
       have hmi1 := HMI1.out
       have hmi := HMI.out
       have e0 := hI.p hd 0 35; have e1 := hI.p hd 2 37; exact hI.z hK
     · intro _ A0 w2 hI hd hnd K hK; have e0 := hI.p hd 3 38; exact hI.z hK
     · intro _ A0 w2 hI hd hnd K hK; have e0 := hI.p hd 4 39; have hS := hI.world; have hcc : w2.cell? ⟨b, o + k1 * 7 + 3, none⟩ = _ := (hS.cell (p := ⟨b, o + k1 * 7 + 3, none⟩) HBL.out).trans HCK.out; exact hI.z hK
     · intro _ A0 w2 hI hd hnd K hK; have e0 := hI.p hd 5 40; have hS := hI.world
       have hk3b := HK3B.out
       exact hI.z hK
     · intro _ A0 w2 hI hd hnd K hK; have e0 := hI.p hd 6 41; exact hI.z hK
     iterate 12 (· intro _ A0 w2 hI hd hnd K hK; exact hI.z2 hK (hI.r hd 7 42 false))
     · intro _ A0 w2 hI hd hnd K hK; have e0 := hI.p hd 7 42; have e1 := hI.p hd 19 54; exact hI.z hK
   · intro _ A0 w2 hI hall; have hS := hI.world; have c9 := hI.ch hall [35, 36, 37, 38, 39, 40, 41, 42, 43, 44, 45, 46, 47, 48, 49, 50, 51, 52, 53, 54, 55]; obtain ⟨x0, x1, x2, x3, x4, x5, x6, x7, x8, x9, x10, x11, x12, x13, x14, x15, x16, x17, x18, x19, x20, hA, hV⟩ := c9
     obtain rfl : x20 = .bool false := hV 20 _ _ rfl _ rfl
     clear hV hI hall
     simp only [setAll, List.foldl, List.setIfInBounds_toArray, List.set_cons_zero, List.set_cons_succ] at hA
     rw [hA]
     clear hA
     go_wp2_with fail
     go_meet
     exact ⟨rfl, hS⟩
 case rest =>
 obtain ⟨hv, hbx⟩ := hcut
 subst hv
 have hb5 := hbx
 generalize wc = w5 at *
 have hb05 := hb04.trans (hb5.mono hb04.size)
 have hs5 := hb5.size
 have LT05 := Nat.lt_of_lt_of_le LT04 hs5
 have LT15 := Nat.lt_of_lt_of_le LT14 hs5
 have HH5 := Lib.hid ((hb5.block _ LT04).trans HH4.out)
 have HZ5 := Lib.hid ((hb5.block _ LT14).trans HZ4.out)
 obtain ⟨css, hcl, hc7, hcE, hrd⟩ := rd_css (fun cs x h => EntryC.len h) (by omega) (entries_keep HL.out hb05)
 rw [HN.out] at hrd
 have HONE := Lib.hid (css_one (fun _ _ h => entry_one h) hcl hcE)
 have HC7 := Lib.hid hc7
 have HCL := Lib.hid (show css.length = n by rw [hcl, HN.out])
 have HCLL := Lib.hid hcl
 have HCE := Lib.hid hcE
 have HRD := Lib.hid hrd
 obtain ⟨a9, ha9, hat⟩ := hrd.2 (by have := HMI.out; omega)
 have hta : At w5 (· < w5.heap.size) ⟨b, o, none⟩ css.flatten := by
  have e : a9 = ⟨b, o, none⟩ := by simpa using ha9.symm
  rw [← e]; exact hat
 have HTA := Lib.hid hta
 obtain ⟨F9, hF9⟩ : ∃ F, css.flatten = F := ⟨_, rfl⟩
 rw [hF9] at HRD HONE
 have HF9 := Lib.hid hF9
 have HLM := Lib.hid (show n ≤ maxLen by have := H61.out; unfold maxLen; omega)
 have HLB := Lib.hid (show n * 80 ≤ 140737488355328 by have := H61.out; omega)
 clear hcl hc7 hcE hrd ha9 hat hta hF9 hbx
 go_upto_region 9 with (show wpList _ _ _ (Oper.mk (some 58) _ _ _ _ _ :: _) _ _; refine wpList_plain rfl fun K' hK' => ?_; refine wp_app_made2 (w := w5.alloc (.cells #[] 36)) (.tmp 56) (.tmp 57) 30 rfl w5.heap.size 36 ib _ 7 80 entries_uty hib hzib hsib hbib rfl (by decide) w5.heap.size rfl (heap_alloc_new w5 _) (Nat.le_refl _) (· < w5.heap.size) (some ⟨b, o, none⟩) n c F9 rfl (HRD.out.fr (Fr.ofBelow (below1 w5 _))) HONE.out HLM.out HLB.out (below1 w5 _).size ?_; intro v9 w9 hown9 hb9; refine hK' _ _ ?_; clear hK' K'; have OWN0 := Lib.hid hown9; clear hown9)
 obtain ⟨A9, n9, c9, rfl⟩ := own_shape OWN0.out
 obtain rfl : n9 = n := own_val OWN0.out
 obtain ⟨gm, rfl, hgb, hgl⟩ := own_some OWN0.out (by have := HMI.out; omega)
 replace hb9 := (below1 w5 (.cells #[] 36)).trans (hb9.mono (below1 w5 _).size)
 have OWN9 := Lib.hid (show w9.ownsRow w5.heap.size 36 7 (.slice (some ⟨gm, 0, none⟩) n9 c9) n9 (xchR css k false false).flatten by rw [show xchR css k false false = css from rfl, HF9.out]; exact OWN0.out)
 have HGC := Lib.hid (own_cap OWN0.out)
 generalize n9 = n at *
 have hb09 := hb05.trans (hb9.mono hb05.size)
 have hs9 := hb9.size
 have LT09 := Nat.lt_of_lt_of_le LT05 hs9
 have LT19 := Nat.lt_of_lt_of_le LT15 hs9
 have HH9 := Lib.hid ((hb9.block _ LT05).trans HH5.out)
 have HZ9 := Lib.hid ((hb9.block _ LT15).trans HZ5.out)
 obtain ⟨ex, hex⟩ : ∃ x, css.getD k [] = x := ⟨_, rfl⟩
 obtain ⟨ey, hey⟩ : ∃ x, css.getD (k + 1) [] = x := ⟨_, rfl⟩
 have HEX := Lib.hid hex
 have HEY := Lib.hid hey
 have hsz : ∀ j, j < n → (css.getD j []).length = 7 ∧ (∀ u ∈ css.getD j [], u.oneCell' = true) ∧ At w9 (fun q => q ≠ gm) ⟨b, o + j * 7, none⟩ (css.getD j []) := fun j hj => by
  have hjl : j < css.length := by rw [HCL.out]; exact hj
  have e : css.getD j [] = css[j] := by simp [List.getD_eq_getElem?_getD, hjl]
  rw [e]
  refine ⟨HC7.out _ (List.getElem_mem hjl), fun u hu => HONE.out u (by rw [← HF9.out]; exact List.mem_flatten.2 ⟨_, List.getElem_mem hjl, hu⟩), ?_⟩
  exact ((At.flat HC7.out o HTA.out j _ (List.getElem?_eq_getElem hjl)).fr (Fr.ofBelow hb9)).mono (fun q hq => by omega)
 obtain ⟨x7, x1, xa⟩ := hsz k (by have := HMI.out; omega)
 obtain ⟨y7, y1, ya⟩ := hsz (k + 1) (by have := HMI1.out; have := HK1.out; omega)
 rw [hex] at x7 x1 xa
 rw [hey, HKN.out] at ya
 rw [hey] at y7 y1
 have HEX7 := Lib.hid x7
 have HEY7 := Lib.hid y7
 have HEX1 := Lib.hid x1
 have HEY1 := Lib.hid y1
 have HAX := Lib.hid xa
 have HAY := Lib.hid ya
 have HIX := Lib.hid (show (Try.prog.info? 36).map (·.size) = some ex.length by rw [info_entry, x7])
 have HIY := Lib.hid (show (Try.prog.info? 36).map (·.size) = some ey.length by rw [info_entry, y7])
 have HIX2 := Lib.hid (show (Try.prog.info? 36).map (·.size) = some ex.toArray.size by rw [info_entry]; simp [x7])
 have HIY2 := Lib.hid (show (Try.prog.info? 36).map (·.size) = some ey.toArray.size by rw [info_entry]; simp [y7])
 have HGL := Lib.hid (And.intro hgb hgl)
 clear hex hey hsz x7 x1 xa y7 y1 ya hgb hgl
 refine wp_region_invL' (Ks w9 [.val (.slice (some ⟨gm, 0, none⟩) n c9), .val (.int .i64 (k : Int)), .val (.slice (some ⟨gm, 0, none⟩) n c9), .val (.int .i64 (k : Int)), .val (.int .i64 (k1 : Int)), .val (.slice (some ⟨b, o, none⟩) n c), .val (.int .i64 (k : Int)), .val (.int .i64 (k1 : Int)), .val (.pointer (some ⟨b, o + k1 * 7, none⟩)), .val (.agg ey.toArray), .val (.slice (some ⟨b, o, none⟩) n c), .val (.int .i64 (k : Int)), .val (.pointer (some ⟨b, o + k * 7, none⟩)), .val (.agg ex.toArray), .val (.pointer (some ⟨gm, k * 7, none⟩)), .val (undef), .val (.pointer (some ⟨gm, k1 * 7, none⟩)), .val (undef)])
  (EntS w5.heap.size gm n c9 css k w9) (by kernel_rfl) (by kernel_rfl) (by kernel_rfl) ⟨(Fr.refl _ _).drew, OWN9.out⟩ ?_ ?_
 · refine ⟨?_, ?_, ?_, ?_, ?_, ?_, ?_, ?_, ?_, ?_, ?_, ?_, ?_, ?_, ?_, ?_, ?_, ?_, trivial⟩
   · intro _ A0 w2 hI hd hnd K hK; have e0 := hI.q hnd 8; have hS := hI.world; refine wanted_go rfl ?_; clear hI hd hnd; go_simp
     exact hK.out _ _ (hS.other 0 (by decide) (by decide)) (Ks.of rfl rfl) (fun _ _ h => h)
   · intro _ A0 w2 hI hd hnd K hK; have e0 := hI.q hnd 7; have hS := hI.world; refine wanted_go rfl ?_; clear hI hd hnd; go_simp
     exact hK.out _ _ (hS.other 1 (by decide) (by decide)) (Ks.of rfl rfl) (fun _ _ h => h)
   · intro _ A0 w2 hI hd hnd K hK; have e0 := hI.q hnd 8; have hS := hI.world; refine wanted_go rfl ?_; clear hI hd hnd; go_simp
     exact hK.out _ _ (hS.other 2 (by decide) (by decide)) (Ks.of rfl rfl) (fun _ _ h => h)
   · intro _ A0 w2 hI hd hnd K hK; have e0 := hI.q hnd 7; have hS := hI.world; refine wanted_go rfl ?_; clear hI hd hnd; go_simp
     exact hK.out _ _ (hS.other 3 (by decide) (by decide)) (Ks.of rfl rfl) (fun _ _ h => h)
   · intro _ A0 w2 hI hd hnd K hK; have e0 := hI.p hd 3 62; have hS := hI.world
     have hk1 := HK1.out
     have hwr := HWR.out
     refine wanted_go rfl ?_; clear hI hd hnd; go_simp
     exact hK.out _ _ (hS.other 4 (by decide) (by decide)) (Ks.of rfl rfl) (fun _ _ h => h)
   · intro _ A0 w2 hI hd hnd K hK; have e0 := hI.q hnd 1; have hS := hI.world; refine wanted_go rfl ?_; clear hI hd hnd; go_simp
     exact hK.out _ _ (hS.other 5 (by decide) (by decide)) (Ks.of rfl rfl) (fun _ _ h => h)
   · intro _ A0 w2 hI hd hnd K hK; have e0 := hI.q hnd 7; have hS := hI.world; refine wanted_go rfl ?_; clear hI hd hnd; go_simp
     exact hK.out _ _ (hS.other 6 (by decide) (by decide)) (Ks.of rfl rfl) (fun _ _ h => h)
   · intro _ A0 w2 hI hd hnd K hK; have e0 := hI.p hd 6 65; have hS := hI.world
     have hk1 := HK1.out
     have hwr := HWR.out
     refine wanted_go rfl ?_; clear hI hd hnd; go_simp
     exact hK.out _ _ (hS.other 7 (by decide) (by decide)) (Ks.of rfl rfl) (fun _ _ h => h)
   · intro _ A0 w2 hI hd hnd K hK
     have hmi1 := HMI1.out
     have hmi := HMI.out
     have e0 := hI.p hd 5 64; have e1 := hI.p hd 7 66; have hS := hI.world; refine wanted_go rfl ?_; clear hI hd hnd; go_simp
     exact hK.out _ _ (hS.other 8 (by decide) (by decide)) (Ks.of rfl rfl) (fun _ _ h => h)
   · intro _ A0 w2 hI hd hnd K hK; have e0 := hI.p hd 8 67; have hS := hI.world
     have hrange := (HAY.out.fr hS.1).range
     have hisize := HIY.out
     refine wanted_go rfl ?_; clear hI hd hnd
     refine wp_load_mid 36 (.tmp 67) rfl _ _ (by simpa [Act.eval, Array.getD_eq_getD_getElem?] using e0) _ _ hrange Try.underlying36 rfl hisize ?_
     exact hK.out _ _ (hS.other 9 (by decide) (by decide)) (Ks.of rfl rfl) (fun _ _ h => h)
   · intro _ A0 w2 hI hd hnd K hK; have e0 := hI.q hnd 1; have hS := hI.world; refine wanted_go rfl ?_; clear hI hd hnd; go_simp
     exact hK.out _ _ (hS.other 10 (by decide) (by decide)) (Ks.of rfl rfl) (fun _ _ h => h)
   · intro _ A0 w2 hI hd hnd K hK; have e0 := hI.q hnd 7; have hS := hI.world; refine wanted_go rfl ?_; clear hI hd hnd; go_simp
     exact hK.out _ _ (hS.other 11 (by decide) (by decide)) (Ks.of rfl rfl) (fun _ _ h => h)
   · intro _ A0 w2 hI hd hnd K hK
     have hmi1 := HMI1.out
     have hmi := HMI.out
     have e0 := hI.p hd 10 69; have e1 := hI.p hd 11 70; have hS := hI.world; refine wanted_go rfl ?_; clear hI hd hnd; go_simp
     exact hK.out _ _ (hS.other 12 (by decide) (by decide)) (Ks.of rfl rfl) (fun _ _ h => h)
   · intro _ A0 w2 hI hd hnd K hK; have e0 := hI.p hd 12 71; have hS := hI.world
     have hrange := (HAX.out.fr hS.1).range
     have hisize := HIX.out
     refine wanted_go rfl ?_; clear hI hd hnd
     refine wp_load_mid 36 (.tmp 71) rfl _ _ (by simpa [Act.eval, Array.getD_eq_getD_getElem?] using e0) _ _ hrange Try.underlying36 rfl hisize ?_
     exact hK.out _ _ (hS.other 13 (by decide) (by decide)) (Ks.of rfl rfl) (fun _ _ h => h)
   · intro _ A0 w2 hI hd hnd K hK
     have hmi1 := HMI1.out
     have hmi := HMI.out
     have e0 := hI.p hd 0 59; have e1 := hI.p hd 1 60; have hS := hI.world; refine wanted_go rfl ?_; clear hI hd hnd; go_simp
     exact hK.out _ _ (hS.other 14 (by decide) (by decide)) (Ks.of rfl rfl) (fun _ _ h => h)
   · intro _ A0 w2 hI hd hnd K hK; have e0 := hI.p hd 14 73; have e1 := hI.p hd 9 68; have hS := hI.world
     have hsz := hI.lsize
     have hth := hS.there k (by have := HMI1.out; have := HK1.out; omega)
     refine wanted_go rfl ?_; clear hI hd hnd
     refine wp_store_mid 36 (.tmp 73) (.tmp 68) rfl gm (k * 7) ey.toArray (by simpa [Act.eval, Array.getD_eq_getD_getElem?] using e0) (by simpa [Act.eval, Array.getD_eq_getD_getElem?] using e1) (by rw [show ey.toArray.size = 7 from HEY7.out]; exact hth) HIY2.out (all_oneCell_toArray HEY1.out) ?_
     exact hK.out undef _ (by have h := hS.set15 (by rw [hsz]; decide) HC7.out HCL.out (by have := HMI1.out; have := HK1.out; omega) rfl; rw [HEY.out] at h; exact h) (Ks.of rfl rfl) (fun _ _ h => Ks.vals (by simp) h)
   · intro _ A0 w2 hI hd hnd K hK
     have hmi1 := HMI1.out
     have hmi := HMI.out
     have e0 := hI.p hd 2 61; have e1 := hI.p hd 4 63; have hS := hI.world; refine wanted_go rfl ?_; clear hI hd hnd; go_simp
     exact hK.out _ _ (hS.other 16 (by decide) (by decide)) (Ks.of rfl rfl) (fun _ _ h => h)
   · intro _ A0 w2 hI hd hnd K hK; have e0 := hI.p hd 16 74; have e1 := hI.p hd 13 72; have hS := hI.world
     have hsz := hI.lsize
     have hth := hS.there k1 (by have := HMI1.out; have := HK1.out; omega)
     refine wanted_go rfl ?_; clear hI hd hnd
     refine wp_store_mid 36 (.tmp 74) (.tmp 72) rfl gm (k1 * 7) ex.toArray (by simpa [Act.eval, Array.getD_eq_getD_getElem?] using e0) (by simpa [Act.eval, Array.getD_eq_getD_getElem?] using e1) (by rw [show ex.toArray.size = 7 from HEX7.out]; exact hth) HIX2.out (all_oneCell_toArray HEX1.out) ?_
     exact hK.out undef _ (by have h := hS.set17 (by rw [hsz]; decide) HC7.out HCL.out (by have := HMI1.out; have := HK1.out; omega); rw [HEX.out] at h; rw [show k + 1 = k1 from HKN.out] at h; exact h) (Ks.of rfl rfl) (fun _ _ h => Ks.vals (by simp) h)
 · intro _ A0 w2 hI hall; obtain ⟨x0, g0, h0⟩ := hI.got 0 _ 59 rfl rfl (hall 0 (by decide)); obtain ⟨x1, g1, h1⟩ := hI.got 1 _ 60 rfl rfl (hall 1 (by decide)); obtain ⟨x2, g2, h2⟩ := hI.got 2 _ 61 rfl rfl (hall 2 (by decide)); obtain ⟨x3, g3, h3⟩ := hI.got 3 _ 62 rfl rfl (hall 3 (by decide)); obtain ⟨x4, g4, h4⟩ := hI.got 4 _ 63 rfl rfl (hall 4 (by decide)); obtain ⟨x5, g5, h5⟩ := hI.got 5 _ 64 rfl rfl (hall 5 (by decide)); obtain ⟨x6, g6, h6⟩ := hI.got 6 _ 65 rfl rfl (hall 6 (by decide)); obtain ⟨x7, g7, h7⟩ := hI.got 7 _ 66 rfl rfl (hall 7 (by decide)); obtain ⟨x8, g8, h8⟩ := hI.got 8 _ 67 rfl rfl (hall 8 (by decide)); obtain ⟨x9, g9, h9⟩ := hI.got 9 _ 68 rfl rfl (hall 9 (by decide)); obtain ⟨x10, g10, h10⟩ := hI.got 10 _ 69 rfl rfl (hall 10 (by decide)); obtain ⟨x11, g11, h11⟩ := hI.got 11 _ 70 rfl rfl (hall 11 (by decide)); obtain ⟨x12, g12, h12⟩ := hI.got 12 _ 71 rfl rfl (hall 12 (by decide)); obtain ⟨x13, g13, h13⟩ := hI.got 13 _ 72 rfl rfl (hall 13 (by decide)); obtain ⟨x14, g14, h14⟩ := hI.got 14 _ 73 rfl rfl (hall 14 (by decide)); obtain ⟨x16, g16, h16⟩ := hI.got 16 _ 74 rfl rfl (hall 16 (by decide)); have hS := hI.world
   have HD15 := hall 15 (by decide)
   have HD17 := hall 17 (by decide)
   have hA : A0 = _ := hI.tmps [(59, x0), (60, x1), (61, x2), (62, x3), (63, x4), (64, x5), (65, x6), (66, x7), (67, x8), (68, x9), (69, x10), (70, x11), (71, x12), (72, x13), (73, x14), (74, x16)] (by simp only [List.mem_cons, List.not_mem_nil, or_false, forall_eq_or_imp, forall_eq]; exact ⟨g0, g1, g2, g3, g4, g5, g6, g7, g8, g9, g10, g11, g12, g13, g14, g16⟩) (by kernel_rfl)
   clear h0 g0 h1 g1 h2 g2 h3 g3 h4 g4 h5 g5 h6 g6 h7 g7 h8 g8 h9 g9 h10 g10 h11 g11 h12 g12 h13 g13 h14 g14 h16 g16 hI hall
   simp only [setAll, List.foldl, List.setIfInBounds_toArray, List.set_cons_zero, List.set_cons_succ] at hA
   rw [hA]
   clear hA
   obtain ⟨hfr, hown⟩ := (show Fr (fun q => q ≠ gm) w9 w2 ∧ w2.ownsRow w5.heap.size 36 7 (.slice (some ⟨gm, 0, none⟩) n c9) n (xchR css k true true).flatten by
    have h15 := HD15
    have h17 := HD17
    unfold Done at h15 h17
    unfold EntS at hS
    rw [h15, h17] at hS
    exact hS)
   have hb10 : Below w5.heap.size w5 w2 := hb9.trans (hfr.mono (fun q (hq : q < w5.heap.size) => by have := HGL.out.1; omega)).below
   generalize w2 = w10 at *
   have HSW := Lib.hid (show ListC EntryC 7 w10 (· < w10.heap.size) [.slice (some ⟨gm, 0, none⟩) n c9] (swapL l k) from
    swap_list (Q := fun q => q < w10.heap.size) HCLL.out HN.out HC7.out (fun i x hi => by
     obtain ⟨cs, h1, h2⟩ := HCE.out i x hi
     exact ⟨cs, h1, (h2.fr (Fr.ofBelow hb10)).mono (fun q hq => Nat.lt_of_lt_of_le hq hb10.size)⟩) (by have := HMI1.out; have := HK1.out; omega) hown (Nat.lt_of_lt_of_le HGL.out.2 hfr.size))
   clear hS hfr hown HD15 HD17
   have hb010 := hb05.trans (hb10.mono hb05.size)
   have hs10 := hb10.size
   have LT010 := Nat.lt_of_lt_of_le LT05 hs10
   have LT110 := Nat.lt_of_lt_of_le LT15 hs10
   have HH10 := Lib.hid ((hb10.block _ LT05).trans HH5.out)
   have HZ10 := Lib.hid ((hb10.block _ LT15).trans HZ5.out)
   have p0 := blk_cell HZ10.out 0
   have p1 := blk_cell HZ10.out 1
   have p2 := blk_cell HZ10.out 2
   go_wp2_with (show wpList _ _ _ (Oper.mk (some 76) _ _ _ _ _ :: _) _ _; refine wpList_load_row_g rfl 29 (.tmp 3) rfl (w.heap.size) rfl _ _ _ _ HH10.out Try.underlying29 rfl (by rw [info_group]; exact congrArg some HGS.out.symm) ?_)
   refine (HTR.out w10 hb010 HFP.out).mono ?_
   rintro e w11 ⟨r, A1, c1, ts, rfl, hr, ht1, ht2, htl, hlc, hb11⟩
   have HR := Lib.hid hr
   have HT1 := Lib.hid ht1
   have HT2 := Lib.hid ht2
   have HLC := Lib.hid hlc
   clear p0 p1 p2 hr ht1 ht2 hlc
   obtain ⟨nt, hnt⟩ : ∃ x, ts.length = x := ⟨_, rfl⟩
   have HNT := Lib.hid hnt
   rw [hnt] at htl ⊢
   clear hnt
   have hb011 := hb010.trans (hb11.mono hb010.size)
   have hs11 := hb11.size
   have LT011 := Nat.lt_of_lt_of_le LT010 hs11
   have LT111 := Nat.lt_of_lt_of_le LT110 hs11
   have HH11 := Lib.hid ((hb11.block _ LT010).trans HH10.out)
   have HZ11 := Lib.hid ((hb11.block _ LT110).trans HZ10.out)
   have p0 := blk_cell HZ11.out 0
   have p1 := blk_cell HZ11.out 1
   have p2 := blk_cell HZ11.out 2
   have hswl : (swapL l k).length = n := by rw [swap_length, HN.out]
   have htm := trial_c g (swapL l k) gl (some ⟨gm, 0, none⟩) c9 a1 a2 w11 (HG.out.keep hb011) (by rw [hswl]; exact entries_keep HSW.out hb11) HFP.out.2.2.small (swap_modest (by rw [HN.out]; have := HMI1.out; have := HK1.out; omega) (few_modest HFP.out)) (by rw [hswl]; have := H61.out; omega)
   rw [hswl] at htm
   have HTM := Lib.hid htm
   clear htm hswl
   go_wp2_with (show wpList _ _ _ (Oper.mk (some 86) _ _ _ _ _ :: _) _ _; refine wpList_load_row_g rfl 29 (.tmp 3) rfl (w.heap.size) rfl _ _ _ _ HH11.out Try.underlying29 rfl (by rw [info_group]; exact congrArg some HGS.out.symm) ?_)
   refine HTM.out.mono ?_
   rintro e w12 ⟨s, A2, c2, us, rfl, hs, hu1, hu2, hul, hlc2, hb12⟩
   have hb012 := hb011.trans (hb12.mono hb011.size)
   obtain ⟨nu, hnu⟩ : ∃ x, us.length = x := ⟨_, rfl⟩
   rw [hnu] at hul ⊢
   by_cases hr1 : r = 1
   case pos =>
    subst hr1
    clear hs hu1 hu2 hlc2 hnu p0 p1 p2
    go_wp2_with fail
    go_ret
    exact ⟨rfl, hb012⟩
   case neg =>
   obtain ⟨hsr, hus⟩ := order_law (by rw [HN.out]; have := HMI1.out; have := HK1.out; omega) (by rw [HXD.out, HYD.out]; exact HNR.out) HR.out hs hr1 HT1.out HT2.out hu1 hu2
   subst hsr hus
   obtain rfl : nt = nu := HNT.out.symm.trans hnu
   have hrb : (s == 1) = false := by simpa using hr1
   have hss : (s == s) = true := by simp
   have HSM := Lib.hid (show Calls Try.prog 8 #[.slice A1 nt c1, .slice A2 nt c2] w12 (Quiet w12 (.bool true)) by
    have h := same08_c us A1 A2 c1 c2 w12 ((ListC.fr HLC.out (fun h => BalanceC.fr h (Fr.ofBelow hb12)) (Fr.ofBelow hb12)).mono (fun h => BalanceC.mono h (fun q hq => Nat.lt_of_lt_of_le hq hb12.size)) (fun q hq => Nat.lt_of_lt_of_le hq hb12.size)) hlc2
    rwa [hnu] at h)
   clear hs hu1 hu2 hlc2 hnu p0 p1 p2 hr1
   go_wp2_with (go_at_call 8; refine HSM.out.mono ?_; rintro e w13 ⟨rfl, hb13⟩)
   go_ret
   exact ⟨rfl, hb012.trans (hb13.mono hb012.size)⟩
end Go.Proofs.Ytekelchdbkjjjaa
