/- The reference's Line. Written by gen_j4.py. -/
import Derived.Test.YtebdajkknkapcaaGreatG13xB0B2
import Derived.Test.YtebdajkknkapcaaGreatG13xB3B8
import Derived.Test.YtebdajkknkapcaaGreatG13xB14
import Derived.Test.YtebdajkknkapcaaGreatG13xB16
import Derived.Test.YtebdajkknkapcaaGreatG13xB17B24
import Derived.Test.YtebdajkknkapcaaGreatG13xB33S2
import Derived.Test.YtebdajkknkapcaaGreatG13xC4E3
import Derived.Test.YtebdajkknkapcaaGreatG13xE6F6
import Derived.Test.YtebdajkknkapcaaGreatG13xF4I7
import Derived.Test.YtebdajkknkapcaaGreatG13xI8I11
import Derived.Test.YtebdajkknkapcaaGreatG13xI12
import Derived.Test.YtebdajkknkapcaaGreatG13xI13I15
import Derived.Test.YtebdajkknkapcaaGreatG13xI16I18
import Derived.Test.YtebdajkknkapcaaGreatG13xI19Q2
import Derived.Test.YtebdajkknkapcaaGreatG13xK1J3
import Derived.Test.YtebdajkknkapcaaGreatProg
set_option linter.unusedVariables false
set_option linter.unusedSimpArgs false
set_option maxRecDepth 4000
attribute [local go_sem ↓] Go.wp_at_zero Go.wp_at_succ
namespace Go.Proofs.YtebdajkknkapcaaGreat
open Go Go.RowKit
set_option maxHeartbeats 4000000 in
theorem rline_j (es : List XEntry) (A : Option Addr) (c : Nat) (re rl : Int) (w : World) (hl : ListC EntryC 7 w (· < w.heap.size) [.slice A es.length c] es) : Calls Tryz.prog 60 #[.slice A es.length c, .agg #[.int .i64 re, .int .i64 rl]] w (Quiet w (lineV (lineJ es re rl))) := by
 have HGT := Lib.hid (fun (w2 : World) (hb : Below w.heap.size w w2) => rget_c es A c re w2 (entries_keep hl hb))
 have HL := Lib.hid hl
 have hcap := hl.cap
 unfold maxLen at hcap
 obtain ⟨R, hR⟩ : ∃ R, lineJ es re rl = R := ⟨_, rfl⟩
 have HR := Lib.hid hR
 rw [hR]
 obtain ⟨n, hnl⟩ : ∃ n, es.length = n := ⟨_, rfl⟩
 have HN := Lib.hid hnl
 rw [hnl] at hcap HGT ⊢
 clear hl hR hnl
 go_enter Tryz.func60, Tryz.ntmps60
 go_upto_region 1 with fail
 have H := heap_alloc_new w (.cells #[.int .i64 re, .int .i64 rl] 45)
 have HB := below1 w (.cells #[.int .i64 re, .int .i64 rl] 45)
 have HS := blk_lt H
 generalize hW : w.alloc (Obj.cells #[.int .i64 re, .int .i64 rl] 45) = W at *
 have H2 := heap_alloc_new W (.cells #[.int .i64 0, .int .i64 0, .int .i64 0] 52)
 have HB2 := below1 W (.cells #[.int .i64 0, .int .i64 0, .int .i64 0] 52)
 have HS2 := blk_lt H2
 replace H := alloc_keep H (Obj.cells #[.int .i64 0, .int .i64 0, .int .i64 0] 52)
 generalize hW2 : W.alloc (Obj.cells #[.int .i64 0, .int .i64 0, .int .i64 0] 52) = W2 at *
 clear hW2
 have eW : W.heap.size = w.heap.size + 1 := by rw [← hW]; simp
 rw [eW] at H2
 clear hW
 have hb2 := HB.trans (HB2.mono HB.size)
 have hs2 := HB2.size
 have LT1 := blk_lt H2
 have LT0 : w.heap.size < W2.heap.size := by omega
 have HH := Lib.hid H
 have HZ := Lib.hid H2
 have EW := Lib.hid eW
 clear H H2 eW
 have c0 := blk_cell HH.out 0
 obtain ⟨gi, hgi⟩ : ∃ gi, getI es re = gi := ⟨_, rfl⟩
 have HGE := Lib.hid (getI_of (es := es) (id := re))
 rw [hgi] at HGT HGE
 go_wp2_with fail
 refine (HGT.out W2 hb2).mono ?_
 rintro e w3 ⟨rfl, hb3⟩
 have hb03 := hb2.trans (hb3.mono hb2.size)
 have LT13 := Nat.lt_of_lt_of_le LT1 hb3.size
 have LT03 := Nat.lt_of_lt_of_le LT0 hb3.size
 have HZ3 := Lib.hid ((hb3.block _ LT1).trans HZ.out)
 have HH3 := Lib.hid ((hb3.block _ LT0).trans HH.out)
 have X1 := Lib.hid (show w3.cell? ⟨w.heap.size, 1, none⟩ = some (.int .i64 rl) from blk_cell HH3.out 1)
 clear c0 HGT hgi
 rcases HGE.out with ⟨hno, rfl⟩ | ⟨k, hix, rfl⟩
 case inl =>
  have HF := Lib.hid (show R = none by rw [← HR.out]; unfold lineJ; rw [hno])
  clear hno HGE
  go_upto_region 2 with fail
  refine wp_region_inv (Ks w3 [.val (.int .i64 (-1)), .val (.bool true), .val (.bool true), .val (undef), .val (undef), .val (undef), .val (.bool true), .val (.bool true), .val (undef), .val (undef), .val (undef), .val (undef), .val (undef), .val (undef), .val (undef), .val (undef), .val (undef), .val (.bool true)])
   (fun w' => Below w3.heap.size w3 w') (by kernel_rfl) (by kernel_rfl) (by kernel_rfl) (Below.refl _ _).drew ?_ ?_
  · refine ⟨?_, ?_, ?_, ?_, ?_, ?_, ?_, ?_, ?_, ?_, ?_, ?_, ?_, ?_, ?_, ?_, ?_, ?_, trivial⟩
    · intro _ A0 w2 hI hd hnd K hK; have e0 := hI.q hnd 6; exact hI.z hK
    · intro _ A0 w2 hI hd hnd K hK; have e0 := hI.p hd 0 11; exact hI.z hK
    · intro _ A0 w2 hI hd hnd K hK; have e0 := hI.p hd 1 12; exact hI.z hK
    iterate 3 (· intro _ A0 w2 hI hd hnd K hK; exact hI.z2 hK (hI.r hd 2 13 true))
    · intro _ A0 w2 hI hd hnd K hK; have e0 := hI.p hd 2 13; have e1 := hI.p hd 5 16; exact hI.z hK
    · intro _ A0 w2 hI hd hnd K hK; have e0 := hI.p hd 6 17; exact hI.z hK
    iterate 9 (· intro _ A0 w2 hI hd hnd K hK; exact hI.z2 hK (hI.r hd 7 18 true))
    · intro _ A0 w2 hI hd hnd K hK; have e0 := hI.p hd 7 18; have e1 := hI.p hd 16 27; exact hI.z hK
  · intro _ A0 w2 hI hall; have hS := hI.world; obtain ⟨x0, -, x1, -, x2, -, x3, -, x4, -, x5, -, x6, -, x7, -, x8, -, x9, -, x10, -, x11, -, x12, -, x13, -, x14, -, x15, -, x16, -, x17, h17, hA⟩ := hI.ch hall [11, 12, 13, 14, 15, 16, 17, 18, 19, 20, 21, 22, 23, 24, 25, 26, 27, 28]
    obtain rfl : x17 = .bool true := h17 _ rfl
    clear h17 hI hall
    simp only [Ch, setAll, List.foldl, List.setIfInBounds_toArray, List.set_cons_zero, List.set_cons_succ] at hA
    rw [hA]
    clear hA
    have hb04 := hb03.trans (hS.mono hb03.size)
    have HZ4 := Lib.hid ((hS.block _ LT13).trans HZ3.out)
    clear hS
    go_wp2_with (show wpList _ _ _ (Oper.mk none (Op.store _ (Operand.tmp 4) _) _ _ _ _ :: _) _ _; refine wpList_store_row rfl 52 (.tmp 4) (.tmp 29) rfl (w.heap.size + 1) #[.int .i64 0, .int .i64 0, .int .i64 0] rfl rfl 52 #[.int .i64 0, .int .i64 0, .int .i64 0] HZ4.out (by rw [info_line]; rfl) rfl (by simp [Value.oneCell']) ?_)
    refine bodyPost_ret (v := _) (results_cell_tmp rfl _ _ (w.heap.size + 1) 52 #[.int .i64 0, .int .i64 0, .int .i64 0] (0, 0) _ rfl (heap_setRow HZ4.out _) Tryz.underlying52 rfl info_line _ rfl) rfl ⟨by rw [HF.out]; rfl, below_setRow hb04 (by omega) _⟩
 case inr =>
 obtain ⟨hk, hki⟩ := idxE_some hix
 obtain ⟨b, o, cs, hAe, hbw, hxc, hat⟩ := ListC.get (n := n) (by have h := HL.out; rw [HN.out] at h; exact h) k hk
 subst hAe
 obtain ⟨Al, cl, hcs, hxb, hls⟩ := EntryC.lit hxc
 subst hcs
 have hkx : es[k]? = some es[k] := List.getElem?_eq_getElem hk
 obtain ⟨x, hx⟩ : ∃ x, es[k] = x := ⟨_, rfl⟩
 rw [hx] at hat hls hkx
 obtain ⟨xi, xe, xd, xk, xo, xt, ls⟩ := x
 simp only at hat hls
 have HR2 := Lib.hid (show (if 0 ≤ rl then ls[rl.toNat]? else none) = R by rw [← HR.out]; unfold lineJ; rw [hix]; show _ = if 0 ≤ rl then (es[k]?).bind (fun x => x.lines[rl.toNat]?) else none; rw [hkx]; rfl)
 have HLS := Lib.hid hls
 have hcap2 := hls.cap
 unfold maxLen at hcap2
 obtain ⟨nl, hnl⟩ : ∃ n, ls.length = n := ⟨_, rfl⟩
 have HNL := Lib.hid hnl
 rw [hnl] at hat hcap2
 have LTB := Lib.hid (show b < w3.heap.size from Nat.lt_of_lt_of_le hbw hb03.size)
 have X6 := Lib.hid (show w3.cell? ⟨b, o + k * 7 + 6, none⟩ = some (.slice Al nl cl) from (hat.fr (Fr.ofBelow hb03)).c (j := 6) rfl)
 have hkn : k < n := by rw [← HN.out]; exact hk
 have hkI : (k : Int) < (n : Int) := by omega
 have hn0 : 0 < n := by omega
 have hkge : decide ((k : Int) < 0) = false := decide_eq_false (by omega)
 clear hix hxc hat hkx hx hnl hxb hbw hls hk hki HGE HR
 by_cases h1 : rl < 0
 case pos =>
  have h1d : decide (rl < 0) = true := decide_eq_true h1
  have HF := Lib.hid (show R = none by rw [← HR2.out, if_neg (by omega)])
  clear h1
  go_upto_region 2 with fail
  refine wp_region_inv (Ks w3 [.val (.int .i64 (k : Int)), .val (.bool false), .val (.bool false), .val (.pointer (some ⟨w.heap.size, 1, none⟩)), .val (.int .i64 rl), .val (.bool true), .val (.bool true), .val (.bool true), .val (undef), .val (undef), .val (undef), .val (undef), .val (undef), .val (undef), .val (undef), .val (undef), .val (undef), .val (.bool true)])
   (fun w' => Below w3.heap.size w3 w') (by kernel_rfl) (by kernel_rfl) (by kernel_rfl) (Below.refl _ _).drew ?_ ?_
  · refine ⟨?_, ?_, ?_, ?_, ?_, ?_, ?_, ?_, ?_, ?_, ?_, ?_, ?_, ?_, ?_, ?_, ?_, ?_, trivial⟩
    · intro _ A0 w2 hI hd hnd K hK; have e0 := hI.q hnd 6; exact hI.z hK
    · intro _ A0 w2 hI hd hnd K hK; have e0 := hI.p hd 0 11; exact hI.z hK
    · intro _ A0 w2 hI hd hnd K hK; have e0 := hI.p hd 1 12; exact hI.z hK
    · intro _ A0 w2 hI hd hnd K hK; have e0 := hI.q hnd 3; exact hI.z1 hK (hI.r hd 2 13 false)
    · intro _ A0 w2 hI hd hnd K hK; have e0 := hI.p hd 3 14; have hS := hI.world; have hcc : w2.cell? ⟨w.heap.size, 1, none⟩ = _ := (hS.cell (p := ⟨w.heap.size, 1, none⟩) LT03).trans X1.out; exact hI.z1 hK (hI.r hd 2 13 false)
    · intro _ A0 w2 hI hd hnd K hK; have e0 := hI.p hd 4 15; exact hI.z1 hK (hI.r hd 2 13 false)
    · intro _ A0 w2 hI hd hnd K hK; have e0 := hI.p hd 2 13; have e1 := hI.p hd 5 16; exact hI.z hK
    · intro _ A0 w2 hI hd hnd K hK; have e0 := hI.p hd 6 17; exact hI.z hK
    iterate 9 (· intro _ A0 w2 hI hd hnd K hK; exact hI.z2 hK (hI.r hd 7 18 true))
    · intro _ A0 w2 hI hd hnd K hK; have e0 := hI.p hd 7 18; have e1 := hI.p hd 16 27; exact hI.z hK
  · intro _ A0 w2 hI hall; have hS := hI.world; obtain ⟨x0, -, x1, -, x2, -, x3, -, x4, -, x5, -, x6, -, x7, -, x8, -, x9, -, x10, -, x11, -, x12, -, x13, -, x14, -, x15, -, x16, -, x17, h17, hA⟩ := hI.ch hall [11, 12, 13, 14, 15, 16, 17, 18, 19, 20, 21, 22, 23, 24, 25, 26, 27, 28]
    obtain rfl : x17 = .bool true := h17 _ rfl
    clear h17 hI hall
    simp only [Ch, setAll, List.foldl, List.setIfInBounds_toArray, List.set_cons_zero, List.set_cons_succ] at hA
    rw [hA]
    clear hA
    have hb04 := hb03.trans (hS.mono hb03.size)
    have HZ4 := Lib.hid ((hS.block _ LT13).trans HZ3.out)
    clear hS
    go_wp2_with (show wpList _ _ _ (Oper.mk none (Op.store _ (Operand.tmp 4) _) _ _ _ _ :: _) _ _; refine wpList_store_row rfl 52 (.tmp 4) (.tmp 29) rfl (w.heap.size + 1) #[.int .i64 0, .int .i64 0, .int .i64 0] rfl rfl 52 #[.int .i64 0, .int .i64 0, .int .i64 0] HZ4.out (by rw [info_line]; rfl) rfl (by simp [Value.oneCell']) ?_)
    refine bodyPost_ret (v := _) (results_cell_tmp rfl _ _ (w.heap.size + 1) 52 #[.int .i64 0, .int .i64 0, .int .i64 0] (0, 0) _ rfl (heap_setRow HZ4.out _) Tryz.underlying52 rfl info_line _ rfl) rfl ⟨by rw [HF.out]; rfl, below_setRow hb04 (by omega) _⟩
 case neg =>
 have h1d : decide (rl < 0) = false := decide_eq_false h1
 by_cases h2 : (nl : Int) ≤ rl
 case pos =>
  have h2d : decide ((nl : Int) ≤ rl) = true := decide_eq_true h2
  have h2e : decide (rl ≥ (nl : Int)) = true := decide_eq_true h2
  have HF := Lib.hid (show R = none by rw [← HR2.out, if_pos (by omega)]; exact List.getElem?_eq_none (by rw [HNL.out]; omega))
  clear h1 h2
  go_upto_region 2 with fail
  refine wp_region_inv (Ks w3 [.val (.int .i64 (k : Int)), .val (.bool false), .val (.bool false), .val (.pointer (some ⟨w.heap.size, 1, none⟩)), .val (.int .i64 rl), .val (.bool false), .val (.bool false), .val (.bool false), .val (.pointer (some ⟨w.heap.size, 1, none⟩)), .val (.int .i64 rl), .val (.slice (some ⟨b, o, none⟩) n c), .val (.int .i64 (k : Int)), .val (.pointer (some ⟨b, o + k * 7, none⟩)), .val (.pointer (some ⟨b, o + k * 7 + 6, none⟩)), .val (.slice Al nl cl), .val (.int .i64 (nl : Int)), .val (.bool true), .val (.bool true)])
   (fun w' => Below w3.heap.size w3 w') (by kernel_rfl) (by kernel_rfl) (by kernel_rfl) (Below.refl _ _).drew ?_ ?_
  · refine ⟨?_, ?_, ?_, ?_, ?_, ?_, ?_, ?_, ?_, ?_, ?_, ?_, ?_, ?_, ?_, ?_, ?_, ?_, trivial⟩
    · intro _ A0 w2 hI hd hnd K hK; have e0 := hI.q hnd 6; exact hI.z hK
    · intro _ A0 w2 hI hd hnd K hK; have e0 := hI.p hd 0 11; exact hI.z hK
    · intro _ A0 w2 hI hd hnd K hK; have e0 := hI.p hd 1 12; exact hI.z hK
    · intro _ A0 w2 hI hd hnd K hK; have e0 := hI.q hnd 3; exact hI.z1 hK (hI.r hd 2 13 false)
    · intro _ A0 w2 hI hd hnd K hK; have e0 := hI.p hd 3 14; have hS := hI.world; have hcc : w2.cell? ⟨w.heap.size, 1, none⟩ = _ := (hS.cell (p := ⟨w.heap.size, 1, none⟩) LT03).trans X1.out; exact hI.z1 hK (hI.r hd 2 13 false)
    · intro _ A0 w2 hI hd hnd K hK; have e0 := hI.p hd 4 15; exact hI.z1 hK (hI.r hd 2 13 false)
    · intro _ A0 w2 hI hd hnd K hK; have e0 := hI.p hd 2 13; have e1 := hI.p hd 5 16; exact hI.z hK
    · intro _ A0 w2 hI hd hnd K hK; have e0 := hI.p hd 6 17; exact hI.z hK
    · intro _ A0 w2 hI hd hnd K hK; have e0 := hI.q hnd 3; exact hI.z1 hK (hI.r hd 7 18 false)
    · intro _ A0 w2 hI hd hnd K hK; have e0 := hI.p hd 8 19; have hS := hI.world; have hcc : w2.cell? ⟨w.heap.size, 1, none⟩ = _ := (hS.cell (p := ⟨w.heap.size, 1, none⟩) LT03).trans X1.out; exact hI.z1 hK (hI.r hd 7 18 false)
    · intro _ A0 w2 hI hd hnd K hK; have e0 := hI.q hnd 0; exact hI.z1 hK (hI.r hd 7 18 false)
    · intro _ A0 w2 hI hd hnd K hK; have e0 := hI.q hnd 6; exact hI.z1 hK (hI.r hd 7 18 false)
    · intro _ A0 w2 hI hd hnd K hK; have e0 := hI.p hd 10 21; have e1 := hI.p hd 11 22; exact hI.z1 hK (hI.r hd 7 18 false)
    · intro _ A0 w2 hI hd hnd K hK; have e0 := hI.p hd 12 23; exact hI.z1 hK (hI.r hd 7 18 false)
    · intro _ A0 w2 hI hd hnd K hK; have e0 := hI.p hd 13 24; have hS := hI.world; have hcc : w2.cell? ⟨b, o + k * 7 + 6, none⟩ = _ := (hS.cell (p := ⟨b, o + k * 7 + 6, none⟩) LTB.out).trans X6.out; exact hI.z1 hK (hI.r hd 7 18 false)
    · intro _ A0 w2 hI hd hnd K hK; have e0 := hI.p hd 14 25; exact hI.z1 hK (hI.r hd 7 18 false)
    · intro _ A0 w2 hI hd hnd K hK; have e0 := hI.p hd 9 20; have e1 := hI.p hd 15 26; exact hI.z1 hK (hI.r hd 7 18 false)
    · intro _ A0 w2 hI hd hnd K hK; have e0 := hI.p hd 7 18; have e1 := hI.p hd 16 27; exact hI.z hK
  · intro _ A0 w2 hI hall; have hS := hI.world; obtain ⟨x0, -, x1, -, x2, -, x3, -, x4, -, x5, -, x6, -, x7, -, x8, -, x9, -, x10, -, x11, -, x12, -, x13, -, x14, -, x15, -, x16, -, x17, h17, hA⟩ := hI.ch hall [11, 12, 13, 14, 15, 16, 17, 18, 19, 20, 21, 22, 23, 24, 25, 26, 27, 28]
    obtain rfl : x17 = .bool true := h17 _ rfl
    clear h17 hI hall
    simp only [Ch, setAll, List.foldl, List.setIfInBounds_toArray, List.set_cons_zero, List.set_cons_succ] at hA
    rw [hA]
    clear hA
    have hb04 := hb03.trans (hS.mono hb03.size)
    have HZ4 := Lib.hid ((hS.block _ LT13).trans HZ3.out)
    clear hS
    go_wp2_with (show wpList _ _ _ (Oper.mk none (Op.store _ (Operand.tmp 4) _) _ _ _ _ :: _) _ _; refine wpList_store_row rfl 52 (.tmp 4) (.tmp 29) rfl (w.heap.size + 1) #[.int .i64 0, .int .i64 0, .int .i64 0] rfl rfl 52 #[.int .i64 0, .int .i64 0, .int .i64 0] HZ4.out (by rw [info_line]; rfl) rfl (by simp [Value.oneCell']) ?_)
    refine bodyPost_ret (v := _) (results_cell_tmp rfl _ _ (w.heap.size + 1) 52 #[.int .i64 0, .int .i64 0, .int .i64 0] (0, 0) _ rfl (heap_setRow HZ4.out _) Tryz.underlying52 rfl info_line _ rfl) rfl ⟨by rw [HF.out]; rfl, below_setRow hb04 (by omega) _⟩
 case neg =>
 obtain ⟨q, rfl⟩ : ∃ q : Nat, rl = (q : Int) := ⟨rl.toNat, by omega⟩
 have h2d : decide ((nl : Int) ≤ (q : Int)) = false := decide_eq_false h2
 have h2n : decide (nl ≤ q) = false := decide_eq_false (by omega)
 have hq : q < ls.length := by rw [HNL.out]; omega
 have hql : q < nl := by omega
 have hqI : (q : Int) < (nl : Int) := by omega
 have hnl0 : 0 < nl := by omega
 clear h1 h2
 go_upto_region 2 with fail
 refine wp_region_inv (Ks w3 [.val (.int .i64 (k : Int)), .val (.bool false), .val (.bool false), .val (.pointer (some ⟨w.heap.size, 1, none⟩)), .val (.int .i64 (q : Int)), .val (.bool false), .val (.bool false), .val (.bool false), .val (.pointer (some ⟨w.heap.size, 1, none⟩)), .val (.int .i64 (q : Int)), .val (.slice (some ⟨b, o, none⟩) n c), .val (.int .i64 (k : Int)), .val (.pointer (some ⟨b, o + k * 7, none⟩)), .val (.pointer (some ⟨b, o + k * 7 + 6, none⟩)), .val (.slice Al nl cl), .val (.int .i64 (nl : Int)), .val (.bool false), .val (.bool false)])
  (fun w' => Below w3.heap.size w3 w') (by kernel_rfl) (by kernel_rfl) (by kernel_rfl) (Below.refl _ _).drew ?_ ?_
 · refine ⟨?_, ?_, ?_, ?_, ?_, ?_, ?_, ?_, ?_, ?_, ?_, ?_, ?_, ?_, ?_, ?_, ?_, ?_, trivial⟩
   · intro _ A0 w2 hI hd hnd K hK; have e0 := hI.q hnd 6; exact hI.z hK
   · intro _ A0 w2 hI hd hnd K hK; have e0 := hI.p hd 0 11; exact hI.z hK
   · intro _ A0 w2 hI hd hnd K hK; have e0 := hI.p hd 1 12; exact hI.z hK
   · intro _ A0 w2 hI hd hnd K hK; have e0 := hI.q hnd 3; exact hI.z1 hK (hI.r hd 2 13 false)
   · intro _ A0 w2 hI hd hnd K hK; have e0 := hI.p hd 3 14; have hS := hI.world; have hcc : w2.cell? ⟨w.heap.size, 1, none⟩ = _ := (hS.cell (p := ⟨w.heap.size, 1, none⟩) LT03).trans X1.out; exact hI.z1 hK (hI.r hd 2 13 false)
   · intro _ A0 w2 hI hd hnd K hK; have e0 := hI.p hd 4 15; exact hI.z1 hK (hI.r hd 2 13 false)
   · intro _ A0 w2 hI hd hnd K hK; have e0 := hI.p hd 2 13; have e1 := hI.p hd 5 16; exact hI.z hK
   · intro _ A0 w2 hI hd hnd K hK; have e0 := hI.p hd 6 17; exact hI.z hK
   · intro _ A0 w2 hI hd hnd K hK; have e0 := hI.q hnd 3; exact hI.z1 hK (hI.r hd 7 18 false)
   · intro _ A0 w2 hI hd hnd K hK; have e0 := hI.p hd 8 19; have hS := hI.world; have hcc : w2.cell? ⟨w.heap.size, 1, none⟩ = _ := (hS.cell (p := ⟨w.heap.size, 1, none⟩) LT03).trans X1.out; exact hI.z1 hK (hI.r hd 7 18 false)
   · intro _ A0 w2 hI hd hnd K hK; have e0 := hI.q hnd 0; exact hI.z1 hK (hI.r hd 7 18 false)
   · intro _ A0 w2 hI hd hnd K hK; have e0 := hI.q hnd 6; exact hI.z1 hK (hI.r hd 7 18 false)
   · intro _ A0 w2 hI hd hnd K hK; have e0 := hI.p hd 10 21; have e1 := hI.p hd 11 22; exact hI.z1 hK (hI.r hd 7 18 false)
   · intro _ A0 w2 hI hd hnd K hK; have e0 := hI.p hd 12 23; exact hI.z1 hK (hI.r hd 7 18 false)
   · intro _ A0 w2 hI hd hnd K hK; have e0 := hI.p hd 13 24; have hS := hI.world; have hcc : w2.cell? ⟨b, o + k * 7 + 6, none⟩ = _ := (hS.cell (p := ⟨b, o + k * 7 + 6, none⟩) LTB.out).trans X6.out; exact hI.z1 hK (hI.r hd 7 18 false)
   · intro _ A0 w2 hI hd hnd K hK; have e0 := hI.p hd 14 25; exact hI.z1 hK (hI.r hd 7 18 false)
   · intro _ A0 w2 hI hd hnd K hK; have e0 := hI.p hd 9 20; have e1 := hI.p hd 15 26; exact hI.z1 hK (hI.r hd 7 18 false)
   · intro _ A0 w2 hI hd hnd K hK; have e0 := hI.p hd 7 18; have e1 := hI.p hd 16 27; exact hI.z hK
 · intro _ A0 w2 hI hall; have hS := hI.world; obtain ⟨x0, -, x1, -, x2, -, x3, -, x4, -, x5, -, x6, -, x7, -, x8, -, x9, -, x10, -, x11, -, x12, -, x13, -, x14, -, x15, -, x16, -, x17, h17, hA⟩ := hI.ch hall [11, 12, 13, 14, 15, 16, 17, 18, 19, 20, 21, 22, 23, 24, 25, 26, 27, 28]
   obtain rfl : x17 = .bool false := h17 _ rfl
   clear h17 hI hall
   simp only [Ch, setAll, List.foldl, List.setIfInBounds_toArray, List.set_cons_zero, List.set_cons_succ] at hA
   rw [hA]
   clear hA
   have hb4 := hS
   generalize w2 = w4 at *
   have hb04 := hb03.trans (hb4.mono hb03.size)
   obtain ⟨bl, ol, cs, hAe, hbw, hxc, hat⟩ := ListC.get (n := ls.length) HLS.out q hq
   subst hAe
   obtain ⟨hcs, _⟩ := LineC.lit hxc
   subst hcs
   have hyx : ls[q]? = some ls[q] := List.getElem?_eq_getElem hq
   obtain ⟨y, hy⟩ : ∃ y, ls[q] = y := ⟨_, rfl⟩
   rw [hy] at hat hyx
   have HF := Lib.hid (show R = some y by rw [← HR2.out, if_pos (by omega)]; exact hyx)
   obtain ⟨la, lm, lp⟩ := y
   have HAL := Lib.hid (show At w4 (· < w4.heap.size) ⟨bl, ol + q * 3, none⟩ [.int .i64 la, .int .i64 lm, .int .i64 lp] from (hat.fr (Fr.ofBelow hb04)).mono (fun p hp => Nat.lt_of_lt_of_le hp hb04.size))
   have HZ4 := Lib.hid ((hb4.block _ LT13).trans HZ3.out)
   have LT04 := Nat.lt_of_lt_of_le LT03 hb4.size
   have LT14 := Nat.lt_of_lt_of_le LT13 hb4.size
   replace X1 := Lib.hid ((hb4.cell (p := ⟨w.heap.size, 1, none⟩) LT03).trans X1.out)
   replace X6 := Lib.hid ((hb4.cell (p := ⟨b, o + k * 7 + 6, none⟩) LTB.out).trans X6.out)
   replace LTB := Lib.hid (Nat.lt_of_lt_of_le LTB.out hb4.size)
   clear LT03 hS
   have LT03 := LT04
   clear hxc hat hyx hy hbw hb4
   go_upto_region 4 with fail
   refine wp_region_inv3 9 (Ks w4 [.val (.slice (some ⟨b, o, none⟩) n c), .val (.int .i64 (k : Int)), .val (.pointer (some ⟨b, o + k * 7, none⟩)), .val (.pointer (some ⟨b, o + k * 7 + 6, none⟩)), .val (.slice (some ⟨bl, ol, none⟩) nl cl), .val (.pointer (some ⟨w.heap.size, 1, none⟩)), .val (.int .i64 (q : Int)), .val (.pointer (some ⟨bl, ol + q * 3, none⟩)), .val (.agg #[.int .i64 la, .int .i64 lm, .int .i64 lp])])
    (fun w' => Below w4.heap.size w4 w') (by kernel_rfl) (by kernel_rfl) (by kernel_rfl) (by decide) (by kernel_rfl) (by kernel_rfl) (by kernel_rfl) (Below.refl _ _).drew ?_ ?_
   · refine ⟨?_, ?_, ?_, ?_, ?_, ?_, ?_, ?_, ?_, trivial⟩
     · intro _ A0 w2 hI hd hnd K hK; have e0 := hI.q hnd 0; exact hI.z hK
     · intro _ A0 w2 hI hd hnd K hK; have e0 := hI.q hnd 6; exact hI.z hK
     · intro _ A0 w2 hI hd hnd K hK; have e0 := hI.p hd 0 30; have e1 := hI.p hd 1 31; exact hI.z hK
     · intro _ A0 w2 hI hd hnd K hK; have e0 := hI.p hd 2 32; exact hI.z hK
     · intro _ A0 w2 hI hd hnd K hK; have e0 := hI.p hd 3 33; have hS := hI.world; have hcc : w2.cell? ⟨b, o + k * 7 + 6, none⟩ = _ := (hS.cell (p := ⟨b, o + k * 7 + 6, none⟩) LTB.out).trans X6.out; exact hI.z hK
     · intro _ A0 w2 hI hd hnd K hK; have e0 := hI.q hnd 3; exact hI.z hK
     · intro _ A0 w2 hI hd hnd K hK; have e0 := hI.p hd 5 35; have hS := hI.world; have hcc : w2.cell? ⟨w.heap.size, 1, none⟩ = _ := (hS.cell (p := ⟨w.heap.size, 1, none⟩) LT03).trans X1.out; exact hI.z hK
     · intro _ A0 w2 hI hd hnd K hK; have e0 := hI.p hd 4 34; have e1 := hI.p hd 6 36; exact hI.z hK
     · intro _ A0 w2 hI hd hnd K hK; have e0 := hI.p hd 7 37; have hS := hI.world; have hrange : w2.rangeAt bl (ol + q * 3) [.int .i64 la, .int .i64 lm, .int .i64 lp] := (HAL.out.fr (Fr.ofBelow hS)).range; have hisize := info_line; refine wanted_go rfl ?_; clear hI hd hnd
       refine wp_load_mid 52 (.tmp 37) rfl _ _ (by simpa [Act.eval, Array.getD_eq_getD_getElem?] using e0) _ _ hrange Tryz.underlying52 rfl hisize ?_
       exact kq hK hS rfl
   · intro A0 w2 hI
     obtain ⟨x0, g0, h0⟩ := hI.got 0 _ 30 rfl rfl rfl
     obtain ⟨x1, g1, h1⟩ := hI.got 1 _ 31 rfl rfl rfl
     obtain ⟨x2, g2, h2⟩ := hI.got 2 _ 32 rfl rfl rfl
     obtain ⟨x3, g3, h3⟩ := hI.got 3 _ 33 rfl rfl rfl
     obtain ⟨x4, g4, h4⟩ := hI.got 4 _ 34 rfl rfl rfl
     obtain ⟨x5, g5, h5⟩ := hI.got 5 _ 35 rfl rfl rfl
     obtain ⟨x6, g6, h6⟩ := hI.got 6 _ 36 rfl rfl rfl
     obtain ⟨x7, g7, h7⟩ := hI.got 7 _ 37 rfl rfl rfl
     obtain ⟨x8, g8, h8⟩ := hI.got 8 _ 38 rfl rfl rfl
     have hS := hI.world
     obtain ⟨y5, o5⟩ : ∃ v, A0.tmps[5]? = some v := ⟨_, hI.oldHead 5 (by kernel_rfl)⟩
     have hA : A0 = _ := hI.tmps [(30, x0), (31, x1), (32, x2), (33, x3), (34, x4), (35, x5), (36, x6), (37, x7), (38, x8), (5, y5)] (by simp only [List.mem_cons, List.not_mem_nil, or_false, forall_eq_or_imp, forall_eq]; exact ⟨g0, g1, g2, g3, g4, g5, g6, g7, g8, o5⟩) (by kernel_rfl)
     obtain rfl : x8 = .agg #[.int .i64 la, .int .i64 lm, .int .i64 lp] := h8 _ rfl
     clear h0 g0 h1 g1 h2 g2 h3 g3 h4 g4 h5 g5 h6 g6 h7 g7 h8 g8 o5 hI
     simp only [setAll, List.foldl, List.setIfInBounds_toArray, List.set_cons_zero, List.set_cons_succ] at hA
     rw [hA]
     clear hA
     simp only [List.drop_succ_cons, List.drop_zero]
     have hb05 := hb04.trans (hS.mono hb04.size)
     have HZ5 := Lib.hid ((hS.block _ LT14).trans HZ4.out)
     clear hS
     go_wp2_with (show wpList _ _ _ (Oper.mk none (Op.store _ (Operand.tmp 4) _) _ _ _ _ :: _) _ _; refine wpList_store_row rfl 52 (.tmp 4) (.tmp 38) rfl (w.heap.size + 1) #[.int .i64 la, .int .i64 lm, .int .i64 lp] rfl rfl 52 #[.int .i64 0, .int .i64 0, .int .i64 0] HZ5.out (by rw [info_line]; rfl) rfl (by simp [Value.oneCell']) ?_)
     refine bodyPost_ret (v := _) (results_cell_tmp rfl _ _ (w.heap.size + 1) 52 #[.int .i64 la, .int .i64 lm, .int .i64 lp] (0, 0) _ rfl (heap_setRow HZ5.out _) Tryz.underlying52 rfl info_line _ rfl) rfl ⟨by rw [HF.out]; rfl, below_setRow hb05 (by omega) _⟩
theorem lineV_form (r : Option XLine) : ∃ a m p b, lineV r = .tuple #[.agg #[.int .i64 a, .int .i64 m, .int .i64 p], .bool b] := by
 cases r with
 | none => exact ⟨0, 0, 0, false, rfl⟩
 | some x => exact ⟨_, _, _, true, rfl⟩
set_option maxHeartbeats 16000000 in
theorem sameJ_c (D O : Nat → Prop) (J : Nat) (g : XGroup) (es : List XEntry) (A : Option Addr) (c : Nat) (re rl : Int) (w : World) (hj : JC w D O J g es) (hl : ListC EntryC 7 w (· < w.heap.size) [.slice A es.length c] es) (hid : intBd re) (hln : ∀ x ∈ es, x.lines.length ≤ 100000) (hes : es.length ≤ 100000) :
 Calls Tryz.prog 18 #[.pointer (some ⟨J, 0, none⟩), .slice A es.length c, .agg #[.int .i64 re, .int .i64 rl]] w (Quiet w (.bool true)) := by
 have HGT := Lib.hid (fun (w2 : World) (hb : Below w.heap.size w w2) => get_c D O J g es re w2 (hj.below hb) hid hln hes)
 have HRG := Lib.hid (fun (w2 : World) (hb : Below w.heap.size w w2) => rget_c es A c re w2 (entries_keep hl hb))
 have HLN := Lib.hid (fun (w2 : World) (hb : Below w.heap.size w w2) => line_c D O J g es re rl w2 (hj.below hb) hid hln hes)
 have HRL := Lib.hid (fun (w2 : World) (hb : Below w.heap.size w w2) => rline_j es A c re rl w2 (entries_keep hl hb))
 have HRV := Lib.hid (fun (w2 : World) (hb : Below w.heap.size w w2) => reversal_c D O J g es re w2 (hj.below hb) hid)
 have HRR := Lib.hid (fun (w2 : World) (hb : Below w.heap.size w w2) => rrev_c es A c re w2 (entries_keep hl hb))
 have HLE := Lib.hid (fun (w2 : World) (hb : Below w.heap.size w w2) => (by obtain ⟨gl, css, v, bi, br, h⟩ := hj.below hb; exact len_c D O J g es gl css v bi br w2 h : Calls Tryz.prog 53 #[.pointer (some ⟨J, 0, none⟩)] w2 (Quiet w2 (.int .i64 (es.length : Int)))))
 have HEN := Lib.hid (fun (w2 : World) (hb : Below w.heap.size w w2) => entries_c D O J g es w2 (hj.below hb) hln hes)
 have HSM := Lib.hid (fun (w2 : World) (hb : Below w.heap.size w w2) (A2 : Option Addr) (c2 : Nat) (h2 : ListC EntryC 7 w2 (· < w2.heap.size) [.slice A2 es.length c2] es) => same12_c es A2 A c2 c w2 h2 (entries_keep hl hb))
 have HL := Lib.hid hl
 have hcap := hl.cap
 unfold maxLen at hcap
 unfold EntsPost at HEN
 obtain ⟨va, vm, vp, vb, hlv⟩ := lineV_form (lineJ es re rl)
 rw [hlv] at HLN HRL
 obtain ⟨rv, hrv⟩ : ∃ rv, revId es re = rv := ⟨_, rfl⟩
 rw [hrv] at HRV HRR
 obtain ⟨rb, hrb⟩ : ∃ b, decide (rv ≠ 0) = b := ⟨_, rfl⟩
 rw [hrb] at HRV
 have HRB := Lib.hid (show (rv != 0) = rb by rw [← hrb]; by_cases h : rv = 0 <;> simp [h])
 obtain ⟨n, hnl⟩ : ∃ n, es.length = n := ⟨_, rfl⟩
 have HN := Lib.hid hnl
 rw [hnl] at hcap HRG HRL HRR HLE HSM ⊢
 have HEN2 := Lib.hid (fun (w2 : World) (hb : Below w.heap.size w w2) => (HEN.out w2 hb).mono (R' := fun e w' => ∃ (A : Option Addr) (c : Nat), e = .returned (.slice A n c) ∧ ListC EntryC 7 w' (fun q => w2.heap.size ≤ q ∧ q < w'.heap.size) [.slice A n c] es ∧ Below w2.heap.size w2 w') (fun e w' ⟨A, c, h1, h2, h3⟩ => ⟨A, c, by rw [← hnl]; exact h1, by rw [← hnl]; exact h2, h3⟩))
 replace HEN := HEN2
 clear HEN2 hj hl hid hln hlv hrv hnl hrb
 go_enter Tryz.func18, Tryz.ntmps18
 go_upto_region 1 with fail
 have H1 := heap_alloc_new w (.cells #[.int .i64 re, .int .i64 rl] 45)
 have HB1 := below1 w (.cells #[.int .i64 re, .int .i64 rl] 45)
 have HS1 := blk_lt H1
 generalize hW1 : w.alloc (Obj.cells #[.int .i64 re, .int .i64 rl] 45) = W at *
 clear hW1
 have HH := Lib.hid H1
 have HB0 := Lib.hid HB1
 have c0 := blk_cell H1 0
 clear H1
 go_wp2_with fail
 refine (HGT.out W HB1).mono ?_
 rintro e w3 ⟨hb3, hcase⟩
 have h03 := HB1.trans (hb3.mono HB1.size)
 clear c0
 rcases hcase with ⟨hno, rfl⟩ | ⟨k, x, A2, c2, hix, hkx, rfl, hxb, hls⟩
 case inl =>
  have HG := Lib.hid (show getI es re = -1 by unfold getI; rw [hno])
  clear hno
  go_upto_region 2 with (show wpList _ _ _ (Oper.mk none (Op.store _ (Operand.tmp 7) _) _ _ _ _ :: _) _ _; refine wpList_store_fresh3 rfl 42 (.tmp 7) (.tmp 21) rfl rfl w3 #[.int .i64 0, .int .i64 0, .int .i64 0, .int .i64 0, .int .i64 0, .string ⟨#[]⟩, .slice none 0 0] 42 #[.int .i64 0, .int .i64 0, .int .i64 0, .int .i64 0, .int .i64 0, .string ⟨#[]⟩, .slice none 0 0] rfl rfl rfl info_entry rfl (by simp [Value.oneCell']) ?_; intro w4 HXw4 hb4 HSXw4)
  have hW4 := hb3.trans (hb4.mono hb3.size)
  have h04 := HB1.trans (hW4.mono HB1.size)
  have HH4 := Lib.hid ((hW4.block _ HS1).trans HH.out)
  have HX4 := Lib.hid HXw4
  have c0 := blk_cell HH4.out 0
  clear HXw4
  rw [HG.out] at HRG
  go_wp2_with fail
  refine (HRG.out w4 h04).mono ?_
  rintro e w5 ⟨rfl, hb5⟩
  have hW5 := hW4.trans (hb5.mono hW4.size)
  have h05 := HB0.out.trans (hW5.mono HB0.out.size)
  have HH5 := Lib.hid ((hW5.block _ HS1).trans HH.out)
  have HAX := Lib.hid (show At w5 (· < w5.heap.size) ⟨w3.heap.size, 0, none⟩ [.int .i64 0, .int .i64 0, .int .i64 0, .int .i64 0, .int .i64 0, .string ⟨#[]⟩, .slice none 0 0] from box_at ((hb5.block _ HSXw4).trans HX4.out))
  have HEQ := Lib.hid (fun (w2 : World) (hb : Below w5.heap.size w5 w2) => equal_c 0 0 0 0 0 ⟨#[]⟩ [] none none 0 0 0 w2 rfl (listC0 _ _ _ _) (listC0 _ _ _ _))
  clear c0
  go_upto_region 3 with fail
  refine wp_region_inv (Ks w5 [.val (.bool false), .val (.int .i64 (-1)), .val (.bool false), .val (.bool false), .val (.bool false), .val (.bool false), .val (.bool false), .val (undef), .val (undef), .val (undef), .val (undef), .val (undef), .val (undef), .val (undef), .val (.bool false), .val (.bool false), .val (.bool false), .val (.bool false), .val (.bool true), .val (.bool true), .val (.agg #[.int .i64 0, .int .i64 0, .int .i64 0, .int .i64 0, .int .i64 0, .string ⟨#[]⟩, .slice none 0 0]), .val (.agg #[.int .i64 0, .int .i64 0, .int .i64 0, .int .i64 0, .int .i64 0, .string ⟨#[]⟩, .slice none 0 0]), .val (.bool true), .val (.bool false), .val (.bool false), .val (.bool false)])
   (fun w' => Below w5.heap.size w5 w') (by kernel_rfl) (by kernel_rfl) (by kernel_rfl) (Below.refl _ _).drew ?_ ?_
  · refine ⟨?_, ?_, ?_, ?_, ?_, ?_, ?_, ?_, ?_, ?_, ?_, ?_, ?_, ?_, ?_, ?_, ?_, ?_, ?_, ?_, ?_, ?_, ?_, ?_, ?_, ?_, trivial⟩
    · intro _ A0 w2 hI hd hnd K hK; have e0 := hI.q hnd 8; exact hI.z hK
    · intro _ A0 w2 hI hd hnd K hK; have e0 := hI.q hnd 9; exact hI.z hK
    · intro _ A0 w2 hI hd hnd K hK; have e0 := hI.p hd 1 28; exact hI.z hK
    · intro _ A0 w2 hI hd hnd K hK; have e0 := hI.p hd 0 27; have e1 := hI.p hd 2 29; exact hI.z hK
    · intro _ A0 w2 hI hd hnd K hK; have e0 := hI.p hd 3 30; exact hI.z hK
    · intro _ A0 w2 hI hd hnd K hK; have e0 := hI.q hnd 8; exact hI.z1 hK (hI.r hd 4 31 false)
    · intro _ A0 w2 hI hd hnd K hK; have e0 := hI.p hd 5 32; exact hI.z1 hK (hI.r hd 4 31 false)
    iterate 7 (· intro _ A0 w2 hI hd hnd K hK; exact hI.z2 hK (hI.r hd 6 33 false))
    · intro _ A0 w2 hI hd hnd K hK; have e0 := hI.p hd 6 33; have e1 := hI.p hd 13 40; exact hI.z1 hK (hI.r hd 4 31 false)
    · intro _ A0 w2 hI hd hnd K hK; have e0 := hI.p hd 4 31; have e1 := hI.p hd 14 41; exact hI.z hK
    · intro _ A0 w2 hI hd hnd K hK; have e0 := hI.p hd 15 42; exact hI.z hK
    · intro _ A0 w2 hI hd hnd K hK; have e0 := hI.q hnd 8; exact hI.z1 hK (hI.r hd 16 43 false)
    · intro _ A0 w2 hI hd hnd K hK; have e0 := hI.p hd 17 44; exact hI.z1 hK (hI.r hd 16 43 false)
    · intro _ A0 w2 hI hd hnd K hK; have e0 := hI.p hd 18 45; exact hI.z1 hK (hI.r hd 16 43 false)
    · intro _ A0 w2 hI hd hnd K hK; have e0 := hI.q hnd 7; have hS := hI.world; have hrange : w2.rangeAt w3.heap.size 0 [.int .i64 0, .int .i64 0, .int .i64 0, .int .i64 0, .int .i64 0, .string ⟨#[]⟩, .slice none 0 0] := (HAX.out.fr (Fr.ofBelow hS)).range; have hisize := info_entry; refine wanted_yes rfl (hI.r hd 19 46 true) ?_; clear hI hd hnd
      refine wp_load_mid 42 (.tmp 7) rfl _ _ (by simpa [Act.eval, Array.getD_eq_getD_getElem?] using e0) _ _ hrange Tryz.underlying42 rfl hisize ?_
      exact kq hK hS rfl
    · intro _ A0 w2 hI hd hnd K hK; exact hI.z1 hK (hI.r hd 19 46 true)
    · intro _ A0 w2 hI hd hnd K hK; have e0 := hI.p hd 20 47; have e1 := hI.p hd 21 48; have hS := hI.world; refine wanted_yes rfl (hI.r hd 19 46 true) ?_; clear hI hd hnd; go_simp
      go_at_call 56
      refine (HEQ.out w2 hS).mono ?_
      rintro e w3 ⟨rfl, h3⟩
      exact hK.out _ _ (hS.trans (h3.mono hS.size)) (Ks.of rfl rfl) (Ks.keep h3)
    · intro _ A0 w2 hI hd hnd K hK; have e0 := hI.p hd 22 49; exact hI.z1 hK (hI.r hd 19 46 true)
    · intro _ A0 w2 hI hd hnd K hK; have e0 := hI.p hd 19 46; have e1 := hI.p hd 23 50; exact hI.z1 hK (hI.r hd 16 43 false)
    · intro _ A0 w2 hI hd hnd K hK; have e0 := hI.p hd 16 43; have e1 := hI.p hd 24 51; exact hI.z hK
  · intro _ A0 w2 hI hall; have hS := hI.world; obtain ⟨x0, -, x1, -, x2, -, x3, -, x4, -, x5, -, x6, -, x7, -, x8, -, x9, -, x10, -, x11, -, x12, -, x13, -, x14, -, x15, -, x16, -, x17, -, x18, -, x19, -, x20, -, x21, -, x22, -, x23, -, x24, -, x25, h25, hA⟩ := hI.ch hall [27, 28, 29, 30, 31, 32, 33, 34, 35, 36, 37, 38, 39, 40, 41, 42, 43, 44, 45, 46, 47, 48, 49, 50, 51, 52]
    obtain rfl : x25 = .bool false := h25 _ rfl
    clear h25 hI hall
    simp only [Ch, setAll, List.foldl, List.setIfInBounds_toArray, List.set_cons_zero, List.set_cons_succ] at hA
    rw [hA]
    clear hA
    have hb6 := hS
    generalize w2 = w6 at *
    clear hS
    have hW6 := hW5.trans (hb6.mono hW5.size)
    have h06 := HB0.out.trans (hW6.mono HB0.out.size)
    have HH6 := Lib.hid ((hW6.block _ HS1).trans HH.out)
    go_wp2_with (show wpList _ _ _ (Oper.mk (some 55) _ _ _ _ _ :: _) _ _; refine wpList_load_row_g rfl 45 (.tmp 5) rfl w.heap.size rfl _ _ _ _ HH6.out Tryz.underlying45 rfl info_ref ?_)
    refine (HLN.out w6 h06).mono ?_
    rintro e w7 ⟨rfl, hb7⟩
    have hW7 := hW6.trans (hb7.mono hW6.size)
    have h07 := HB0.out.trans (hW7.mono HB0.out.size)
    have HH7 := Lib.hid ((hW7.block _ HS1).trans HH.out)
    go_upto_region 6 with (show wpList _ _ _ (Oper.mk none (Op.store _ (Operand.tmp 10) _) _ _ _ _ :: _) _ _; refine wpList_store_fresh3 rfl 52 (.tmp 10) (.tmp 57) rfl rfl w7 #[.int .i64 0, .int .i64 0, .int .i64 0] 52 #[.int .i64 va, .int .i64 vm, .int .i64 vp] rfl rfl rfl info_line rfl (by simp [Value.oneCell']) ?_; intro w8 HXw8 hb8 HSXw8)
    have hW8 := hW7.trans (hb8.mono hW7.size)
    have h08 := HB0.out.trans (hW8.mono HB0.out.size)
    have HH8 := Lib.hid ((hW8.block _ HS1).trans HH.out)
    have HL8 := Lib.hid HXw8
    clear HXw8
    go_wp2_with (show wpList _ _ _ (Oper.mk (some 61) _ _ _ _ _ :: _) _ _; refine wpList_load_row_g rfl 45 (.tmp 5) rfl w.heap.size rfl _ _ _ _ HH8.out Tryz.underlying45 rfl info_ref ?_)
    refine (HRL.out w8 h08).mono ?_
    rintro e w9 ⟨rfl, hb9⟩
    have hW9 := hW8.trans (hb9.mono hW8.size)
    have h09 := HB0.out.trans (hW9.mono HB0.out.size)
    have HH9 := Lib.hid ((hW9.block _ HS1).trans HH.out)
    have HL9 := Lib.hid ((hb9.block _ HSXw8).trans HL8.out)
    have hsx9 := Nat.lt_of_lt_of_le HSXw8 hb9.size
    go_upto_region 7 with (show wpList _ _ _ (Oper.mk none (Op.store _ (Operand.tmp 12) _) _ _ _ _ :: _) _ _; refine wpList_store_fresh3 rfl 52 (.tmp 12) (.tmp 63) rfl rfl w9 #[.int .i64 0, .int .i64 0, .int .i64 0] 52 #[.int .i64 va, .int .i64 vm, .int .i64 vp] rfl rfl rfl info_line rfl (by simp [Value.oneCell']) ?_; intro wa HXwa hba HSXwa)
    have hWa := hW9.trans (hba.mono hW9.size)
    have h0a := HB0.out.trans (hWa.mono HB0.out.size)
    have HHa := Lib.hid ((hWa.block _ HS1).trans HH.out)
    have HM10 := Lib.hid HXwa
    have HL10 := Lib.hid ((hba.block _ hsx9).trans HL9.out)
    have hsx10 := Nat.lt_of_lt_of_le hsx9 hba.size
    have k0 := blk_cell HHa.out 0
    clear HXwa
    go_wp2_with fail
    refine (HRV.out wa h0a).mono ?_
    rintro e wb ⟨rfl, hbb⟩
    have hWb := hWa.trans (hbb.mono hWa.size)
    have h0b := HB0.out.trans (hWb.mono HB0.out.size)
    have HHb := Lib.hid ((hWb.block _ HS1).trans HH.out)
    have HM11 := Lib.hid ((hbb.block _ HSXwa).trans HM10.out)
    have HL11 := Lib.hid ((hbb.block _ hsx10).trans HL10.out)
    have k0 := blk_cell HHb.out 0
    have hvd : (vb == vb) = true := by simp
    go_wp2_with (first | (show wpList _ _ _ (Oper.mk (some 72) _ _ _ _ _ :: _) _ _; refine wpList_load_row_g rfl 52 (.tmp 10) rfl w7.heap.size rfl _ _ _ _ HL11.out Tryz.underlying52 rfl info_line ?_) | (show wpList _ _ _ (Oper.mk (some 73) _ _ _ _ _ :: _) _ _; refine wpList_load_row_g rfl 52 (.tmp 12) rfl w9.heap.size rfl _ _ _ _ HM11.out Tryz.underlying52 rfl info_line ?_))
    refine (HRR.out wb h0b).mono ?_
    rintro e wc ⟨rfl, hbc⟩
    have hWc := hWb.trans (hbc.mono hWb.size)
    have h0c := HB0.out.trans (hWc.mono HB0.out.size)
    have HHc := Lib.hid ((hWc.block _ HS1).trans HH.out)
    have hrv : (rv == rv) = true := by simp
    have hz2 : (rv != 0) = rb := HRB.out
    have hz3 : (rb == rb) = true := by simp
    go_wp2_with fail
    refine (HLE.out wc h0c).mono ?_
    rintro e wd ⟨rfl, hbd⟩
    have hWd := hWc.trans (hbd.mono hWc.size)
    have h0d := HB0.out.trans (hWd.mono HB0.out.size)
    have HHd := Lib.hid ((hWd.block _ HS1).trans HH.out)
    have hnn : ((n : Int) == (n : Int)) = true := by simp
    go_wp2_with fail
    refine (HEN.out wd h0d).mono ?_
    rintro e we ⟨Ae, ce, rfl, hle, hbe⟩
    have hWe := hWd.trans (hbe.mono hWd.size)
    have h0e := HB0.out.trans (hWe.mono HB0.out.size)
    have HHe := Lib.hid ((hWe.block _ HS1).trans HH.out)
    have HSQ := Lib.hid (HSM.out we h0e Ae ce (hle.mono (Q' := (· < we.heap.size)) (fun h => EntryC.mono h (fun q hq => hq.2)) (fun q hq => hq.2)))
    clear hle
    go_wp2_with fail
    refine HSQ.out.mono ?_
    rintro e wf ⟨rfl, hbf⟩
    go_wp2_with fail
    go_ret
    exact ⟨rfl, h0e.trans (hbf.mono h0e.size)⟩
 case inr =>
  obtain ⟨hk, hki⟩ := idxE_some hix
  have HG := Lib.hid (show getI es re = (k : Int) by unfold getI; rw [hix])
  obtain ⟨b, o, cs, hAe, hbw, hxc, hat⟩ := ListC.get (n := n) (by have h := HL.out; rw [HN.out] at h; exact h) k hk
  subst hAe
  obtain ⟨Al, cl, hcs, hxb1, hls1⟩ := EntryC.lit hxc
  subst hcs
  have hek : es[k] = x := by rw [List.getElem?_eq_getElem hk] at hkx; exact Option.some.inj hkx
  rw [hek] at hat hls1
  obtain ⟨xi, xe, xd, xk, xo, xt, ls⟩ := x
  simp only at hat hls hls1
  obtain ⟨nl, hnl⟩ : ∃ n, ls.length = n := ⟨_, rfl⟩
  have HNL := Lib.hid hnl
  rw [hnl] at hat hls hls1
  have HLA := Lib.hid hls
  have HLB := Lib.hid hls1
  have HAT := Lib.hid hat
  have hkn : k < n := by rw [← HN.out]; exact hk
  have hkI : (k : Int) < (n : Int) := by omega
  have hn0 : 0 < n := by omega
  simp only [hnl]
  clear hix hxc hat hkx hls hls1 hnl hxb hxb1 hbw hki hek; clear hk
  go_upto_region 2 with (show wpList _ _ _ (Oper.mk none (Op.store _ (Operand.tmp 7) _) _ _ _ _ :: _) _ _; refine wpList_store_fresh3 rfl 42 (.tmp 7) (.tmp 21) rfl rfl w3 #[.int .i64 0, .int .i64 0, .int .i64 0, .int .i64 0, .int .i64 0, .string ⟨#[]⟩, .slice none 0 0] 42 #[.int .i64 xi, .int .i64 xe, .int .i64 xd, .int .i64 xk, .int .i64 xo, .string xt, .slice A2 nl c2] rfl rfl rfl info_entry rfl (by simp [Value.oneCell']) ?_; intro w4 HXw4 hb4 HSXw4)
  have hW4 := hb3.trans (hb4.mono hb3.size)
  have h04 := HB1.trans (hW4.mono HB1.size)
  have HH4 := Lib.hid ((hW4.block _ HS1).trans HH.out)
  have HX4 := Lib.hid HXw4
  have c0 := blk_cell HH4.out 0
  clear HXw4
  rw [HG.out] at HRG
  go_wp2_with fail
  refine (HRG.out w4 h04).mono ?_
  rintro e w5 ⟨rfl, hb5⟩
  have hW5 := hW4.trans (hb5.mono hW4.size)
  have h05 := HB0.out.trans (hW5.mono HB0.out.size)
  have HH5 := Lib.hid ((hW5.block _ HS1).trans HH.out)
  have HAX := Lib.hid (show At w5 (· < w5.heap.size) ⟨w3.heap.size, 0, none⟩ [.int .i64 xi, .int .i64 xe, .int .i64 xd, .int .i64 xk, .int .i64 xo, .string xt, .slice A2 nl c2] from box_at ((hb5.block _ HSXw4).trans HX4.out))
  have HAY := Lib.hid (show At w5 (· < w5.heap.size) ⟨b, o + k * 7, none⟩ [.int .i64 xi, .int .i64 xe, .int .i64 xd, .int .i64 xk, .int .i64 xo, .string xt, .slice Al nl cl] from (HAT.out.fr (Fr.ofBelow h05)).mono (fun q hq => Nat.lt_of_lt_of_le hq h05.size))
  have h35 := hb4.trans (hb5.mono hb4.size)
  have HEQ := Lib.hid (fun (w2 : World) (hb : Below w5.heap.size w5 w2) => equal_c xi xe xd xk xo xt ls A2 Al nl c2 cl w2 HNL.out
   (lines_keep (HLA.out.mono (fun h => LineC.mono h (fun q hq => hq.2)) (fun q hq => hq.2)) (h35.trans (hb.mono h35.size)))
   (lines_keep HLB.out (h05.trans (hb.mono h05.size))))
  clear c0
  go_upto_region 3 with fail
  refine wp_region_inv (Ks w5 [.val (.bool true), .val (.int .i64 (k : Int)), .val (.bool true), .val (.bool false), .val (.bool false), .val (.bool true), .val (.bool true), .val (.agg #[.int .i64 xi, .int .i64 xe, .int .i64 xd, .int .i64 xk, .int .i64 xo, .string xt, .slice A2 nl c2]), .val (.slice (some ⟨b, o, none⟩) n c), .val (.int .i64 (k : Int)), .val (.pointer (some ⟨b, o + k * 7, none⟩)), .val (.agg #[.int .i64 xi, .int .i64 xe, .int .i64 xd, .int .i64 xk, .int .i64 xo, .string xt, .slice Al nl cl]), .val (.bool true), .val (.bool false), .val (.bool false), .val (.bool false), .val (.bool false), .val (.bool true), .val (.bool false), .val (.bool false), .val (undef), .val (undef), .val (undef), .val (undef), .val (.bool false), .val (.bool false)])
   (fun w' => Below w5.heap.size w5 w') (by kernel_rfl) (by kernel_rfl) (by kernel_rfl) (Below.refl _ _).drew ?_ ?_
  · refine ⟨?_, ?_, ?_, ?_, ?_, ?_, ?_, ?_, ?_, ?_, ?_, ?_, ?_, ?_, ?_, ?_, ?_, ?_, ?_, ?_, ?_, ?_, ?_, ?_, ?_, ?_, trivial⟩
    · intro _ A0 w2 hI hd hnd K hK; have e0 := hI.q hnd 8; exact hI.z hK
    · intro _ A0 w2 hI hd hnd K hK; have e0 := hI.q hnd 9; exact hI.z hK
    · intro _ A0 w2 hI hd hnd K hK; have e0 := hI.p hd 1 28; exact hI.z hK
    · intro _ A0 w2 hI hd hnd K hK; have e0 := hI.p hd 0 27; have e1 := hI.p hd 2 29; exact hI.z hK
    · intro _ A0 w2 hI hd hnd K hK; have e0 := hI.p hd 3 30; exact hI.z hK
    · intro _ A0 w2 hI hd hnd K hK; have e0 := hI.q hnd 8; exact hI.z1 hK (hI.r hd 4 31 false)
    · intro _ A0 w2 hI hd hnd K hK; have e0 := hI.p hd 5 32; exact hI.z1 hK (hI.r hd 4 31 false)
    · intro _ A0 w2 hI hd hnd K hK; have e0 := hI.q hnd 7; have hS := hI.world; have hrange : w2.rangeAt w3.heap.size 0 [.int .i64 xi, .int .i64 xe, .int .i64 xd, .int .i64 xk, .int .i64 xo, .string xt, .slice A2 nl c2] := (HAX.out.fr (Fr.ofBelow hS)).range; have hisize := info_entry; refine wanted_yes rfl (hI.r hd 6 33 true) ?_; clear hI hd hnd
      refine wp_load_mid 42 (.tmp 7) rfl _ _ (by simpa [Act.eval, Array.getD_eq_getD_getElem?] using e0) _ _ hrange Tryz.underlying42 rfl hisize ?_
      exact kq hK hS rfl
    · intro _ A0 w2 hI hd hnd K hK; have e0 := hI.q hnd 1; exact hI.z1 hK (hI.r hd 6 33 true)
    · intro _ A0 w2 hI hd hnd K hK; have e0 := hI.q hnd 9; exact hI.z1 hK (hI.r hd 6 33 true)
    · intro _ A0 w2 hI hd hnd K hK; have e0 := hI.p hd 8 35; have e1 := hI.p hd 9 36; exact hI.z1 hK (hI.r hd 6 33 true)
    · intro _ A0 w2 hI hd hnd K hK; have e0 := hI.p hd 10 37; have hS := hI.world; have hrange : w2.rangeAt b (o + k * 7) [.int .i64 xi, .int .i64 xe, .int .i64 xd, .int .i64 xk, .int .i64 xo, .string xt, .slice Al nl cl] := (HAY.out.fr (Fr.ofBelow hS)).range; have hisize := info_entry; refine wanted_yes rfl (hI.r hd 6 33 true) ?_; clear hI hd hnd
      refine wp_load_mid 42 (.tmp 37) rfl _ _ (by simpa [Act.eval, Array.getD_eq_getD_getElem?] using e0) _ _ hrange Tryz.underlying42 rfl hisize ?_
      exact kq hK hS rfl
    · intro _ A0 w2 hI hd hnd K hK; have e0 := hI.p hd 7 34; have e1 := hI.p hd 11 38; have hS := hI.world; refine wanted_yes rfl (hI.r hd 6 33 true) ?_; clear hI hd hnd; go_simp
      go_at_call 56
      refine (HEQ.out w2 hS).mono ?_
      rintro e w3 ⟨rfl, h3⟩
      exact hK.out _ _ (hS.trans (h3.mono hS.size)) (Ks.of rfl rfl) (Ks.keep h3)
    · intro _ A0 w2 hI hd hnd K hK; have e0 := hI.p hd 12 39; exact hI.z1 hK (hI.r hd 6 33 true)
    · intro _ A0 w2 hI hd hnd K hK; have e0 := hI.p hd 6 33; have e1 := hI.p hd 13 40; exact hI.z1 hK (hI.r hd 4 31 false)
    · intro _ A0 w2 hI hd hnd K hK; have e0 := hI.p hd 4 31; have e1 := hI.p hd 14 41; exact hI.z hK
    · intro _ A0 w2 hI hd hnd K hK; have e0 := hI.p hd 15 42; exact hI.z hK
    · intro _ A0 w2 hI hd hnd K hK; have e0 := hI.q hnd 8; exact hI.z1 hK (hI.r hd 16 43 false)
    · intro _ A0 w2 hI hd hnd K hK; have e0 := hI.p hd 17 44; exact hI.z1 hK (hI.r hd 16 43 false)
    · intro _ A0 w2 hI hd hnd K hK; have e0 := hI.p hd 18 45; exact hI.z1 hK (hI.r hd 16 43 false)
    iterate 4 (· intro _ A0 w2 hI hd hnd K hK; exact hI.z2 hK (hI.r hd 19 46 false))
    · intro _ A0 w2 hI hd hnd K hK; have e0 := hI.p hd 19 46; have e1 := hI.p hd 23 50; exact hI.z1 hK (hI.r hd 16 43 false)
    · intro _ A0 w2 hI hd hnd K hK; have e0 := hI.p hd 16 43; have e1 := hI.p hd 24 51; exact hI.z hK
  · intro _ A0 w2 hI hall; have hS := hI.world; obtain ⟨x0, -, x1, -, x2, -, x3, -, x4, -, x5, -, x6, -, x7, -, x8, -, x9, -, x10, -, x11, -, x12, -, x13, -, x14, -, x15, -, x16, -, x17, -, x18, -, x19, -, x20, -, x21, -, x22, -, x23, -, x24, -, x25, h25, hA⟩ := hI.ch hall [27, 28, 29, 30, 31, 32, 33, 34, 35, 36, 37, 38, 39, 40, 41, 42, 43, 44, 45, 46, 47, 48, 49, 50, 51, 52]
    obtain rfl : x25 = .bool false := h25 _ rfl
    clear h25 hI hall
    simp only [Ch, setAll, List.foldl, List.setIfInBounds_toArray, List.set_cons_zero, List.set_cons_succ] at hA
    rw [hA]
    clear hA
    have hb6 := hS
    generalize w2 = w6 at *
    clear hS
    have hW6 := hW5.trans (hb6.mono hW5.size)
    have h06 := HB0.out.trans (hW6.mono HB0.out.size)
    have HH6 := Lib.hid ((hW6.block _ HS1).trans HH.out)
    go_wp2_with (show wpList _ _ _ (Oper.mk (some 55) _ _ _ _ _ :: _) _ _; refine wpList_load_row_g rfl 45 (.tmp 5) rfl w.heap.size rfl _ _ _ _ HH6.out Tryz.underlying45 rfl info_ref ?_)
    refine (HLN.out w6 h06).mono ?_
    rintro e w7 ⟨rfl, hb7⟩
    have hW7 := hW6.trans (hb7.mono hW6.size)
    have h07 := HB0.out.trans (hW7.mono HB0.out.size)
    have HH7 := Lib.hid ((hW7.block _ HS1).trans HH.out)
    go_upto_region 6 with (show wpList _ _ _ (Oper.mk none (Op.store _ (Operand.tmp 10) _) _ _ _ _ :: _) _ _; refine wpList_store_fresh3 rfl 52 (.tmp 10) (.tmp 57) rfl rfl w7 #[.int .i64 0, .int .i64 0, .int .i64 0] 52 #[.int .i64 va, .int .i64 vm, .int .i64 vp] rfl rfl rfl info_line rfl (by simp [Value.oneCell']) ?_; intro w8 HXw8 hb8 HSXw8)
    have hW8 := hW7.trans (hb8.mono hW7.size)
    have h08 := HB0.out.trans (hW8.mono HB0.out.size)
    have HH8 := Lib.hid ((hW8.block _ HS1).trans HH.out)
    have HL8 := Lib.hid HXw8
    clear HXw8
    go_wp2_with (show wpList _ _ _ (Oper.mk (some 61) _ _ _ _ _ :: _) _ _; refine wpList_load_row_g rfl 45 (.tmp 5) rfl w.heap.size rfl _ _ _ _ HH8.out Tryz.underlying45 rfl info_ref ?_)
    refine (HRL.out w8 h08).mono ?_
    rintro e w9 ⟨rfl, hb9⟩
    have hW9 := hW8.trans (hb9.mono hW8.size)
    have h09 := HB0.out.trans (hW9.mono HB0.out.size)
    have HH9 := Lib.hid ((hW9.block _ HS1).trans HH.out)
    have HL9 := Lib.hid ((hb9.block _ HSXw8).trans HL8.out)
    have hsx9 := Nat.lt_of_lt_of_le HSXw8 hb9.size
    go_upto_region 7 with (show wpList _ _ _ (Oper.mk none (Op.store _ (Operand.tmp 12) _) _ _ _ _ :: _) _ _; refine wpList_store_fresh3 rfl 52 (.tmp 12) (.tmp 63) rfl rfl w9 #[.int .i64 0, .int .i64 0, .int .i64 0] 52 #[.int .i64 va, .int .i64 vm, .int .i64 vp] rfl rfl rfl info_line rfl (by simp [Value.oneCell']) ?_; intro wa HXwa hba HSXwa)
    have hWa := hW9.trans (hba.mono hW9.size)
    have h0a := HB0.out.trans (hWa.mono HB0.out.size)
    have HHa := Lib.hid ((hWa.block _ HS1).trans HH.out)
    have HM10 := Lib.hid HXwa
    have HL10 := Lib.hid ((hba.block _ hsx9).trans HL9.out)
    have hsx10 := Nat.lt_of_lt_of_le hsx9 hba.size
    have k0 := blk_cell HHa.out 0
    clear HXwa
    go_wp2_with fail
    refine (HRV.out wa h0a).mono ?_
    rintro e wb ⟨rfl, hbb⟩
    have hWb := hWa.trans (hbb.mono hWa.size)
    have h0b := HB0.out.trans (hWb.mono HB0.out.size)
    have HHb := Lib.hid ((hWb.block _ HS1).trans HH.out)
    have HM11 := Lib.hid ((hbb.block _ HSXwa).trans HM10.out)
    have HL11 := Lib.hid ((hbb.block _ hsx10).trans HL10.out)
    have k0 := blk_cell HHb.out 0
    have hvd : (vb == vb) = true := by simp
    go_wp2_with (first | (show wpList _ _ _ (Oper.mk (some 72) _ _ _ _ _ :: _) _ _; refine wpList_load_row_g rfl 52 (.tmp 10) rfl w7.heap.size rfl _ _ _ _ HL11.out Tryz.underlying52 rfl info_line ?_) | (show wpList _ _ _ (Oper.mk (some 73) _ _ _ _ _ :: _) _ _; refine wpList_load_row_g rfl 52 (.tmp 12) rfl w9.heap.size rfl _ _ _ _ HM11.out Tryz.underlying52 rfl info_line ?_))
    refine (HRR.out wb h0b).mono ?_
    rintro e wc ⟨rfl, hbc⟩
    have hWc := hWb.trans (hbc.mono hWb.size)
    have h0c := HB0.out.trans (hWc.mono HB0.out.size)
    have HHc := Lib.hid ((hWc.block _ HS1).trans HH.out)
    have hrv : (rv == rv) = true := by simp
    have hz2 : (rv != 0) = rb := HRB.out
    have hz3 : (rb == rb) = true := by simp
    go_wp2_with fail
    refine (HLE.out wc h0c).mono ?_
    rintro e wd ⟨rfl, hbd⟩
    have hWd := hWc.trans (hbd.mono hWc.size)
    have h0d := HB0.out.trans (hWd.mono HB0.out.size)
    have HHd := Lib.hid ((hWd.block _ HS1).trans HH.out)
    have hnn : ((n : Int) == (n : Int)) = true := by simp
    go_wp2_with fail
    refine (HEN.out wd h0d).mono ?_
    rintro e we ⟨Ae, ce, rfl, hle, hbe⟩
    have hWe := hWd.trans (hbe.mono hWd.size)
    have h0e := HB0.out.trans (hWe.mono HB0.out.size)
    have HHe := Lib.hid ((hWe.block _ HS1).trans HH.out)
    have HSQ := Lib.hid (HSM.out we h0e Ae ce (hle.mono (Q' := (· < we.heap.size)) (fun h => EntryC.mono h (fun q hq => hq.2)) (fun q hq => hq.2)))
    clear hle
    go_wp2_with fail
    refine HSQ.out.mono ?_
    rintro e wf ⟨rfl, hbf⟩
    go_wp2_with fail
    go_ret
    exact ⟨rfl, h0e.trans (hbf.mono h0e.size)⟩
end Go.Proofs.YtebdajkknkapcaaGreat
