/- The reference's Post. Written by gen_i12.py. -/
import Derived.Test.YtekelchdbkjjjaaGreatG17xB0B2
import Derived.Test.YtekelchdbkjjjaaGreatG17xB3B8
import Derived.Test.YtekelchdbkjjjaaGreatG17xB14
import Derived.Test.YtekelchdbkjjjaaGreatG17xB16
import Derived.Test.YtekelchdbkjjjaaGreatG17xB17B24
import Derived.Test.YtekelchdbkjjjaaGreatG17xB29B32
import Derived.Test.YtekelchdbkjjjaaGreatG17xB33S2
import Derived.Test.YtekelchdbkjjjaaGreatG17xC4E3
import Derived.Test.YtekelchdbkjjjaaGreatG17xE6F1
import Derived.Test.YtekelchdbkjjjaaGreatG17xF2I7
import Derived.Test.YtekelchdbkjjjaaGreatG17xI8I11
import Derived.Test.YtekelchdbkjjjaaGreatProg
set_option linter.unusedVariables false
set_option linter.unusedSimpArgs false
set_option maxRecDepth 4000
attribute [local go_sem ↓] Go.wp_at_zero Go.wp_at_succ
namespace Go.Proofs.YtekelchdbkjjjaaGreat
open Go Go.RowKit
theorem entries_keep {w w' : World} {cs : List Value} {l : List XEntry} (h : ListC EntryC 7 w (· < w.heap.size) cs l) (hb : Below w.heap.size w w') : ListC EntryC 7 w' (· < w'.heap.size) cs l :=
 (h.fr (fun h => EntryC.fr h (Fr.ofBelow hb)) (Fr.ofBelow hb)).mono (fun h => EntryC.mono h (fun q hq => Nat.lt_of_lt_of_le hq hb.size)) (fun q hq => Nat.lt_of_lt_of_le hq hb.size)
theorem postE_1 {g : XGroup} {es : List XEntry} {x : XEntry} {R : Int} (h : checkE g x = R) (h0 : R ≠ 0) : postE g es x = R := by
 unfold postE
 rw [h, if_pos h0]
theorem postE_2 {g : XGroup} {es : List XEntry} {x : XEntry} {k : Nat} (h : checkE g x = 0) (h2 : idxE es x.id = some k) : postE g es x = 9 := by
 unfold postE
 rw [h, h2]; rfl
theorem postE_3 {g : XGroup} {es : List XEntry} {x : XEntry} {R : Int} (h : checkE g x = 0) (h2 : idxE es x.id = none) (h3 : x.kind = 3) (h4 : rvsE es x = R) (h5 : R ≠ 0) : postE g es x = R := by
 unfold postE
 rw [h, h2, h4, if_neg (by decide), if_neg (by decide), if_pos ⟨h3, h5⟩]
theorem postE_4 {g : XGroup} {es : List XEntry} {x : XEntry} (h : checkE g x = 0) (h2 : idxE es x.id = none) (h3 : x.kind = 3 → rvsE es x = 0) : postE g es x = if 2000 ≤ es.length then 6 else 0 := by
 unfold postE
 rw [h, h2, if_neg (by decide), if_neg (by decide), if_neg (fun hh => hh.2 (h3 hh.1))]
theorem rvsE_none {es : List XEntry} {x : XEntry} (h : idxE es x.of_ = none) : rvsE es x = 8 := by
 unfold rvsE
 rw [h]
theorem rvsE_some {es : List XEntry} {x y : XEntry} {k : Nat} (h : idxE es x.of_ = some k) (hk : es[k]? = some y) : rvsE es x = if y.kind = 3 ∨ revId es x.of_ ≠ 0 then 7 else if y.entity ≠ x.entity ∨ x.date < y.date ∨ oppB x.lines y.lines = false then 18 else 0 := by
 unfold rvsE
 rw [h]
 simp only [List.getD_eq_getElem?_getD, hk, Option.getD_some]
theorem getI_of {es : List XEntry} {id : Int} : (idxE es id = none ∧ getI es id = -1) ∨ ∃ k, idxE es id = some k ∧ getI es id = k := by
 unfold getI
 cases h : idxE es id with
 | none => exact .inl ⟨rfl, rfl⟩
 | some k => exact .inr ⟨k, rfl, rfl⟩
set_option maxHeartbeats 4000000 in
theorem rpost_c (g : XGroup) (es : List XEntry) (x : XEntry) (gl ex : List Value) (A : Option Addr) (c : Nat) (w : World) (hg : GroupC w (· < w.heap.size) gl g) (hsm : smallG g) (hl : ListC EntryC 7 w (· < w.heap.size) [.slice A es.length c] es) (hx : EntryC w (· < w.heap.size) ex x) (hts : x.text.size ≤ 140737488355327) (hok : okJ g es) :
 Calls Tryz.prog 116 #[.agg gl.toArray, .slice A es.length c, .agg ex.toArray] w (Quiet w (.int .i64 (postE g es x))) := by
 have HCK := Lib.hid (fun (w2 : World) (hb : Below w.heap.size w w2) => rcheck_c g x gl ex w2 (hg.keep hb) hsm (hx.keep hb) hts)
 have HGET := Lib.hid (fun (id : Int) (w2 : World) (hb : Below w.heap.size w w2) => rget_c es A c id w2 (entries_keep hl hb))
 have HREV := Lib.hid (fun (id : Int) (w2 : World) (hb : Below w.heap.size w w2) => rrev_c es A c id w2 (entries_keep hl hb))
 obtain ⟨r, hr⟩ : ∃ r, postE g es x = r := ⟨_, rfl⟩
 rw [hr]
 have HR := Lib.hid hr
 obtain ⟨R, hR⟩ : ∃ R, checkE g x = R := ⟨_, rfl⟩
 rw [hR] at HCK
 have HCE := Lib.hid hR
 have hgl : gl.toArray.size = 21 := by have := hg.len; simpa using this
 have HGS := Lib.hid hgl
 obtain ⟨Al, cl, hex, hxb, hll⟩ := hx.lit
 subst hex
 have HLX := Lib.hid hll
 have HOK := Lib.hid hok
 have hbn := hl.cap
 have HL := Lib.hid hl
 obtain ⟨n, hnl⟩ : ∃ n, es.length = n := ⟨_, rfl⟩
 have HN := Lib.hid hnl
 rw [hnl] at HGET HREV hbn ⊢
 unfold maxLen at hbn
 have hn9 : n ≤ 9223372036854775807 := by omega
 obtain ⟨xi, xe, xd, xk, xo, xt, ls⟩ := x
 simp only at hxb hts HCK HLX ⊢
 obtain ⟨nl, hnl2⟩ : ∃ n, ls.length = n := ⟨_, rfl⟩
 have HNL := Lib.hid hnl2
 rw [hnl2] at HCK ⊢
 clear hg hsm hl hx hok hr hR hgl hll hnl hnl2 hbn hxb hts
 show Calls Tryz.prog 116 #[.agg gl.toArray, .slice A n c, .agg #[.int .i64 xi, .int .i64 xe, .int .i64 xd, .int .i64 xk, .int .i64 xo, .string xt, .slice Al nl cl]] w (Quiet w (.int .i64 r))
 go_enter Tryz.func116, Tryz.ntmps116
 go_upto_region 1 with fail
 have H := heap_alloc_new w (.cells gl.toArray 29)
 have HB := below1 w (.cells gl.toArray 29)
 have HS := blk_lt H
 generalize hW : w.alloc (Obj.cells gl.toArray 29) = W at *
 have H2 := heap_alloc_new W (.cells #[.int .i64 xi, .int .i64 xe, .int .i64 xd, .int .i64 xk, .int .i64 xo, .string xt, .slice Al nl cl] 46)
 have HB2 := below1 W (.cells #[.int .i64 xi, .int .i64 xe, .int .i64 xd, .int .i64 xk, .int .i64 xo, .string xt, .slice Al nl cl] 46)
 have HS2 := blk_lt H2
 replace H := alloc_keep H (Obj.cells #[.int .i64 xi, .int .i64 xe, .int .i64 xd, .int .i64 xk, .int .i64 xo, .string xt, .slice Al nl cl] 46)
 generalize hW2 : W.alloc (Obj.cells #[.int .i64 xi, .int .i64 xe, .int .i64 xd, .int .i64 xk, .int .i64 xo, .string xt, .slice Al nl cl] 46) = W2 at *
 clear hW2
 have eW : W.heap.size = w.heap.size + 1 := by rw [← hW]; simp
 rw [eW] at H2
 clear hW
 have hb2 := HB.trans (HB2.mono HB.size)
 have hs2 := HB2.size
 have LT1 := blk_lt H2
 have LT0 : w.heap.size < W2.heap.size := by omega
 have HH := Lib.hid H
 have HZ := Lib.hid H2
 have EW := Lib.hid eW
 clear H H2 eW
 go_wp2_with (first | (show wpList _ _ _ (Oper.mk (some 9) _ _ _ _ _ :: _) _ _; refine wpList_load_row_g rfl 29 (.tmp 3) rfl (w.heap.size) rfl _ _ _ _ HH.out Tryz.underlying29 rfl (by rw [info_group]; exact congrArg some HGS.out.symm) ?_) | (show wpList _ _ _ (Oper.mk (some 10) _ _ _ _ _ :: _) _ _; refine wpList_load_row_g rfl 46 (.tmp 5) rfl (w.heap.size + 1) rfl _ _ _ _ HZ.out Tryz.underlying46 rfl info_entry ?_))
 refine (HCK.out W2 hb2).mono ?_
 rintro e w3 ⟨rfl, hb3⟩
 have hb02 := hb2
 have LT02 := LT0
 have LT12 := LT1
 have HH2 := HH
 have HZ2 := HZ
 have hb03 := hb02.trans (hb3.mono hb02.size)
 have hs3 := hb3.size
 have LT03 := Nat.lt_of_lt_of_le LT02 hs3
 have LT13 := Nat.lt_of_lt_of_le LT12 hs3
 have HH3 := Lib.hid ((hb3.block _ LT02).trans HH2.out)
 have HZ3 := Lib.hid ((hb3.block _ LT12).trans HZ2.out)
 by_cases hR0 : R = 0
 case neg =>
  have hq : (R == 0) = false := by simp [hR0]
  have hq2 : (R != 0) = true := by simp [hR0]
  have hf := Lib.hid (show r = R from HR.out.symm.trans (postE_1 HCE.out hR0))
  clear hR0
  go_wp2_with fail
  go_ret
  exact ⟨by rw [hf.out]; first | done | rfl, hb03⟩
 case pos =>
 have hq2 : (R != 0) = false := by simp [hR0]
 have HCE0 := Lib.hid (show checkE g ⟨xi, xe, xd, xk, xo, xt, ls⟩ = 0 from HCE.out.trans hR0)
 clear hR0
 have e0 := blk_cell HZ3.out 0
 go_wp2_with fail
 refine (HGET.out xi w3 hb03).mono ?_
 rintro e w4 ⟨rfl, hb4⟩
 have hb04 := hb03.trans (hb4.mono hb03.size)
 have hs4 := hb4.size
 have LT04 := Nat.lt_of_lt_of_le LT03 hs4
 have LT14 := Nat.lt_of_lt_of_le LT13 hs4
 have HH4 := Lib.hid ((hb4.block _ LT03).trans HH3.out)
 have HZ4 := Lib.hid ((hb4.block _ LT13).trans HZ3.out)
 clear e0 hq2
 rcases getI_of (es := es) (id := xi) with ⟨hi1, hi2⟩ | ⟨k0, hi1, hi2⟩
 case inr =>
  rw [hi2]
  have hf := Lib.hid (show r = 9 from HR.out.symm.trans (postE_2 HCE0.out hi1))
  have hg1 : (0 : Int) ≤ (k0 : Int) := by omega
  clear hi1 hi2
  go_wp2_with fail
  go_ret
  exact ⟨by rw [hf.out]; first | done | rfl, hb04⟩
 rw [hi2]
 have HIN := Lib.hid hi1
 clear hi1 hi2
 have e3 := blk_cell HZ4.out 3
 by_cases hk3 : xk = 3
 case neg =>
  have hk3b : (xk == 3) = false := by simpa using hk3
  have hf := Lib.hid (show r = if 2000 ≤ es.length then 6 else 0 from HR.out.symm.trans (postE_4 HCE0.out HIN.out (fun h => absurd h hk3)))
  rw [HN.out] at hf
  clear hk3
  by_cases hlim : 2000 ≤ n
  case pos =>
   have hl1 : decide ((2000 : Int) ≤ (n : Int)) = true := decide_eq_true (by omega)
   replace hf := Lib.hid (hf.out.trans (if_pos hlim))
   clear hlim
   go_wp2_with fail
   go_ret
   exact ⟨by rw [hf.out]; first | done | rfl, hb04⟩
  case neg =>
   have hl1 : decide ((2000 : Int) ≤ (n : Int)) = false := decide_eq_false (by omega)
   replace hf := Lib.hid (hf.out.trans (if_neg hlim))
   clear hlim
   go_wp2_with fail
   go_ret
   exact ⟨by rw [hf.out]; first | done | rfl, hb04⟩
 case pos =>
 have hk3b : (xk == 3) = true := by simpa using hk3
 have HK3 := Lib.hid hk3
 clear hk3
 have e4 := blk_cell HZ4.out 4
 go_wp2_with fail
 refine (HGET.out xo w4 hb04).mono ?_
 rintro e w5 ⟨rfl, hb5⟩
 have hb05 := hb04.trans (hb5.mono hb04.size)
 have hs5 := hb5.size
 have LT05 := Nat.lt_of_lt_of_le LT04 hs5
 have LT15 := Nat.lt_of_lt_of_le LT14 hs5
 have HH5 := Lib.hid ((hb5.block _ LT04).trans HH4.out)
 have HZ5 := Lib.hid ((hb5.block _ LT14).trans HZ4.out)
 clear e3 e4 hk3b
 rcases getI_of (es := es) (id := xo) with ⟨hi1, hi2⟩ | ⟨kk, hi1, hi2⟩
 case inl =>
  rw [hi2]
  have hf := Lib.hid (show r = 8 from HR.out.symm.trans (postE_3 HCE0.out HIN.out HK3.out (rvsE_none hi1) (by decide)))
  clear hi1 hi2
  go_wp2_with fail
  go_ret
  exact ⟨by rw [hf.out]; first | done | rfl, hb05⟩
 rw [hi2]
 obtain ⟨hkl, hyid⟩ := idxE_some hi1
 obtain ⟨b, o, cs, hAe, hbw, hes, hat⟩ := ListC.get HL.out kk hkl
 subst hAe
 obtain ⟨y, hy⟩ : ∃ y, es[kk] = y := ⟨_, rfl⟩
 have hok := okJ_check HOK.out (List.getElem_mem hkl)
 rw [hy] at hes hok
 have HRS := Lib.hid (rvsE_some (x := ⟨xi, xe, xd, xk, xo, xt, ls⟩) hi1 ((List.getElem?_eq_getElem hkl).trans (congrArg some hy)))
 have HMID := Lib.hid (checkE_mid hok)
 have HLN := Lib.hid (checkE_lines hok)
 obtain ⟨Aly, cly, hcs, _, hly⟩ := EntryC.lit hes
 subst hcs
 have HLY := Lib.hid hly
 have hat5 := hat.fr (Fr.ofBelow hb05)
 obtain ⟨yi, ye, yd, yk, yo, yt, ly⟩ := y
 simp only at hat5 HRS HMID HLN HLY
 obtain ⟨nly, hnly⟩ : ∃ n, ly.length = n := ⟨_, rfl⟩
 have HNLY := Lib.hid hnly
 rw [hnly] at hat5
 have HAT5 := Lib.hid hat5
 have hkn : kk < n := by rw [← HN.out]; exact hkl
 have hknI : (kk : Int) < (n : Int) := by omega
 have hkn0 : (0 : Int) ≤ (kk : Int) := by omega
 have hkn1 : ¬ (kk : Int) < 0 := by omega
 have hnz : 0 < n := by omega
 have y3 := hat5.c (j := 3) rfl
 clear hi1 hi2 hyid hes hok hy hat hly hat5 hnly hkl
 by_cases hyk : yk = 3
 case pos =>
  have hykb : (yk == 3) = true := by simpa using hyk
  have hf := Lib.hid (show r = 7 from HR.out.symm.trans (postE_3 HCE0.out HIN.out HK3.out (HRS.out.trans (if_pos (.inl hyk))) (by decide)))
  clear hyk
  go_wp2_with fail
  go_ret
  exact ⟨by rw [hf.out]; first | done | rfl, hb05⟩
 case neg =>
 have hykb : (yk == 3) = false := by simpa using hyk
 have HYK := Lib.hid hyk
 clear hyk
 have e4 := blk_cell HZ5.out 4
 go_wp2_with fail
 refine (HREV.out xo w5 hb05).mono ?_
 rintro e V ⟨rfl, hb6⟩
 have hb06 := hb05.trans (hb6.mono hb05.size)
 have hs6 := hb6.size
 have LT06 := Nat.lt_of_lt_of_le LT05 hs6
 have LT16 := Nat.lt_of_lt_of_le LT15 hs6
 have HH6 := Lib.hid ((hb6.block _ LT05).trans HH5.out)
 have HZ6 := Lib.hid ((hb6.block _ LT15).trans HZ5.out)
 clear e4 y3 hykb
 obtain ⟨rv, hrv⟩ : ∃ rv, revId es xo = rv := ⟨_, rfl⟩
 rw [hrv] at HRS ⊢
 clear hrv
 by_cases hrv0 : rv = 0
 case neg =>
  have hrb : (rv != 0) = true := by simpa using hrv0
  have hf := Lib.hid (show r = 7 from HR.out.symm.trans (postE_3 HCE0.out HIN.out HK3.out (HRS.out.trans (if_pos (.inr hrv0))) (by decide)))
  clear hrv0
  go_wp2_with fail
  go_ret
  exact ⟨by rw [hf.out]; first | done | rfl, hb06⟩
 case pos =>
 have hrb : (rv != 0) = false := by simpa using hrv0
 have HRS2 := Lib.hid (HRS.out.trans (if_neg (fun h => h.elim HYK.out (fun h => h hrv0))))
 clear hrv0
 try simp only at HRS2
 have HOP := Lib.hid (fun (w2 : World) (hS : Below V.heap.size V w2) => show Calls Tryz.prog 147 #[.slice Al nl cl, .slice Aly nly cly] w2 (Quiet w2 (.bool (oppB ls ly))) by
  have hb := hb06.trans (hS.mono hb06.size)
  have h := ropp_c ls ly Al Aly cl cly w2 (lines_keep HLX.out hb) (lines_keep HLY.out hb) HMID.out (by have := HLN.out; omega)
  rwa [HNL.out, HNLY.out] at h)
 obtain ⟨ob, hob⟩ : ∃ ob, oppB ls ly = ob := ⟨_, rfl⟩
 rw [hob] at HOP HRS2
 clear hob
 have hat6 := HAT5.out.fr (Fr.ofBelow (hb6.mono (hb05.size)))
 have HY1 := Lib.hid (hat6.c (j := 1) rfl)
 have HY2 := Lib.hid (hat6.c (j := 2) rfl)
 have HY6 := Lib.hid (hat6.c (j := 6) rfl)
 have HX1 := Lib.hid (blk_cell HZ6.out 1)
 have HX2 := Lib.hid (blk_cell HZ6.out 2)
 have HX6 := Lib.hid (blk_cell HZ6.out 6)
 have HBL := Lib.hid (show b < V.heap.size from Nat.lt_of_lt_of_le hbw hb06.size)
 have HZL := Lib.hid LT16
 have HB6 := Lib.hid hb06
 clear hat6
 by_cases hye : ye = xe
 case neg =>
  have hyeb : (ye != xe) = true := by simpa using hye
  have hf0 := Lib.hid (HRS2.out.trans (if_pos (.inl hye)))
  clear hye
  go_upto_region 12 with fail
  refine wp_region_inv (Ks V [.val (.slice (some ⟨b, o, none⟩) n c), .val (.int .i64 (kk : Int)), .val (.pointer (some ⟨b, o + kk * 7, none⟩)), .val (.pointer (some ⟨b, o + kk * 7 + 1, none⟩)), .val (.int .i64 ye), .val (.pointer (some ⟨(w.heap.size + 1), 1, none⟩)), .val (.int .i64 xe), .val (.bool true), .val (.bool true), .val (undef), .val (undef), .val (undef), .val (undef), .val (undef), .val (undef), .val (undef), .val (undef), .val (.bool true), .val (.bool true), .val (undef), .val (undef), .val (undef), .val (undef), .val (undef), .val (undef), .val (undef), .val (undef), .val (undef), .val (.bool true), .val (.bool true)])
   (fun w' => Below V.heap.size V w') (by kernel_rfl) (by kernel_rfl) (by kernel_rfl) (Below.refl _ _).drew ?_ ?_
  · refine ⟨?_, ?_, ?_, ?_, ?_, ?_, ?_, ?_, ?_, ?_, ?_, ?_, ?_, ?_, ?_, ?_, ?_, ?_, ?_, ?_, ?_, ?_, ?_, ?_, ?_, ?_, ?_, ?_, ?_, ?_, trivial⟩
    · intro _ A0 w2 hI hd hnd K hK; have e0 := hI.q hnd 1; exact hI.z hK
    · intro _ A0 w2 hI hd hnd K hK; have e0 := hI.q hnd 8; exact hI.z hK
    · intro _ A0 w2 hI hd hnd K hK; have e0 := hI.p hd 0 45; have e1 := hI.p hd 1 46; exact hI.z hK
    · intro _ A0 w2 hI hd hnd K hK; have e0 := hI.p hd 2 47; exact hI.z hK
    · intro _ A0 w2 hI hd hnd K hK; have e0 := hI.p hd 3 48; have hS := hI.world; have hcc : w2.cell? ⟨b, o + kk * 7 + 1, none⟩ = _ := (hS.cell (p := ⟨b, o + kk * 7 + 1, none⟩) HBL.out).trans HY1.out; exact hI.z hK
    · intro _ A0 w2 hI hd hnd K hK; have e0 := hI.q hnd 5; exact hI.z hK
    · intro _ A0 w2 hI hd hnd K hK; have e0 := hI.p hd 5 50; have hS := hI.world; have hcc : w2.cell? ⟨(w.heap.size + 1), 1, none⟩ = _ := (hS.cell (p := ⟨(w.heap.size + 1), 1, none⟩) HZL.out).trans HX1.out; exact hI.z hK
    · intro _ A0 w2 hI hd hnd K hK; have e0 := hI.p hd 4 49; have e1 := hI.p hd 6 51; exact hI.z hK
    · intro _ A0 w2 hI hd hnd K hK; have e0 := hI.p hd 7 52; exact hI.z hK
    iterate 8 (· intro _ A0 w2 hI hd hnd K hK; exact hI.z2 hK (hI.r hd 8 53 true))
    · intro _ A0 w2 hI hd hnd K hK; have e0 := hI.p hd 8 53; have e1 := hI.p hd 16 61; exact hI.z hK
    · intro _ A0 w2 hI hd hnd K hK; have e0 := hI.p hd 17 62; exact hI.z hK
    iterate 9 (· intro _ A0 w2 hI hd hnd K hK; exact hI.z2 hK (hI.r hd 18 63 true))
    · intro _ A0 w2 hI hd hnd K hK; have e0 := hI.p hd 18 63; have e1 := hI.p hd 27 72; exact hI.z hK
    · intro _ A0 w2 hI hd hnd K hK; have e0 := hI.p hd 28 73; exact hI.z hK
  · intro _ A0 w2 hI hall; have hS := hI.world; have c9 := hI.ch hall [45, 46, 47, 48, 49, 50, 51, 52, 53, 54, 55, 56, 57, 58, 59, 60, 61, 62, 63, 64, 65, 66, 67, 68, 69, 70, 71, 72, 73, 44]; obtain ⟨x0, x1, x2, x3, x4, x5, x6, x7, x8, x9, x10, x11, x12, x13, x14, x15, x16, x17, x18, x19, x20, x21, x22, x23, x24, x25, x26, x27, x28, x29, hA, hV⟩ := c9
    obtain rfl : x29 = .bool true := hV 29 _ _ rfl _ rfl
    clear hV hI hall
    simp only [setAll, List.foldl, List.setIfInBounds_toArray, List.set_cons_zero, List.set_cons_succ] at hA
    rw [hA]
    clear hA
    have hb9 := HB6.out.trans (hS.mono HB6.out.size)
    have hf := Lib.hid (show r = 18 from (HR.out.symm.trans (postE_3 HCE0.out HIN.out HK3.out hf0.out (by decide))))
    go_wp2_with fail
    go_ret
    exact ⟨by rw [hf.out]; first | done | rfl, hb9⟩
 case pos =>
 have hyeb : (ye != xe) = false := by simpa using hye
 have HYE := Lib.hid hye
 clear hye
 by_cases hyd : xd < yd
 case pos =>
  have hydb : decide (xd < yd) = true := decide_eq_true hyd
  have hf0 := Lib.hid (HRS2.out.trans (if_pos (.inr (.inl hyd))))
  go_upto_region 12 with fail
  refine wp_region_inv (Ks V [.val (.slice (some ⟨b, o, none⟩) n c), .val (.int .i64 (kk : Int)), .val (.pointer (some ⟨b, o + kk * 7, none⟩)), .val (.pointer (some ⟨b, o + kk * 7 + 1, none⟩)), .val (.int .i64 ye), .val (.pointer (some ⟨(w.heap.size + 1), 1, none⟩)), .val (.int .i64 xe), .val (.bool false), .val (.bool false), .val (.slice (some ⟨b, o, none⟩) n c), .val (.int .i64 (kk : Int)), .val (.pointer (some ⟨b, o + kk * 7, none⟩)), .val (.pointer (some ⟨b, o + kk * 7 + 2, none⟩)), .val (.int .i64 yd), .val (.pointer (some ⟨(w.heap.size + 1), 2, none⟩)), .val (.int .i64 xd), .val (.bool true), .val (.bool true), .val (.bool true), .val (undef), .val (undef), .val (undef), .val (undef), .val (undef), .val (undef), .val (undef), .val (undef), .val (undef), .val (.bool true), .val (.bool true)])
   (fun w' => Below V.heap.size V w') (by kernel_rfl) (by kernel_rfl) (by kernel_rfl) (Below.refl _ _).drew ?_ ?_
  · refine ⟨?_, ?_, ?_, ?_, ?_, ?_, ?_, ?_, ?_, ?_, ?_, ?_, ?_, ?_, ?_, ?_, ?_, ?_, ?_, ?_, ?_, ?_, ?_, ?_, ?_, ?_, ?_, ?_, ?_, ?_, trivial⟩
    · intro _ A0 w2 hI hd hnd K hK; have e0 := hI.q hnd 1; exact hI.z hK
    · intro _ A0 w2 hI hd hnd K hK; have e0 := hI.q hnd 8; exact hI.z hK
    · intro _ A0 w2 hI hd hnd K hK; have e0 := hI.p hd 0 45; have e1 := hI.p hd 1 46; exact hI.z hK
    · intro _ A0 w2 hI hd hnd K hK; have e0 := hI.p hd 2 47; exact hI.z hK
    · intro _ A0 w2 hI hd hnd K hK; have e0 := hI.p hd 3 48; have hS := hI.world; have hcc : w2.cell? ⟨b, o + kk * 7 + 1, none⟩ = _ := (hS.cell (p := ⟨b, o + kk * 7 + 1, none⟩) HBL.out).trans HY1.out; exact hI.z hK
    · intro _ A0 w2 hI hd hnd K hK; have e0 := hI.q hnd 5; exact hI.z hK
    · intro _ A0 w2 hI hd hnd K hK; have e0 := hI.p hd 5 50; have hS := hI.world; have hcc : w2.cell? ⟨(w.heap.size + 1), 1, none⟩ = _ := (hS.cell (p := ⟨(w.heap.size + 1), 1, none⟩) HZL.out).trans HX1.out; exact hI.z hK
    · intro _ A0 w2 hI hd hnd K hK; have e0 := hI.p hd 4 49; have e1 := hI.p hd 6 51; exact hI.z hK
    · intro _ A0 w2 hI hd hnd K hK; have e0 := hI.p hd 7 52; exact hI.z hK
    · intro _ A0 w2 hI hd hnd K hK; have e0 := hI.q hnd 1; exact hI.z1 hK (hI.r hd 8 53 false)
    · intro _ A0 w2 hI hd hnd K hK; have e0 := hI.q hnd 8; exact hI.z1 hK (hI.r hd 8 53 false)
    · intro _ A0 w2 hI hd hnd K hK; have e0 := hI.p hd 9 54; have e1 := hI.p hd 10 55; exact hI.z1 hK (hI.r hd 8 53 false)
    · intro _ A0 w2 hI hd hnd K hK; have e0 := hI.p hd 11 56; exact hI.z1 hK (hI.r hd 8 53 false)
    · intro _ A0 w2 hI hd hnd K hK; have e0 := hI.p hd 12 57; have hS := hI.world; have hcc : w2.cell? ⟨b, o + kk * 7 + 2, none⟩ = _ := (hS.cell (p := ⟨b, o + kk * 7 + 2, none⟩) HBL.out).trans HY2.out; exact hI.z1 hK (hI.r hd 8 53 false)
    · intro _ A0 w2 hI hd hnd K hK; have e0 := hI.q hnd 5; exact hI.z1 hK (hI.r hd 8 53 false)
    · intro _ A0 w2 hI hd hnd K hK; have e0 := hI.p hd 14 59; have hS := hI.world; have hcc : w2.cell? ⟨(w.heap.size + 1), 2, none⟩ = _ := (hS.cell (p := ⟨(w.heap.size + 1), 2, none⟩) HZL.out).trans HX2.out; exact hI.z1 hK (hI.r hd 8 53 false)
    · intro _ A0 w2 hI hd hnd K hK; have e0 := hI.p hd 13 58; have e1 := hI.p hd 15 60; exact hI.z1 hK (hI.r hd 8 53 false)
    · intro _ A0 w2 hI hd hnd K hK; have e0 := hI.p hd 8 53; have e1 := hI.p hd 16 61; exact hI.z hK
    · intro _ A0 w2 hI hd hnd K hK; have e0 := hI.p hd 17 62; exact hI.z hK
    iterate 9 (· intro _ A0 w2 hI hd hnd K hK; exact hI.z2 hK (hI.r hd 18 63 true))
    · intro _ A0 w2 hI hd hnd K hK; have e0 := hI.p hd 18 63; have e1 := hI.p hd 27 72; exact hI.z hK
    · intro _ A0 w2 hI hd hnd K hK; have e0 := hI.p hd 28 73; exact hI.z hK
  · intro _ A0 w2 hI hall; have hS := hI.world; have c9 := hI.ch hall [45, 46, 47, 48, 49, 50, 51, 52, 53, 54, 55, 56, 57, 58, 59, 60, 61, 62, 63, 64, 65, 66, 67, 68, 69, 70, 71, 72, 73, 44]; obtain ⟨x0, x1, x2, x3, x4, x5, x6, x7, x8, x9, x10, x11, x12, x13, x14, x15, x16, x17, x18, x19, x20, x21, x22, x23, x24, x25, x26, x27, x28, x29, hA, hV⟩ := c9
    obtain rfl : x29 = .bool true := hV 29 _ _ rfl _ rfl
    clear hV hI hall
    simp only [setAll, List.foldl, List.setIfInBounds_toArray, List.set_cons_zero, List.set_cons_succ] at hA
    rw [hA]
    clear hA
    have hb9 := HB6.out.trans (hS.mono HB6.out.size)
    have hf := Lib.hid (show r = 18 from (HR.out.symm.trans (postE_3 HCE0.out HIN.out HK3.out hf0.out (by decide))))
    go_wp2_with fail
    go_ret
    exact ⟨by rw [hf.out]; first | done | rfl, hb9⟩
 case neg =>
 have hydb : decide (xd < yd) = false := decide_eq_false hyd
 have HYD := Lib.hid hyd
 cases ob with
 | false =>
  have hf0 := Lib.hid (HRS2.out.trans (if_pos (.inr (.inr rfl))))
  go_upto_region 12 with fail
  refine wp_region_inv (Ks V [.val (.slice (some ⟨b, o, none⟩) n c), .val (.int .i64 (kk : Int)), .val (.pointer (some ⟨b, o + kk * 7, none⟩)), .val (.pointer (some ⟨b, o + kk * 7 + 1, none⟩)), .val (.int .i64 ye), .val (.pointer (some ⟨(w.heap.size + 1), 1, none⟩)), .val (.int .i64 xe), .val (.bool false), .val (.bool false), .val (.slice (some ⟨b, o, none⟩) n c), .val (.int .i64 (kk : Int)), .val (.pointer (some ⟨b, o + kk * 7, none⟩)), .val (.pointer (some ⟨b, o + kk * 7 + 2, none⟩)), .val (.int .i64 yd), .val (.pointer (some ⟨(w.heap.size + 1), 2, none⟩)), .val (.int .i64 xd), .val (.bool false), .val (.bool false), .val (.bool false), .val (.pointer (some ⟨(w.heap.size + 1), 6, none⟩)), .val (.slice Al nl cl), .val (.slice (some ⟨b, o, none⟩) n c), .val (.int .i64 (kk : Int)), .val (.pointer (some ⟨b, o + kk * 7, none⟩)), .val (.pointer (some ⟨b, o + kk * 7 + 6, none⟩)), .val (.slice Aly nly cly), .val (.bool false), .val (.bool true), .val (.bool true), .val (.bool true)])
   (fun w' => Below V.heap.size V w') (by kernel_rfl) (by kernel_rfl) (by kernel_rfl) (Below.refl _ _).drew ?_ ?_
  · refine ⟨?_, ?_, ?_, ?_, ?_, ?_, ?_, ?_, ?_, ?_, ?_, ?_, ?_, ?_, ?_, ?_, ?_, ?_, ?_, ?_, ?_, ?_, ?_, ?_, ?_, ?_, ?_, ?_, ?_, ?_, trivial⟩
    · intro _ A0 w2 hI hd hnd K hK; have e0 := hI.q hnd 1; exact hI.z hK
    · intro _ A0 w2 hI hd hnd K hK; have e0 := hI.q hnd 8; exact hI.z hK
    · intro _ A0 w2 hI hd hnd K hK; have e0 := hI.p hd 0 45; have e1 := hI.p hd 1 46; exact hI.z hK
    · intro _ A0 w2 hI hd hnd K hK; have e0 := hI.p hd 2 47; exact hI.z hK
    · intro _ A0 w2 hI hd hnd K hK; have e0 := hI.p hd 3 48; have hS := hI.world; have hcc : w2.cell? ⟨b, o + kk * 7 + 1, none⟩ = _ := (hS.cell (p := ⟨b, o + kk * 7 + 1, none⟩) HBL.out).trans HY1.out; exact hI.z hK
    · intro _ A0 w2 hI hd hnd K hK; have e0 := hI.q hnd 5; exact hI.z hK
    · intro _ A0 w2 hI hd hnd K hK; have e0 := hI.p hd 5 50; have hS := hI.world; have hcc : w2.cell? ⟨(w.heap.size + 1), 1, none⟩ = _ := (hS.cell (p := ⟨(w.heap.size + 1), 1, none⟩) HZL.out).trans HX1.out; exact hI.z hK
    · intro _ A0 w2 hI hd hnd K hK; have e0 := hI.p hd 4 49; have e1 := hI.p hd 6 51; exact hI.z hK
    · intro _ A0 w2 hI hd hnd K hK; have e0 := hI.p hd 7 52; exact hI.z hK
    · intro _ A0 w2 hI hd hnd K hK; have e0 := hI.q hnd 1; exact hI.z1 hK (hI.r hd 8 53 false)
    · intro _ A0 w2 hI hd hnd K hK; have e0 := hI.q hnd 8; exact hI.z1 hK (hI.r hd 8 53 false)
    · intro _ A0 w2 hI hd hnd K hK; have e0 := hI.p hd 9 54; have e1 := hI.p hd 10 55; exact hI.z1 hK (hI.r hd 8 53 false)
    · intro _ A0 w2 hI hd hnd K hK; have e0 := hI.p hd 11 56; exact hI.z1 hK (hI.r hd 8 53 false)
    · intro _ A0 w2 hI hd hnd K hK; have e0 := hI.p hd 12 57; have hS := hI.world; have hcc : w2.cell? ⟨b, o + kk * 7 + 2, none⟩ = _ := (hS.cell (p := ⟨b, o + kk * 7 + 2, none⟩) HBL.out).trans HY2.out; exact hI.z1 hK (hI.r hd 8 53 false)
    · intro _ A0 w2 hI hd hnd K hK; have e0 := hI.q hnd 5; exact hI.z1 hK (hI.r hd 8 53 false)
    · intro _ A0 w2 hI hd hnd K hK; have e0 := hI.p hd 14 59; have hS := hI.world; have hcc : w2.cell? ⟨(w.heap.size + 1), 2, none⟩ = _ := (hS.cell (p := ⟨(w.heap.size + 1), 2, none⟩) HZL.out).trans HX2.out; exact hI.z1 hK (hI.r hd 8 53 false)
    · intro _ A0 w2 hI hd hnd K hK; have e0 := hI.p hd 13 58; have e1 := hI.p hd 15 60; exact hI.z1 hK (hI.r hd 8 53 false)
    · intro _ A0 w2 hI hd hnd K hK; have e0 := hI.p hd 8 53; have e1 := hI.p hd 16 61; exact hI.z hK
    · intro _ A0 w2 hI hd hnd K hK; have e0 := hI.p hd 17 62; exact hI.z hK
    · intro _ A0 w2 hI hd hnd K hK; have e0 := hI.q hnd 5; exact hI.z1 hK (hI.r hd 18 63 false)
    · intro _ A0 w2 hI hd hnd K hK; have e0 := hI.p hd 19 64; have hS := hI.world; have hcc : w2.cell? ⟨(w.heap.size + 1), 6, none⟩ = _ := (hS.cell (p := ⟨(w.heap.size + 1), 6, none⟩) HZL.out).trans HX6.out; exact hI.z1 hK (hI.r hd 18 63 false)
    · intro _ A0 w2 hI hd hnd K hK; have e0 := hI.q hnd 1; exact hI.z1 hK (hI.r hd 18 63 false)
    · intro _ A0 w2 hI hd hnd K hK; have e0 := hI.q hnd 8; exact hI.z1 hK (hI.r hd 18 63 false)
    · intro _ A0 w2 hI hd hnd K hK; have e0 := hI.p hd 21 66; have e1 := hI.p hd 22 67; exact hI.z1 hK (hI.r hd 18 63 false)
    · intro _ A0 w2 hI hd hnd K hK; have e0 := hI.p hd 23 68; exact hI.z1 hK (hI.r hd 18 63 false)
    · intro _ A0 w2 hI hd hnd K hK; have e0 := hI.p hd 24 69; have hS := hI.world; have hcc : w2.cell? ⟨b, o + kk * 7 + 6, none⟩ = _ := (hS.cell (p := ⟨b, o + kk * 7 + 6, none⟩) HBL.out).trans HY6.out; exact hI.z1 hK (hI.r hd 18 63 false)
    · intro _ A0 w2 hI hd hnd K hK; have e0 := hI.p hd 20 65; have e1 := hI.p hd 25 70; have hS := hI.world; refine wanted_yes rfl (hI.r hd 18 63 false) ?_; clear hI hd hnd; go_simp
      go_at_call 147
      refine (HOP.out w2 hS).mono ?_
      rintro e w3 ⟨rfl, h3⟩
      exact hK.out _ _ (hS.trans (h3.mono hS.size)) (Ks.of rfl rfl) (Ks.keep h3)
    · intro _ A0 w2 hI hd hnd K hK; have e0 := hI.p hd 26 71; exact hI.z1 hK (hI.r hd 18 63 false)
    · intro _ A0 w2 hI hd hnd K hK; have e0 := hI.p hd 18 63; have e1 := hI.p hd 27 72; exact hI.z hK
    · intro _ A0 w2 hI hd hnd K hK; have e0 := hI.p hd 28 73; exact hI.z hK
  · intro _ A0 w2 hI hall; have hS := hI.world; have c9 := hI.ch hall [45, 46, 47, 48, 49, 50, 51, 52, 53, 54, 55, 56, 57, 58, 59, 60, 61, 62, 63, 64, 65, 66, 67, 68, 69, 70, 71, 72, 73, 44]; obtain ⟨x0, x1, x2, x3, x4, x5, x6, x7, x8, x9, x10, x11, x12, x13, x14, x15, x16, x17, x18, x19, x20, x21, x22, x23, x24, x25, x26, x27, x28, x29, hA, hV⟩ := c9
    obtain rfl : x29 = .bool true := hV 29 _ _ rfl _ rfl
    clear hV hI hall
    simp only [setAll, List.foldl, List.setIfInBounds_toArray, List.set_cons_zero, List.set_cons_succ] at hA
    rw [hA]
    clear hA
    have hb9 := HB6.out.trans (hS.mono HB6.out.size)
    have hf := Lib.hid (show r = 18 from (HR.out.symm.trans (postE_3 HCE0.out HIN.out HK3.out hf0.out (by decide))))
    go_wp2_with fail
    go_ret
    exact ⟨by rw [hf.out]; first | done | rfl, hb9⟩
 | true =>
  have hf0 := Lib.hid (HRS2.out.trans (if_neg (fun h => by
   rcases h with h | h | h
   · exact h HYE.out
   · exact HYD.out h
   · cases h)))
  go_upto_region 12 with fail
  refine wp_region_inv (Ks V [.val (.slice (some ⟨b, o, none⟩) n c), .val (.int .i64 (kk : Int)), .val (.pointer (some ⟨b, o + kk * 7, none⟩)), .val (.pointer (some ⟨b, o + kk * 7 + 1, none⟩)), .val (.int .i64 ye), .val (.pointer (some ⟨(w.heap.size + 1), 1, none⟩)), .val (.int .i64 xe), .val (.bool false), .val (.bool false), .val (.slice (some ⟨b, o, none⟩) n c), .val (.int .i64 (kk : Int)), .val (.pointer (some ⟨b, o + kk * 7, none⟩)), .val (.pointer (some ⟨b, o + kk * 7 + 2, none⟩)), .val (.int .i64 yd), .val (.pointer (some ⟨(w.heap.size + 1), 2, none⟩)), .val (.int .i64 xd), .val (.bool false), .val (.bool false), .val (.bool false), .val (.pointer (some ⟨(w.heap.size + 1), 6, none⟩)), .val (.slice Al nl cl), .val (.slice (some ⟨b, o, none⟩) n c), .val (.int .i64 (kk : Int)), .val (.pointer (some ⟨b, o + kk * 7, none⟩)), .val (.pointer (some ⟨b, o + kk * 7 + 6, none⟩)), .val (.slice Aly nly cly), .val (.bool true), .val (.bool false), .val (.bool false), .val (.bool false)])
   (fun w' => Below V.heap.size V w') (by kernel_rfl) (by kernel_rfl) (by kernel_rfl) (Below.refl _ _).drew ?_ ?_
  · refine ⟨?_, ?_, ?_, ?_, ?_, ?_, ?_, ?_, ?_, ?_, ?_, ?_, ?_, ?_, ?_, ?_, ?_, ?_, ?_, ?_, ?_, ?_, ?_, ?_, ?_, ?_, ?_, ?_, ?_, ?_, trivial⟩
    · intro _ A0 w2 hI hd hnd K hK; have e0 := hI.q hnd 1; exact hI.z hK
    · intro _ A0 w2 hI hd hnd K hK; have e0 := hI.q hnd 8; exact hI.z hK
    · intro _ A0 w2 hI hd hnd K hK; have e0 := hI.p hd 0 45; have e1 := hI.p hd 1 46; exact hI.z hK
    · intro _ A0 w2 hI hd hnd K hK; have e0 := hI.p hd 2 47; exact hI.z hK
    · intro _ A0 w2 hI hd hnd K hK; have e0 := hI.p hd 3 48; have hS := hI.world; have hcc : w2.cell? ⟨b, o + kk * 7 + 1, none⟩ = _ := (hS.cell (p := ⟨b, o + kk * 7 + 1, none⟩) HBL.out).trans HY1.out; exact hI.z hK
    · intro _ A0 w2 hI hd hnd K hK; have e0 := hI.q hnd 5; exact hI.z hK
    · intro _ A0 w2 hI hd hnd K hK; have e0 := hI.p hd 5 50; have hS := hI.world; have hcc : w2.cell? ⟨(w.heap.size + 1), 1, none⟩ = _ := (hS.cell (p := ⟨(w.heap.size + 1), 1, none⟩) HZL.out).trans HX1.out; exact hI.z hK
    · intro _ A0 w2 hI hd hnd K hK; have e0 := hI.p hd 4 49; have e1 := hI.p hd 6 51; exact hI.z hK
    · intro _ A0 w2 hI hd hnd K hK; have e0 := hI.p hd 7 52; exact hI.z hK
    · intro _ A0 w2 hI hd hnd K hK; have e0 := hI.q hnd 1; exact hI.z1 hK (hI.r hd 8 53 false)
    · intro _ A0 w2 hI hd hnd K hK; have e0 := hI.q hnd 8; exact hI.z1 hK (hI.r hd 8 53 false)
    · intro _ A0 w2 hI hd hnd K hK; have e0 := hI.p hd 9 54; have e1 := hI.p hd 10 55; exact hI.z1 hK (hI.r hd 8 53 false)
    · intro _ A0 w2 hI hd hnd K hK; have e0 := hI.p hd 11 56; exact hI.z1 hK (hI.r hd 8 53 false)
    · intro _ A0 w2 hI hd hnd K hK; have e0 := hI.p hd 12 57; have hS := hI.world; have hcc : w2.cell? ⟨b, o + kk * 7 + 2, none⟩ = _ := (hS.cell (p := ⟨b, o + kk * 7 + 2, none⟩) HBL.out).trans HY2.out; exact hI.z1 hK (hI.r hd 8 53 false)
    · intro _ A0 w2 hI hd hnd K hK; have e0 := hI.q hnd 5; exact hI.z1 hK (hI.r hd 8 53 false)
    · intro _ A0 w2 hI hd hnd K hK; have e0 := hI.p hd 14 59; have hS := hI.world; have hcc : w2.cell? ⟨(w.heap.size + 1), 2, none⟩ = _ := (hS.cell (p := ⟨(w.heap.size + 1), 2, none⟩) HZL.out).trans HX2.out; exact hI.z1 hK (hI.r hd 8 53 false)
    · intro _ A0 w2 hI hd hnd K hK; have e0 := hI.p hd 13 58; have e1 := hI.p hd 15 60; exact hI.z1 hK (hI.r hd 8 53 false)
    · intro _ A0 w2 hI hd hnd K hK; have e0 := hI.p hd 8 53; have e1 := hI.p hd 16 61; exact hI.z hK
    · intro _ A0 w2 hI hd hnd K hK; have e0 := hI.p hd 17 62; exact hI.z hK
    · intro _ A0 w2 hI hd hnd K hK; have e0 := hI.q hnd 5; exact hI.z1 hK (hI.r hd 18 63 false)
    · intro _ A0 w2 hI hd hnd K hK; have e0 := hI.p hd 19 64; have hS := hI.world; have hcc : w2.cell? ⟨(w.heap.size + 1), 6, none⟩ = _ := (hS.cell (p := ⟨(w.heap.size + 1), 6, none⟩) HZL.out).trans HX6.out; exact hI.z1 hK (hI.r hd 18 63 false)
    · intro _ A0 w2 hI hd hnd K hK; have e0 := hI.q hnd 1; exact hI.z1 hK (hI.r hd 18 63 false)
    · intro _ A0 w2 hI hd hnd K hK; have e0 := hI.q hnd 8; exact hI.z1 hK (hI.r hd 18 63 false)
    · intro _ A0 w2 hI hd hnd K hK; have e0 := hI.p hd 21 66; have e1 := hI.p hd 22 67; exact hI.z1 hK (hI.r hd 18 63 false)
    · intro _ A0 w2 hI hd hnd K hK; have e0 := hI.p hd 23 68; exact hI.z1 hK (hI.r hd 18 63 false)
    · intro _ A0 w2 hI hd hnd K hK; have e0 := hI.p hd 24 69; have hS := hI.world; have hcc : w2.cell? ⟨b, o + kk * 7 + 6, none⟩ = _ := (hS.cell (p := ⟨b, o + kk * 7 + 6, none⟩) HBL.out).trans HY6.out; exact hI.z1 hK (hI.r hd 18 63 false)
    · intro _ A0 w2 hI hd hnd K hK; have e0 := hI.p hd 20 65; have e1 := hI.p hd 25 70; have hS := hI.world; refine wanted_yes rfl (hI.r hd 18 63 false) ?_; clear hI hd hnd; go_simp
      go_at_call 147
      refine (HOP.out w2 hS).mono ?_
      rintro e w3 ⟨rfl, h3⟩
      exact hK.out _ _ (hS.trans (h3.mono hS.size)) (Ks.of rfl rfl) (Ks.keep h3)
    · intro _ A0 w2 hI hd hnd K hK; have e0 := hI.p hd 26 71; exact hI.z1 hK (hI.r hd 18 63 false)
    · intro _ A0 w2 hI hd hnd K hK; have e0 := hI.p hd 18 63; have e1 := hI.p hd 27 72; exact hI.z hK
    · intro _ A0 w2 hI hd hnd K hK; have e0 := hI.p hd 28 73; exact hI.z hK
  · intro _ A0 w2 hI hall; have hS := hI.world; have c9 := hI.ch hall [45, 46, 47, 48, 49, 50, 51, 52, 53, 54, 55, 56, 57, 58, 59, 60, 61, 62, 63, 64, 65, 66, 67, 68, 69, 70, 71, 72, 73, 44]; obtain ⟨x0, x1, x2, x3, x4, x5, x6, x7, x8, x9, x10, x11, x12, x13, x14, x15, x16, x17, x18, x19, x20, x21, x22, x23, x24, x25, x26, x27, x28, x29, hA, hV⟩ := c9
    obtain rfl : x29 = .bool false := hV 29 _ _ rfl _ rfl
    clear hV hI hall
    simp only [setAll, List.foldl, List.setIfInBounds_toArray, List.set_cons_zero, List.set_cons_succ] at hA
    rw [hA]
    clear hA
    have hb9 := HB6.out.trans (hS.mono HB6.out.size)
    have hf := Lib.hid (show r = (if 2000 ≤ n then 6 else 0) from by rw [← HN.out]; exact HR.out.symm.trans (postE_4 HCE0.out HIN.out (fun _ => hf0.out)))
    by_cases hlim : 2000 ≤ n
    case pos =>
     have hl1 : decide ((2000 : Int) ≤ (n : Int)) = true := decide_eq_true (by omega)
     replace hf := Lib.hid (hf.out.trans (if_pos hlim))
     clear hlim
     go_wp2_with fail
     go_ret
     exact ⟨by rw [hf.out]; first | done | rfl, hb9⟩
    case neg =>
     have hl1 : decide ((2000 : Int) ≤ (n : Int)) = false := decide_eq_false (by omega)
     replace hf := Lib.hid (hf.out.trans (if_neg hlim))
     clear hlim
     go_wp2_with fail
     go_ret
     exact ⟨by rw [hf.out]; first | done | rfl, hb9⟩
end Go.Proofs.YtekelchdbkjjjaaGreat
