/- The walk of the law JournalClone. Written by gen_j13.py. -/
import Derived.Test.YtebdajkknkapcaaGreatG13xB0B2
import Derived.Test.YtebdajkknkapcaaGreatG13xB3B8
import Derived.Test.YtebdajkknkapcaaGreatG13xB9B13
import Derived.Test.YtebdajkknkapcaaGreatG13xB14
import Derived.Test.YtebdajkknkapcaaGreatG13xB16
import Derived.Test.YtebdajkknkapcaaGreatG13xB17B24
import Derived.Test.YtebdajkknkapcaaGreatG13xB29B32
import Derived.Test.YtebdajkknkapcaaGreatG13xB33S2
import Derived.Test.YtebdajkknkapcaaGreatG13xC4E3
import Derived.Test.YtebdajkknkapcaaGreatG13xE6F6
import Derived.Test.YtebdajkknkapcaaGreatG13xF4I7
import Derived.Test.YtebdajkknkapcaaGreatG13xI8I11
import Derived.Test.YtebdajkknkapcaaGreatG13xI12
import Derived.Test.YtebdajkknkapcaaGreatG13xI13I15
import Derived.Test.YtebdajkknkapcaaGreatG13xI16I18
import Derived.Test.YtebdajkknkapcaaGreatG13xI19Q2
import Derived.Test.YtebdajkknkapcaaGreatG13xK1J3
import Derived.Test.YtebdajkknkapcaaGreatG13xJ4J5
import Derived.Test.YtebdajkknkapcaaGreatG13xK22J12
import Derived.Test.YtebdajkknkapcaaGreatProg
set_option linter.unusedVariables false
set_option linter.unusedSimpArgs false
set_option maxRecDepth 4000
attribute [local go_sem ↓] Go.wp_at_zero Go.wp_at_succ
namespace Go.Proofs.YtebdajkknkapcaaGreat
open Go Go.RowKit
theorem wpAny_takeD {P : Program} {md : Region.Mode} {ops : Array Oper} {Q : Exit → Act → World → Prop} {i d : Nat} {oi : Oper} {v : Value} {fuel : Nat} {listed : Array Bool} {a : Act} {w : World} (hi : ops[i]? = some oi) (hd : oi.dst = some d)
 (hs : Region.noSelect ops = true) (hf : Region.free md ops listed i = true) (hr : (Region.ready md ops listed).contains i = true)
 (hQ : ∀ c a w, Q (.panic c) (a.put oi.dst v) w → Q (.panic c) a w) (hy : Yields P ops oi v a)
 (h : wpAny P md ops Q fuel (listed.setIfInBounds i true) (a.put (some d) v) w) : wpAny P md ops Q (fuel + 1) listed a w :=
 wpAny_take hi hs hf hr hQ hy (by rw [hd]; exact h)
theorem app_aid {w8 w9 : World} {v9 : Value} {nl g : Nat} {F : List Value} {cs : Array Value} (hown9 : w9.ownsRow w8.heap.size 52 3 v9 (0 + nl) ([] ++ F)) (hg9 : (w8.alloc (.cells #[] 52)).grownBy w9 (Value.slice (some ⟨w8.heap.size, 0, none⟩) 0 0).ownBlock) (H8 : w8.heap[g]? = some (.cells cs 42 (0, 0))) :
 ∃ A c, v9 = .slice A nl c ∧ w9.ownsRow w8.heap.size 52 3 (.slice A nl c) nl F ∧ w9.heap[g]? = some (.cells cs 42 (0, 0)) := by
 rw [Nat.zero_add, List.nil_append] at hown9
 obtain ⟨A, n', c, rfl⟩ := own_shape hown9
 have e := own_val hown9
 have hlt := blk_lt H8
 refine ⟨A, c, by rw [e], by rw [e] at hown9; exact hown9, (hg9.block g ?_ ?_).trans (alloc_keep H8 _)⟩
 · simp; omega
 · intro h
   simp [Value.ownBlock] at h
   omega
theorem RowI.fr {A : Option Addr} {g n : Nat} {w w' : World} {Q : Nat → Prop} (h : RowI A g n w) (hf : Fr Q w w') (hg : Q g) : RowI A g n w' := fun k hk => by
 obtain ⟨h1, z, h2, h3⟩ := h k hk
 exact ⟨h1, z, (hf.cell (p := ⟨g, k * 3 + 1, none⟩) hg).trans h2, (hf.frozen (p := ⟨g, k * 3 + 1, none⟩) hg).trans h3⟩
set_option maxHeartbeats 16000000 in
theorem law_journalClone (g : XGroup) (l : List XEntry) (gl : List Value) (A : Option Addr) (c : Nat) (re rl : Int) (w : World) (hg : GroupC w (· < w.heap.size) gl g) (hsz : szG g) (hl : ListC EntryC 7 w (· < w.heap.size) [.slice A l.length c] l) (hts : ∀ x ∈ l, x.text.size ≤ 140737488355327) (hid : intBd re) :
 Calls Tryz.prog 5 #[.agg gl.toArray, .slice A l.length c, .agg #[.int .i64 re, .int .i64 rl]] w (Quiet w (.bool true)) := by
 obtain ⟨ia, hia, hzia, hsia, hbia⟩ := info_parts info_lineA
 obtain ⟨ib, hib, hzib, hsib, hbib⟩ := info_parts info_entryA
 have HFEW := Lib.hid (fun (w2 : World) (hb : Below w.heap.size w w2) => few12_c g l gl A c w2 (hg.keep hb) hsz (entries_keep hl hb) hts)
 have HGS := Lib.hid (show gl.toArray.size = 21 by have := hg.len; simpa using this)
 have HGI := Lib.hid (show (Tryz.prog.info? 29).map (·.size) = some gl.length by rw [info_group, hg.len])
 have HG := Lib.hid hg
 have HID := Lib.hid hid
 have HTS := Lib.hid hts
 have HL := Lib.hid hl
 obtain ⟨n, hnl⟩ : ∃ n, l.length = n := ⟨_, rfl⟩
 rw [hnl] at HFEW ⊢
 have HN := Lib.hid hnl
 obtain ⟨fw, hfw⟩ : ∃ p : Prop, fewJ g l = p := ⟨_, rfl⟩
 rw [hfw] at HFEW
 have HFWE := Lib.hid hfw
 clear hg hsz hl hts hnl hfw hid
 go_enter Tryz.func5, Tryz.ntmps5
 go_upto_region 1 with fail
 have H := heap_alloc_new w (.cells gl.toArray 29)
 have HB := below1 w (.cells gl.toArray 29)
 have HS := blk_lt H
 generalize hW : w.alloc (Obj.cells gl.toArray 29) = W at *
 have H2 := heap_alloc_new W (.cells #[.int .i64 re, .int .i64 rl] 45)
 have HB2 := below1 W (.cells #[.int .i64 re, .int .i64 rl] 45)
 have HS2 := blk_lt H2
 replace H := alloc_keep H (Obj.cells #[.int .i64 re, .int .i64 rl] 45)
 generalize hW2 : W.alloc (Obj.cells #[.int .i64 re, .int .i64 rl] 45) = W2 at *
 clear hW2
 have eW : W.heap.size = w.heap.size + 1 := by rw [← hW]; simp
 rw [eW] at H2
 clear hW
 have hb2 := HB.trans (HB2.mono HB.size)
 have hs2 := HB2.size
 have LT1 := blk_lt H2
 have LT0 : w.heap.size < W2.heap.size := by omega
 have HH := Lib.hid H
 have HZ := Lib.hid H2
 have EW := Lib.hid eW
 clear H H2 eW
 have hb02 := hb2
 have LT02 := LT0
 have LT12 := LT1
 have HH2 := HH
 have HZ2 := HZ
 go_wp2_with fail
 refine (awake12_c W2).mono ?_
 rintro e w3 ⟨rfl, hb3⟩
 have hb03 := hb02.trans (hb3.mono hb02.size)
 have hs3 := hb3.size
 have LT03 := Nat.lt_of_lt_of_le LT02 hs3
 have LT13 := Nat.lt_of_lt_of_le LT12 hs3
 have HH3 := Lib.hid ((hb3.block _ LT02).trans HH2.out)
 have HZ3 := Lib.hid ((hb3.block _ LT12).trans HZ2.out)
 go_wp2_with (show wpList _ _ _ (Oper.mk (some 21) _ _ _ _ _ :: _) _ _; refine wpList_load_row_g rfl 29 (.tmp 3) rfl (w.heap.size) rfl _ _ _ _ HH3.out Tryz.underlying29 rfl (by rw [info_group]; exact congrArg some HGS.out.symm) ?_)
 refine (HFEW.out w3 hb03).mono ?_
 rintro e w4 ⟨bf, rfl, hf, hb4⟩
 have hb04 := hb03.trans (hb4.mono hb03.size)
 have hs4 := hb4.size
 have LT04 := Nat.lt_of_lt_of_le LT03 hs4
 have LT14 := Nat.lt_of_lt_of_le LT13 hs4
 have HH4 := Lib.hid ((hb4.block _ LT03).trans HH3.out)
 have HZ4 := Lib.hid ((hb4.block _ LT13).trans HZ3.out)
 cases bf with
 | false =>
  clear hf
  go_wp2_with fail
  go_ret
  exact ⟨rfl, hb04⟩
 | true =>
 have HFP := Lib.hid (show fewJ g l from HFWE.out ▸ hf rfl)
 clear hf
 rcases Nat.eq_zero_or_pos n with hn0 | hn0
 · subst hn0
   go_wp2_with fail
   go_ret
   exact ⟨rfl, hb04⟩
 obtain ⟨m, hm⟩ : ∃ m, n = m + 1 := ⟨n - 1, by omega⟩
 have hmI : (n : Int) - 1 = (m : Int) := by omega
 have hne0 : ((n : Int) == 0) = false := by simp; omega
 have HWR := Lib.hid (show wrap64 (m : Int) = (m : Int) by have h61 := HFP.out.2.1; have h62 := HN.out; unfold wrap64; omega)
 have HMN := Lib.hid (show m ≤ n by omega)
 have HMI := Lib.hid (show (m : Int) < (n : Int) by omega)
 have hml : m < l.length := by rw [HN.out]; omega
 obtain ⟨b, o, cs, hAe, hbw, hxc, hat⟩ := ListC.get (n := l.length) HL.out m hml
 subst hAe
 have HMC := Lib.hid (show m ≤ c by have := HL.out.cap; have := HN.out; omega)
 have hxm : l[m] ∈ l := List.getElem_mem hml
 obtain ⟨x, hx⟩ : ∃ x, l[m] = x := ⟨_, rfl⟩
 rw [hx] at hxc hxm
 have HXM := Lib.hid hxm
 have HXC := Lib.hid hxc
 obtain ⟨Al, cl, hcs, hxb, hls⟩ := EntryC.lit hxc
 subst hcs
 have HXB := Lib.hid hxb
 have HLS := Lib.hid hls
 obtain ⟨xi, xe, xd, xk, xo, xt, ls⟩ := x
 simp only at hat HXB HLS HXC
 obtain ⟨nl, hnl⟩ : ∃ n, ls.length = n := ⟨_, rfl⟩
 have HNL := Lib.hid hnl
 rw [hnl] at hat HXC
 have HAT := Lib.hid hat
 obtain ⟨lt, hlt⟩ : ∃ lt, l.take m = lt := ⟨_, rfl⟩
 have hltl : lt.length = m := by rw [← hlt, List.length_take, HN.out]; omega
 have HLT := Lib.hid (show ListC EntryC 7 w (· < w.heap.size) [.slice (some ⟨b, o, none⟩) lt.length c] lt by rw [← hlt]; exact HL.out.take (by rw [HN.out]; omega))
 have HPST := Lib.hid (fun (w2 : World) (hb : Below w.heap.size w w2) => show Calls Tryz.prog 13 #[.agg gl.toArray, .slice (some ⟨b, o, none⟩) m c] w2 (PostedPost g lt w2) by
  have h := posted_c g lt gl (some ⟨b, o, none⟩) c w2 (HG.out.keep hb) (entries_keep HLT.out hb) (hlt ▸ HFP.out.take m)
  rwa [hltl] at h)
 have HAC := Lib.hid (show okJ g (accJ g lt) ∧ (accJ g lt).length ≤ 61 ∧ ∀ x ∈ accJ g lt, x.lines.length ≤ 100000 by
  obtain ⟨h1, h2, h3⟩ := accJ_ok g _ lt rfl
  have h4 := HFP.out.2.1
  refine ⟨h1, by have := HN.out; omega, fun x hx => ?_⟩
  have h5 := h3 x hx
  rw [← hlt] at h5
  have := (HFP.out.1 x (List.mem_of_mem_take h5)).1
  omega)
 have HXL := Lib.hid (show nl ≤ 100000 by have h : ls.length ≤ 60 := (HFP.out.1 _ HXM.out).1; have := HNL.out; omega)
 have HSM := Lib.hid HFP.out.2.2.small
 clear hxc hls hxb hat hnl hx hxm hml hbw hlt hltl hm hn0
 have hwr := HWR.out
 go_upto_region 6 with fail
 simp only [hwr]
 clear hwr
 have HATG := Lib.hid (box_at (cs := gl) HH4.out)
 refine wp_region_inv2' 5 (Ks w4 [.val (.agg gl.toArray), .val (.slice (some ⟨b, o, none⟩) n c), .val (.int .i64 (m : Int)), .val (.slice (some ⟨b, o, none⟩) m c), .own (IsPd w4.heap.size g lt) (IsPd.keep)])
  (fun w' => Below w4.heap.size w4 w') (by kernel_rfl) (by kernel_rfl) (by kernel_rfl) (by decide) (by kernel_rfl) (by kernel_rfl) (Below.refl _ _).drew ?_ ?_
 · refine ⟨?_, ?_, ?_, ?_, ?_, trivial⟩
   · intro _ A0 w2 hI hd hnd K hK; have e0 := hI.q hnd 3; have hS := hI.world; have hrange : w2.rangeAt w.heap.size 0 gl := (HATG.out.fr (Fr.ofBelow hS)).range
     have hisize := HGI.out
     refine wanted_go rfl ?_; clear hI hd hnd
     refine wp_load_mid 29 (.tmp 3) rfl _ _ (by simpa [Act.eval, Array.getD_eq_getD_getElem?] using e0) _ _ hrange Tryz.underlying29 rfl hisize ?_
     exact kq hK hS rfl
   · intro _ A0 w2 hI hd hnd K hK; have e0 := hI.q hnd 1; exact hI.z hK
   · intro _ A0 w2 hI hd hnd K hK; have e0 := hI.q hnd 7; exact hI.z hK
   · intro _ A0 w2 hI hd hnd K hK; have e0 := hI.p hd 1 35; have e1 := hI.p hd 2 36; have hS := hI.world
     have hmn := HMN.out
     have hmc := HMC.out
     exact hI.z hK
   · intro _ A0 w2 hI hd hnd K hK; have e0 := hI.p hd 0 34; have e1 := hI.p hd 3 37; have hS := hI.world; refine wanted_go rfl ?_; clear hI hd hnd; go_simp
     go_at_call 13
     refine (HPST.out w2 (hb04.trans (hS.mono hb04.size))).mono ?_
     rintro e w3 hp
     obtain ⟨v, rfl, hv, h3⟩ := IsPd.of (w0 := w4) hp hS.size
     exact hK.out _ _ (hS.trans (h3.mono hS.size)) (Ks.of rfl hv) (Ks.keep h3)
 · intro f A0 w2 hI
   obtain ⟨x0, g0, h0⟩ := hI.got 0 _ 34 rfl rfl rfl
   obtain ⟨x1, g1, h1⟩ := hI.got 1 _ 35 rfl rfl rfl
   obtain ⟨x2, g2, h2⟩ := hI.got 2 _ 36 rfl rfl rfl
   obtain ⟨x3, g3, h3⟩ := hI.got 3 _ 37 rfl rfl rfl
   obtain ⟨x4, g4, h4⟩ := hI.got 4 _ 38 rfl rfl rfl
   have hS := hI.world
   obtain ⟨y33, o33⟩ : ∃ v, A0.tmps[33]? = some v := ⟨_, hI.oldHead 33 (by kernel_rfl)⟩
   obtain ⟨y39, o39⟩ : ∃ v, A0.tmps[39]? = some v := ⟨_, hI.oldHead 39 (by kernel_rfl)⟩
   obtain ⟨y40, o40⟩ : ∃ v, A0.tmps[40]? = some v := ⟨_, hI.oldHead 40 (by kernel_rfl)⟩
   obtain ⟨y41, o41⟩ : ∃ v, A0.tmps[41]? = some v := ⟨_, hI.oldHead 41 (by kernel_rfl)⟩
   obtain ⟨y8, o8⟩ : ∃ v, A0.tmps[8]? = some v := ⟨_, hI.oldHead 8 (by kernel_rfl)⟩
   obtain ⟨y9, o9⟩ : ∃ v, A0.tmps[9]? = some v := ⟨_, hI.oldHead 9 (by kernel_rfl)⟩
   obtain ⟨y10, o10⟩ : ∃ v, A0.tmps[10]? = some v := ⟨_, hI.oldHead 10 (by kernel_rfl)⟩
   have hA : A0 = _ := hI.tmps [(34, x0), (35, x1), (36, x2), (37, x3), (38, x4), (33, y33), (39, y39), (40, y40), (41, y41), (8, y8), (9, y9), (10, y10)] (by simp only [List.mem_cons, List.not_mem_nil, or_false, forall_eq_or_imp, forall_eq]; exact ⟨g0, g1, g2, g3, g4, o33, o39, o40, o41, o8, o9, o10⟩) (by kernel_rfl)
   have k4 : (IsPd w4.heap.size g lt) x4 w2 := h4 _ rfl
   clear h0 g0 h1 g1 h2 g2 h3 g3 h4 g4 o33 o39 o40 o41 o8 o9 o10 hI
   simp only [setAll, List.foldl, List.setIfInBounds_toArray, List.set_cons_zero, List.set_cons_succ] at hA
   rw [hA]
   clear hA
   rcases k4 with rfl | ⟨J, D, O, A9, c9, rfl, hJC, hDO, hout⟩
   · have hbe := hb04.trans (hS.mono hb04.size)
     show wpAny _ _ _ _ (f + 7) _ _ _
     refine wpAny_takeD (i := 5) (d := 33) (v := ?_) rfl rfl (by kernel_rfl) (by kernel_rfl) (by kernel_rfl) (fun _ _ _ h => h) (Or.inl ⟨by rfl, ?_⟩) ?_
     rotate_left
     · intro w; go_simp; (try with_reducible rfl)
     simp only [Act.put, List.setIfInBounds_toArray, List.set_cons_zero, List.set_cons_succ]
     refine wpAny_takeD (i := 6) (d := 39) (v := ?_) rfl rfl (by kernel_rfl) (by kernel_rfl) (by kernel_rfl) (fun _ _ _ h => h) (Or.inl ⟨by rfl, ?_⟩) ?_
     rotate_left
     · intro w; go_simp; (try with_reducible rfl)
     simp only [Act.put, List.setIfInBounds_toArray, List.set_cons_zero, List.set_cons_succ]
     refine wpAny_takeD (i := 7) (d := 40) (v := ?_) rfl rfl (by kernel_rfl) (by kernel_rfl) (by kernel_rfl) (fun _ _ _ h => h) (Or.inl ⟨by rfl, ?_⟩) ?_
     rotate_left
     · intro w; go_simp; (try with_reducible rfl)
     simp only [Act.put, List.setIfInBounds_toArray, List.set_cons_zero, List.set_cons_succ]
     refine wpAny_takeD (i := 8) (d := 41) (v := ?_) rfl rfl (by kernel_rfl) (by kernel_rfl) (by kernel_rfl) (fun _ _ _ h => h) (Or.inl ⟨by rfl, ?_⟩) ?_
     rotate_left
     · intro w; go_simp; (try with_reducible rfl)
     simp only [Act.put, List.setIfInBounds_toArray, List.set_cons_zero, List.set_cons_succ]
     refine wpAny_takeD (i := 9) (d := 8) (v := ?_) rfl rfl (by kernel_rfl) (by kernel_rfl) (by kernel_rfl) (fun _ _ _ h => h) (Or.inl ⟨by rfl, ?_⟩) ?_
     rotate_left
     · intro w; go_simp; (try with_reducible rfl)
     simp only [Act.put, List.setIfInBounds_toArray, List.set_cons_zero, List.set_cons_succ]
     refine wpAny_takeD (i := 10) (d := 9) (v := ?_) rfl rfl (by kernel_rfl) (by kernel_rfl) (by kernel_rfl) (fun _ _ _ h => h) (Or.inl ⟨by rfl, ?_⟩) ?_
     rotate_left
     · intro w; go_simp; (try with_reducible rfl)
     simp only [Act.put, List.setIfInBounds_toArray, List.set_cons_zero, List.set_cons_succ]
     refine wpAny_takeD (i := 11) (d := 10) (v := ?_) rfl rfl (by kernel_rfl) (by kernel_rfl) (by kernel_rfl) (fun _ _ _ h => h) (Or.inl ⟨by rfl, ?_⟩) ?_
     rotate_left
     · intro w; go_simp; (try with_reducible rfl)
     simp only [Act.put, List.setIfInBounds_toArray, List.set_cons_zero, List.set_cons_succ]
     refine wpAny_done (by kernel_rfl) ?_ _
     go_wp2_with fail
     go_ret
     exact ⟨rfl, hbe⟩
   have hb5 := hS
   show wpAny _ _ _ _ (f + 7) _ _ _
   refine wpAny_takeD (i := 5) (d := 33) (v := ?_) rfl rfl (by kernel_rfl) (by kernel_rfl) (by kernel_rfl) (fun _ _ _ h => h) (Or.inl ⟨by rfl, ?_⟩) ?_
   rotate_left
   · intro w; go_simp; (try with_reducible rfl)
   simp only [Act.put, List.setIfInBounds_toArray, List.set_cons_zero, List.set_cons_succ]
   refine wpAny_takeD (i := 6) (d := 39) (v := ?_) rfl rfl (by kernel_rfl) (by kernel_rfl) (by kernel_rfl) (fun _ _ _ h => h) (Or.inl ⟨by rfl, ?_⟩) ?_
   rotate_left
   · intro w; go_simp; (try with_reducible rfl)
   simp only [Act.put, List.setIfInBounds_toArray, List.set_cons_zero, List.set_cons_succ]
   refine wpAny_takeD (i := 7) (d := 40) (v := ?_) rfl rfl (by kernel_rfl) (by kernel_rfl) (by kernel_rfl) (fun _ _ _ h => h) (Or.inl ⟨by rfl, ?_⟩) ?_
   rotate_left
   · intro w; go_simp; (try with_reducible rfl)
   simp only [Act.put, List.setIfInBounds_toArray, List.set_cons_zero, List.set_cons_succ]
   refine wpAny_takeD (i := 8) (d := 41) (v := ?_) rfl rfl (by kernel_rfl) (by kernel_rfl) (by kernel_rfl) (fun _ _ _ h => h) (Or.inl ⟨by rfl, ?_⟩) ?_
   rotate_left
   · intro w; go_simp; (try with_reducible rfl)
   simp only [Act.put, List.setIfInBounds_toArray, List.set_cons_zero, List.set_cons_succ]
   refine wpAny_takeD (i := 9) (d := 8) (v := ?_) rfl rfl (by kernel_rfl) (by kernel_rfl) (by kernel_rfl) (fun _ _ _ h => h) (Or.inl ⟨by rfl, ?_⟩) ?_
   rotate_left
   · intro w; go_simp; (try with_reducible rfl)
   simp only [Act.put, List.setIfInBounds_toArray, List.set_cons_zero, List.set_cons_succ]
   refine wpAny_takeD (i := 10) (d := 9) (v := ?_) rfl rfl (by kernel_rfl) (by kernel_rfl) (by kernel_rfl) (fun _ _ _ h => h) (Or.inl ⟨by rfl, ?_⟩) ?_
   rotate_left
   · intro w; go_simp; (try with_reducible rfl)
   simp only [Act.put, List.setIfInBounds_toArray, List.set_cons_zero, List.set_cons_succ]
   refine wpAny_takeD (i := 11) (d := 10) (v := ?_) rfl rfl (by kernel_rfl) (by kernel_rfl) (by kernel_rfl) (fun _ _ _ h => h) (Or.inl ⟨by rfl, ?_⟩) ?_
   rotate_left
   · intro w; go_simp; (try with_reducible rfl)
   simp only [Act.put, List.setIfInBounds_toArray, List.set_cons_zero, List.set_cons_succ]
   refine wpAny_done (by kernel_rfl) ?_ _
   generalize w2 = w5 at *
   clear hS; clear w2
   have hb05 := hb04.trans (hb5.mono hb04.size)
   have hs5 := hb5.size
   have LT05 := Nat.lt_of_lt_of_le LT04 hs5
   have LT15 := Nat.lt_of_lt_of_le LT14 hs5
   have HH5 := Lib.hid ((hb5.block _ LT04).trans HH4.out)
   have HZ5 := Lib.hid ((hb5.block _ LT14).trans HZ4.out)
   obtain ⟨es, hes⟩ : ∃ es, accJ g lt = es := ⟨_, rfl⟩
   rw [hes] at HAC hJC hout ⊢
   clear hes
   have HDO := Lib.hid hDO
   have HJC := Lib.hid hJC
   have HOUT := Lib.hid hout
   have HCL := Lib.hid (jclone_c D O J g es w5 hJC (by have := HAC.out.2.1; omega))
   obtain ⟨n9, hn9⟩ : ∃ n, es.length = n := ⟨_, rfl⟩
   have HN9 := Lib.hid hn9
   have H61 := Lib.hid (show n9 ≤ 61 by have := HAC.out.2.1; omega)
   rw [hn9]
   clear hDO hJC hout hn9
   go_wp2_with fail
   refine HCL.out.mono ?_
   rintro e w6 ⟨L, O2, rfl, hJL, hO2, hb6⟩
   have HJL := Lib.hid hJL
   have HO2 := Lib.hid (show ∀ q, O2 q → w5.heap.size ≤ q ∧ q < w6.heap.size from fun q hq => ⟨hO2 q hq, hJL.ltDO q (.inr hq)⟩)
   have HO := Lib.hid (show ∀ q, O q → q < w5.heap.size ∧ w4.heap.size ≤ q from fun q hq => ⟨HJC.out.ltDO q (.inr hq), HDO.out q (.inr hq)⟩)
   have HD := Lib.hid (show ∀ q, D q → q < w5.heap.size ∧ w4.heap.size ≤ q ∧ ¬ O q from fun q hq => ⟨HJC.out.ltDO q (.inl hq), HDO.out q (.inl hq), by obtain ⟨_, _, _, _, _, h⟩ := HJC.out; exact h.dis q hq⟩)
   have HSC := Lib.hid (fun (wX : World) (fc : Fr (fun q => D q ∨ O2 q) w6 wX) (fo : Fr (fun q => q < w5.heap.size ∧ ¬ (D q ∨ O q)) w5 wX) => show Calls Tryz.prog 18 #[.pointer (some ⟨L, 0, none⟩), .slice A9 n9 c9, .agg #[.int .i64 re, .int .i64 rl]] wX (Quiet wX (.bool true)) by
    have h := sameJ_c D O2 L g es A9 c9 re rl wX (HJL.out.fr fc) ((HOUT.out.fr (fun h => EntryC.fr h fo) fo).mono (fun h => EntryC.mono h (fun q hq => Nat.lt_of_lt_of_le hq.1 fo.size)) (fun q hq => Nat.lt_of_lt_of_le hq.1 fo.size)) HID.out HAC.out.2.2 (by have := HAC.out.2.1; omega)
    rwa [HN9.out] at h)
   have hb06 := hb05.trans (hb6.mono hb05.size)
   have hs6 := hb6.size
   have LT06 := Nat.lt_of_lt_of_le LT05 hs6
   have LT16 := Nat.lt_of_lt_of_le LT15 hs6
   have HH6 := Lib.hid ((hb6.block _ LT05).trans HH5.out)
   have HZ6 := Lib.hid ((hb6.block _ LT15).trans HZ5.out)
   have FO6 : Fr (fun q => q < w5.heap.size ∧ ¬ (D q ∨ O q)) w5 w6 := (Fr.ofBelow hb6).mono (fun q hq => hq.1)
   have HSC6 := Lib.hid (HSC.out w6 ⟨rfl, rfl, rfl, Nat.le_refl _, fun _ _ => rfl⟩ FO6)
   clear hJL hO2 HCL
   go_wp2_with (show wpList _ _ _ (Oper.mk (some 56) _ _ _ _ _ :: _) _ _; refine wpList_load_row_g rfl 45 (.tmp 5) rfl (w.heap.size + 1) rfl _ _ _ _ HZ6.out Tryz.underlying45 rfl info_ref ?_)
   refine HSC6.out.mono ?_
   rintro e w7 ⟨rfl, hb7⟩
   have hb07 := hb06.trans (hb7.mono hb06.size)
   have hs7 := hb7.size
   have LT07 := Nat.lt_of_lt_of_le LT06 hs7
   have LT17 := Nat.lt_of_lt_of_le LT16 hs7
   have HH7 := Lib.hid ((hb7.block _ LT06).trans HH6.out)
   have HZ7 := Lib.hid ((hb7.block _ LT16).trans HZ6.out)
   have hc7 : Below w5.heap.size w5 w7 := hb6.trans (hb7.mono hb6.size)
   have HAR7 := Lib.hid ((HAT.out.fr (Fr.ofBelow hb07)).range)
   have hmi := HMI.out
   go_upto_region 13 with (first | (show wpList _ _ _ (Oper.mk (some 63) _ _ _ _ _ :: _) _ _; refine wpList_load_mid rfl 42 (.tmp 62) rfl b (o + m * 7) rfl [.int .i64 xi, .int .i64 xe, .int .i64 xd, .int .i64 xk, .int .i64 xo, .string xt, .slice Al nl cl] _ HAR7.out Tryz.underlying42 rfl info_entry ?_) | (show wpList _ _ _ (Oper.mk none (Op.store _ (Operand.tmp 12) _) _ _ _ _ :: _) _ _; refine wpList_store_fresh3 rfl 42 (.tmp 12) (.tmp 63) rfl rfl w7 #[.int .i64 0, .int .i64 0, .int .i64 0, .int .i64 0, .int .i64 0, .string ⟨#[]⟩, .slice none 0 0] 42 #[.int .i64 xi, .int .i64 xe, .int .i64 xd, .int .i64 xk, .int .i64 xo, .string xt, .slice Al nl cl] rfl rfl rfl info_entry rfl (by simp [Value.oneCell']) ?_; intro w8 H8 hb8 HS8))
   have hs8 := hb8.size
   have hs7 := hc7.size
   have hb08 := hb07.trans (hb8.mono hb07.size)
   have HRDL := Lib.hid (show Rd w8 (· < w8.heap.size) Al nl 3 (ls.flatMap lineL) by rw [← HNL.out]; exact rd_list (fun cs x h => (LineC.lit h).1) (fun _ => rfl) (by omega) (lines_keep HLS.out hb08))
   have x6 : (w8.alloc (.cells #[] 52)).cell? ⟨w7.heap.size, 6, none⟩ = some (.slice Al nl cl) := blk_cell (alloc_keep H8 _) 6
   clear hmi hb08
   go_upto_region 14 with (at_builtin; go_loud ((refine wpList_app _ rfl (.tmp 64) (.tmp 66) 40 rfl w8.heap.size 52 ia _ 3 24 lines_uty hia hzia hsia hbia rfl (by decide) (.slice (some ⟨w8.heap.size, 0, none⟩) 0 0) 0 [] rfl (own_empty (Nat.le_refl _) (heap_alloc_new _ _)) (· < w8.heap.size) Al nl cl (ls.flatMap lineL) rfl (HRDL.out.fr (Fr.ofBelow (below1 w8 _))) (flat_one ls) (by simp only [maxLen]; have := HXL.out; omega) (by have := HXL.out; omega) (by simp) ?_); intro v9 w9 hown9 hg9 hat9; obtain ⟨A10, c10, rfl, hown9b, hE9⟩ := app_aid hown9 hg9 H8; have s6 := blk_cell hE9 6; have s7 := blk_frozen hE9 6))
   have H10 := heap_setCell_same hE9 6 (.slice A10 nl c10)
   have HO10 := own_same (w' := w9.setCell ⟨w7.heap.size, 6, none⟩ (.slice A10 nl c10)) hown9b (fun g hg => Below.heap_setCell w9 ⟨w7.heap.size, 6, none⟩ _ g (by show g ≠ w7.heap.size; have := (hown9b.lt _ hg).1; omega))
   have hb10 : Below w7.heap.size w7 (w9.setCell ⟨w7.heap.size, 6, none⟩ (.slice A10 nl c10)) := (below_grown (hb8.alloc hb8.size _) hg9 (fun q hq => by simp [Value.ownBlock] at hq; omega) (Nat.le_refl _)).setCell (p := ⟨w7.heap.size, 6, none⟩) (Nat.le_refl _) _
   have hsz10 : w8.heap.size < (w9.setCell ⟨w7.heap.size, 6, none⟩ (.slice A10 nl c10)).heap.size := by have h1 := hg9.size; have h2 : (w9.setCell ⟨w7.heap.size, 6, none⟩ (.slice A10 nl c10)).heap.size = w9.heap.size := (by simp [World.setCell]); rw [h2]; simp at h1; omega
   clear hown9 hown9b hg9 hat9 hE9 s6 s7 x6
   generalize w9.setCell ⟨w7.heap.size, 6, none⟩ (.slice A10 nl c10) = w10 at *
   have HX10 := Lib.hid (show w10.heap[w7.heap.size]? = some (.cells #[.int .i64 xi, .int .i64 xe, .int .i64 xd, .int .i64 xk, .int .i64 xo, .string xt, .slice A10 nl c10] 42 (0, 0)) from H10)
   have hb010 := hb07.trans (hb10.mono hb07.size)
   have hs10 := hb10.size
   have LT010 := Nat.lt_of_lt_of_le LT07 hs10
   have LT110 := Nat.lt_of_lt_of_le LT17 hs10
   have HH10 := Lib.hid ((hb10.block _ LT07).trans HH7.out)
   have HZ10 := Lib.hid ((hb10.block _ LT17).trans HZ7.out)
   clear H10 H8 hs8
   obtain ⟨g10, hg1, hg2, _, hrow10⟩ := row_ints (l := ls) (show w10.ownsRow w8.heap.size 52 3 (.slice A10 ls.length c10) ls.length (ls.flatMap lineL) by rw [HNL.out]; exact HO10) hsz10
   rw [HNL.out] at hrow10
   have hs78 : w7.heap.size < w8.heap.size := HS8
   have hs5 : w5.heap.size ≤ w7.heap.size := hc7.size
   have HNUM := Lib.hid (show w.heap.size + 1 < w4.heap.size ∧ w4.heap.size ≤ w5.heap.size ∧ w5.heap.size ≤ w6.heap.size ∧ w6.heap.size ≤ w7.heap.size ∧ w7.heap.size < w8.heap.size ∧ w8.heap.size ≤ g10 ∧ g10 < w10.heap.size from ⟨LT14, hb5.size, hb6.size, hb7.size, hs78, hg1, hg2⟩)
   have hc10 : Below w5.heap.size w5 w10 := hc7.trans (hb10.mono hs5)
   have hol := (show w10.ownsRow w8.heap.size 52 3 (.slice A10 ls.length c10) ls.length (ls.flatMap lineL) by rw [HNL.out]; exact HO10)
   have hxr : EntryC w10 (fun q => q < w10.heap.size ∧ ¬ O q) [.int .i64 xi, .int .i64 xe, .int .i64 xd, .int .i64 xk, .int .i64 xo, .string xt, .slice A10 nl c10] ⟨xi, xe, xd, xk, xo, xt, ls⟩ := by
    have h := EntryC.mk (w := w10) (Q := fun q => q < w10.heap.size ∧ ¬ O q) (x := ⟨xi, xe, xd, xk, xo, xt, ls⟩) (A := A10) (c := c10) HXB.out (own_listL (Q := fun q => q < w10.heap.size ∧ ¬ O q) (show w10.ownsRow w8.heap.size 52 3 (.slice A10 ls.length c10) ls.length (ls.flatMap lineL) by rw [HNL.out]; exact HO10) (lines_bd HLS.out) (fun q hq => ⟨(hol.lt q hq).2, fun ho => by have h1 := (hol.lt q hq).1; have h2 := (HO.out q ho).1; have h3 := HNUM.out; omega⟩))
    simp only [HNL.out] at h
    exact h
   obtain ⟨gl2, css2, v2, bi2, br2, hJ10⟩ := HJC.out.below hc10
   have hpc := post_c D O J g es gl2 css2 v2 bi2 br2 ⟨xi, xe, xd, xk, xo, xt, ls⟩ _ w10 hJ10 HSM.out hxr (HTS.out _ HXM.out) (by show ls.length ≤ 100000; rw [HNL.out]; exact HXL.out) (by have := HAC.out.2.1; omega)
   obtain ⟨pe, hpe⟩ : ∃ pe, postE g es ⟨xi, xe, xd, xk, xo, xt, ls⟩ = pe := ⟨_, rfl⟩
   have HPE := Lib.hid hpe
   rw [hpe] at hpc
   obtain ⟨ES, hES⟩ : ∃ ES, (if pe = 0 then es ++ [⟨xi, xe, xd, xk, xo, xt, ls⟩] else es) = ES := ⟨_, rfl⟩
   have HES := Lib.hid hES
   rw [hES] at hpc
   have HPC := Lib.hid hpc
   have HLE := Lib.hid (show ES.length ≤ 100000 ∧ ∀ x ∈ ES, x.lines.length ≤ 100000 by
    rw [← hES]
    have h1 := HAC.out.2.1
    have h2 := HAC.out.2.2
    by_cases hp : pe = 0
    · rw [if_pos hp]
      refine ⟨by rw [List.length_append, List.length_singleton]; omega, fun x hx => ?_⟩
      rcases List.mem_append.1 hx with hx | hx
      · exact h2 x hx
      · rw [List.mem_singleton] at hx
        subst hx
        show ls.length ≤ 100000
        rw [HNL.out]
        exact HXL.out
    · rw [if_neg hp]
      exact ⟨by omega, h2⟩)
   have FC10 : Fr (fun q => D q ∨ O2 q) w6 w10 := ((Fr.ofBelow hb7).trans ((Fr.ofBelow hb10).mono (fun q hq => Nat.lt_of_lt_of_le hq hb7.size))).mono (fun q hq => by
    have h3 := HNUM.out
    rcases hq with hq | hq
    · have := (HD.out q hq).1; show q < w6.heap.size; omega
    · exact (HO2.out q hq).2)
   have hHO10 := HO10
   clear hpe hES hpc hxr hJ10 HO10 hHO10 hol hg1 hsz10
   go_wp2_with (show wpList _ _ _ (Oper.mk (some 70) _ _ _ _ _ :: _) _ _; refine wpList_load_row_g rfl 42 (.tmp 12) rfl w7.heap.size rfl _ _ _ _ HX10.out Tryz.underlying42 rfl info_entry ?_)
   refine HPC.out.mono ?_
   rintro e w11 ⟨rfl, mq, hm1, hm2, hJ11, hf11⟩
   have hfr : Fr (fun q => q < w10.heap.size ∧ ¬ O q) w10 w11 := hf11
   have hs11 := hfr.size
   have hne1 : ∀ q, q < w4.heap.size → ¬ O q := fun q hq ho => by have := (HO.out _ ho).2; omega
   have hne2 : ∀ q, w5.heap.size ≤ q → ¬ O q := fun q hq ho => by have := (HO.out _ ho).1; omega
   have hnum := HNUM.out
   have HH11 := Lib.hid ((hfr.block w.heap.size ⟨LT010, hne1 _ (by omega)⟩).trans HH10.out)
   have HZ11 := Lib.hid ((hfr.block (w.heap.size + 1) ⟨LT110, hne1 _ (by omega)⟩).trans HZ10.out)
   have HX11 := Lib.hid ((hfr.block w7.heap.size ⟨by omega, hne2 _ (by omega)⟩).trans HX10.out)
   have hrow11 := hrow10.fr hfr ⟨hg2, hne2 _ (by omega)⟩
   have hb011 : Below w.heap.size w w11 := ((Fr.ofBelow hb010).trans (hfr.mono (fun q (hq : q < w.heap.size) => ⟨by omega, hne1 _ (by omega)⟩))).below
   have FC11 := FC10.trans (hfr.mono (fun q hq => by
    rcases hq with hq | hq
    · have := HD.out q hq; exact ⟨by omega, this.2.2⟩
    · have := HO2.out q hq; exact ⟨by omega, hne2 _ this.1⟩))
   have FO11 : Fr (fun q => q < w5.heap.size ∧ ¬ (D q ∨ O q)) w5 w11 := ((Fr.ofBelow hc10).mono (fun q hq => hq.1)).trans (hfr.mono (fun q hq => ⟨by omega, fun ho => hq.2 (.inr ho)⟩))
   obtain ⟨D1, O1, hJ1, hne⟩ : ∃ D1 O1 : Nat → Prop, JC w11 D1 O1 J g ES ∧ ∀ q, D1 q ∨ O1 q → q ≠ g10 ∧ q < w11.heap.size := ⟨_, _, hJ11, fun q hq => by
    rcases hq with (hq | hq) | (hq | hq)
    · have := HD.out q hq; omega
    · omega
    · have := HO.out q hq; omega
    · omega⟩
   have HJ1 := Lib.hid hJ1
   have HNE := Lib.hid hne
   have HFC11 := Lib.hid FC11
   have HFO11 := Lib.hid FO11
   have HB011 := Lib.hid hb011
   have HG10 := Lib.hid (show g10 < w11.heap.size ∧ w.heap.size ≠ g10 ∧ w.heap.size + 1 ≠ g10 ∧ w7.heap.size ≠ g10 ∧ w.heap.size + 1 < w11.heap.size ∧ w5.heap.size ≤ g10 from by omega)
   clear hm1 hm2 hJ11 hf11 hfr hJ1 hne FC11 FO11 FC10 hnum hne1 hne2 hrow10
   go_wp2_with fail
   go_loopw [14] (fun i wr => ∃ q : Nat, q ≤ nl ∧ i = .int .i64 (q : Int) ∧ Fr (fun b => b ≠ g10) w11 wr ∧ RowI A10 g10 nl wr) (fun i _ => nl - (intOf i).toNat)
   case atStart => exact ⟨0, by omega, rfl, ⟨rfl, rfl, rfl, Nat.le_refl _, fun _ _ => rfl⟩, hrow11⟩
   case round =>
    obtain ⟨q, hq, rfl, hf, hr⟩ := hrel
    have hq9 := HXL.out
    have hx6 : wr.cell? ⟨w7.heap.size, 6, none⟩ = some (.slice A10 nl c10) := blk_cell ((hf.block _ HG10.out.2.2.2.1).trans HX11.out) 6
    by_cases hlq : q < nl
    case pos =>
     have hlqI : (q : Int) < (nl : Int) := by omega
     obtain ⟨hA, z, hc1, hc2⟩ := hr q hlq
     subst hA
     have HR := Lib.hid (And.intro hf (And.intro hr (And.intro hc1 hc2)))
     clear hf hr
     go_wp2_with fail
     go_roundw
     case rel => exact ⟨q + 1, by omega, by go_num, HR.out.1.setCell (p := ⟨g10, q * 3 + 1, none⟩) (fun h => h rfl) _, HR.out.2.1.set hlq⟩
     case measure => first | exact meas_v hlq | (simp only [intOf]; omega)
    case neg =>
    have hlqI : ¬ (q : Int) < (nl : Int) := by omega
    generalize wr = w12 at *
    have HH12 := Lib.hid ((hf.block w.heap.size HG10.out.2.1).trans HH11.out)
    have HZ12 := Lib.hid ((hf.block (w.heap.size + 1) HG10.out.2.2.1).trans HZ11.out)
    have hs12 := hf.size
    have HFC12 := Lib.hid (HFC11.out.trans (hf.mono (fun q hq => by
     have h3 := HNUM.out
     rcases hq with hq | hq
     · have := HD.out q hq; show q ≠ g10; omega
     · have := HO2.out q hq; show q ≠ g10; omega)))
    have HFO12 := Lib.hid (HFO11.out.trans (hf.mono (fun q hq => by have := HG10.out; show q ≠ g10; omega)))
    have HB012 := Lib.hid (show Below w.heap.size w w12 from ((Fr.ofBelow HB011.out).trans (hf.mono (fun q (hq : q < w.heap.size) => by have := HNUM.out; show q ≠ g10; omega))).below)
    have HJ2 := Lib.hid (HJ1.out.fr (hf.mono (fun q hq => (HNE.out q hq).1)))
    have HEN := Lib.hid (entries_n D1 O1 J g ES w12 HJ2.out HLE.out.2 HLE.out.1)
    have HS12 := Lib.hid (show w.heap.size + 1 < w12.heap.size by have := HG10.out; omega)
    clear hr hf hlq hrow11
    go_wp2_with fail
    refine HEN.out.mono ?_
    rintro e w13 ⟨A13, c13, rfl, hout13, hb13⟩
    have hsh := hout13.shown
    obtain ⟨ne, hne⟩ : ∃ ne, ES.length = ne := ⟨_, rfl⟩
    have HNEL := Lib.hid hne
    have hn5 : ne ≤ 100000 := by have := HLE.out.1; omega
    rw [hne]
    clear hout13 hne HEN hx6 hlqI
    go_wp2_with fail
    go_loopw [16] (fun i wr => ∃ q : Nat, q ≤ ne ∧ i = .int .i64 (q : Int) ∧ Below w12.heap.size w12 wr ∧ ShowAt w12.heap.size A13 ES wr) (fun i _ => ne - (intOf i).toNat)
    case atStart => exact ⟨0, by omega, rfl, hb13, hsh⟩
    case round =>
     obtain ⟨q, hq, rfl, hb14, hsh14⟩ := hrel
     generalize wr = w14 at *
     by_cases hlq : q < ne
     case pos =>
      have hlqI : (q : Int) < (ne : Int) := by omega
      have hqE : q < ES.length := by rw [HNEL.out]; exact hlq
      have hxe := List.getElem?_eq_getElem hqE
      obtain ⟨x, hx⟩ : ∃ x, ES[q] = x := ⟨_, rfl⟩
      rw [hx] at hxe
      have HXE := Lib.hid hxe
      obtain ⟨bs, os, As, cs', hA, h6, hk⟩ := hsh14 q x hxe
      subst hA
      obtain ⟨nx, hnx⟩ : ∃ nx, x.lines.length = nx := ⟨_, rfl⟩
      have HNX := Lib.hid hnx
      have hnx5 : nx ≤ 100000 := by rw [← hnx]; exact HLE.out.2 x (List.mem_of_getElem? hxe)
      have HB14 := Lib.hid hb14
      have HSH14 := Lib.hid hsh14
      clear hk h6 hnx hx hxe hb14 hsh14 hsh
      go_wp2_with fail
      go_loopw [17] (fun i wr => ∃ k : Nat, k ≤ nx ∧ i = .int .i64 (k : Int) ∧ Below w12.heap.size w12 wr ∧ ShowAt w12.heap.size (some ⟨bs, os, none⟩) ES wr) (fun i _ => nx - (intOf i).toNat)
      case atStart => exact ⟨0, by omega, rfl, HB14.out, HSH14.out⟩
      case round =>
       obtain ⟨k, hk, rfl, hb15, hsh15⟩ := hrel
       generalize wr = w15 at *
       obtain ⟨b2, o2, A2, c2, hA2, h6, hk2⟩ := hsh15 q x HXE.out
       obtain ⟨rfl, rfl⟩ : bs = b2 ∧ os = o2 := by simpa using hA2
       rw [HNX.out] at h6 hk2
       by_cases hlk : k < nx
       case pos =>
        have hlkI : (k : Int) < (nx : Int) := by omega
        obtain ⟨bl, ol, rfl, hBl, hbne, z, hc1, hc2⟩ := hk2 k hlk
        have HR := Lib.hid (And.intro hb15 (And.intro hsh15 (And.intro hBl (And.intro hbne (And.intro hc1 hc2)))))
        clear hk2 hb15 hsh15 hBl hbne hA2
        go_wp2_with fail
        go_roundw
        case rel => exact ⟨k + 1, by omega, by go_num, HR.out.1.setCell (p := ⟨bl, ol + k * 3 + 1, none⟩) HR.out.2.2.1 _, HR.out.2.1.set (q := ⟨bl, ol + k * 3 + 1, none⟩) ⟨z, HR.out.2.2.2.2⟩ (fun b o h => by simp only [Option.some.injEq, Addr.mk.injEq] at h; obtain ⟨rfl, _, _⟩ := h; exact HR.out.2.2.2.1)⟩
        case measure => first | exact meas_v hlk | (simp only [intOf]; omega)
       case neg =>
        have hlkI : ¬ (k : Int) < (nx : Int) := by omega
        have HR := Lib.hid (And.intro hb15 hsh15)
        clear hk2 hb15 hsh15 hA2
        go_wp2_with fail
        go_roundw
        case rel => exact ⟨q + 1, by omega, by go_num, HR.out.1, HR.out.2⟩
        case measure => first | exact meas_v hlq | (simp only [intOf]; omega)
     case neg =>
     have hlqI : ¬ (q : Int) < (ne : Int) := by omega
     have HB14 := Lib.hid hb14
     have HHB := Lib.hid ((hb14.block w.heap.size (by have := HS12.out; omega)).trans HH12.out)
     have HZB := Lib.hid ((hb14.block (w.heap.size + 1) HS12.out).trans HZ12.out)
     have HATG14 := Lib.hid (fun (w2 : World) (hS : Below w14.heap.size w14 w2) => show w2.rangeAt w.heap.size 0 gl from ((box_at (cs := gl) HHB.out).fr (Fr.ofBelow hS)).range)
     have HATR14 := Lib.hid (fun (w2 : World) (hS : Below w14.heap.size w14 w2) => show w2.rangeAt (w.heap.size + 1) 0 [.int .i64 re, .int .i64 rl] from ((box_at (cs := [.int .i64 re, .int .i64 rl]) HZB.out).fr (Fr.ofBelow hS)).range)
     have HBW := Lib.hid (fun (w2 : World) (hS : Below w14.heap.size w14 w2) => show Below w.heap.size w w2 from HB012.out.trans ((hb14.trans (hS.mono hb14.size)).mono HB012.out.size))
     have HBX := Lib.hid (fun (w2 : World) (hS : Below w14.heap.size w14 w2) => show Below w12.heap.size w12 w2 from hb14.trans (hS.mono hb14.size))
     have HATX14 := Lib.hid (fun (w2 : World) (hS : Below w14.heap.size w14 w2) => show w2.rangeAt b (o + m * 7) [.int .i64 xi, .int .i64 xe, .int .i64 xd, .int .i64 xk, .int .i64 xo, .string xt, .slice Al nl cl] from (HAT.out.fr (Fr.ofBelow (HBW.out w2 hS))).range)
     have HFO14 := Lib.hid (fun (w2 : World) (hS : Below w14.heap.size w14 w2) => HFO12.out.trans ((Fr.ofBelow (HBX.out w2 hS)).mono (fun q (hq : q < w5.heap.size ∧ ¬ (D q ∨ O q)) => by have := HG10.out; have := HFO12.out.size; show q < w12.heap.size; omega)))
     have HOUT14 := Lib.hid (fun (w2 : World) (hS : Below w14.heap.size w14 w2) => show ListC EntryC 7 w2 (· < w2.heap.size) [.slice A9 es.length c9] es from (HOUT.out.fr (fun h => EntryC.fr h (HFO14.out w2 hS)) (HFO14.out w2 hS)).mono (fun h => EntryC.mono h (fun q hq => Nat.lt_of_lt_of_le hq.1 (HFO14.out w2 hS).size)) (fun q hq => Nat.lt_of_lt_of_le hq.1 (HFO14.out w2 hS).size))
     have HSC14 := Lib.hid (fun (w2 : World) (hS : Below w14.heap.size w14 w2) => HSC.out w2 (HFC12.out.trans ((Fr.ofBelow (HBX.out w2 hS)).mono (fun q hq => by
      have h3 := HNUM.out
      have h4 := HFC12.out.size
      rcases hq with hq | hq
      · have := HD.out q hq; show q < w12.heap.size; omega
      · have := HO2.out q hq; show q < w12.heap.size; omega))) (HFO14.out w2 hS))
     have HRP14 := Lib.hid (fun (w2 : World) (hS : Below w14.heap.size w14 w2) => show Calls Tryz.prog 22 #[.agg gl.toArray, .slice A9 n9 c9, .agg #[.int .i64 xi, .int .i64 xe, .int .i64 xd, .int .i64 xk, .int .i64 xo, .string xt, .slice Al nl cl]] w2 (Quiet w2 (.int .i64 pe)) by
      have h := rpost_c g es ⟨xi, xe, xd, xk, xo, xt, ls⟩ gl [.int .i64 xi, .int .i64 xe, .int .i64 xd, .int .i64 xk, .int .i64 xo, .string xt, .slice Al nl cl] A9 c9 w2 (HG.out.keep (HBW.out w2 hS)) HSM.out (HOUT14.out w2 hS) (HXC.out.keep (HBW.out w2 hS)) (HTS.out _ HXM.out) HAC.out.1
      rw [HN9.out, HPE.out] at h
      exact h)
     have HJ14 := Lib.hid (fun (w2 : World) (hS : Below w14.heap.size w14 w2) => HJ2.out.below (HBX.out w2 hS))
     clear hb14 hsh14 hsh hb13
     by_cases hpe : pe = 0
     case neg =>
      have hq0 : (pe == 0) = false := by simp [hpe]
      have HSJ14 := Lib.hid (fun (w2 : World) (hS : Below w14.heap.size w14 w2) => show Calls Tryz.prog 18 #[.pointer (some ⟨J, 0, none⟩), .slice A9 n9 c9, .agg #[.int .i64 re, .int .i64 rl]] w2 (Quiet w2 (.bool true)) by
       have hj := HJ14.out w2 hS
       rw [← HES.out, if_neg hpe] at hj
       have h := sameJ_c D1 O1 J g es A9 c9 re rl w2 hj (HOUT14.out w2 hS) HID.out HAC.out.2.2 (by have := HAC.out.2.1; omega)
       rwa [HN9.out] at h)
      clear hpe
      go_upto_region 30 with fail
      refine wp_region_inv (Ks w14 [.val (.pointer (some ⟨L, 0, none⟩)), .val (.slice A9 n9 c9), .val (.agg #[.int .i64 re, .int .i64 rl]), .val (.bool true), .val (.bool true), .val (.pointer (some ⟨J, 0, none⟩)), .val (.slice A9 n9 c9), .val (.agg #[.int .i64 re, .int .i64 rl]), .val (.bool true), .val (.bool true), .val (.bool true), .val (.int .i64 pe), .val (.agg gl.toArray), .val (.slice A9 n9 c9), .val (.slice (some ⟨b, o, none⟩) n c), .val (.int .i64 (m : Int)), .val (.pointer (some ⟨b, o + m * 7, none⟩)), .val (.agg #[.int .i64 xi, .int .i64 xe, .int .i64 xd, .int .i64 xk, .int .i64 xo, .string xt, .slice Al nl cl]), .val (.int .i64 pe), .val (.bool true), .val (.bool true), .val (.bool true)])
       (fun w' => Below w14.heap.size w14 w') (by kernel_rfl) (by kernel_rfl) (by kernel_rfl) (Below.refl _ _).drew ?_ ?_
      · refine ⟨?_, ?_, ?_, ?_, ?_, ?_, ?_, ?_, ?_, ?_, ?_, ?_, ?_, ?_, ?_, ?_, ?_, ?_, ?_, ?_, ?_, ?_, trivial⟩
        · intro _ A0 w2 hI hd hnd K hK; have e0 := hI.q hnd 11; exact hI.z hK
        · intro _ A0 w2 hI hd hnd K hK; have e0 := hI.q hnd 9; exact hI.z hK
        · intro _ A0 w2 hI hd hnd K hK; have e0 := hI.q hnd 5; have hS := hI.world
          have hrange := HATR14.out w2 hS
          have hisize := info_ref; refine wanted_go rfl ?_; clear hI hd hnd
          refine wp_load_mid 45 (.tmp 5) rfl _ _ (by simpa [Act.eval, Array.getD_eq_getD_getElem?] using e0) _ _ hrange Tryz.underlying45 rfl hisize ?_
          exact kq hK hS rfl
        · intro _ A0 w2 hI hd hnd K hK; have e0 := hI.p hd 0 130; have e1 := hI.p hd 1 131; have e2 := hI.p hd 2 132; have hS := hI.world; refine wanted_go rfl ?_; clear hI hd hnd; go_simp
          go_at_call 18
          refine (HSC14.out w2 hS).mono ?_
          rintro e w3 ⟨rfl, h3⟩
          exact hK.out _ _ (hS.trans (h3.mono hS.size)) (Ks.of rfl rfl) (Ks.keep h3)
        · intro _ A0 w2 hI hd hnd K hK; have e0 := hI.p hd 3 133; exact hI.z hK
        · intro _ A0 w2 hI hd hnd K hK; have e0 := hI.q hnd 8; exact hI.z1 hK (hI.r hd 4 134 true)
        · intro _ A0 w2 hI hd hnd K hK; have e0 := hI.q hnd 18; exact hI.z1 hK (hI.r hd 4 134 true)
        · intro _ A0 w2 hI hd hnd K hK; have e0 := hI.q hnd 5; have hS := hI.world
          have hrange := HATR14.out w2 hS
          have hisize := info_ref; refine wanted_yes rfl (hI.r hd 4 134 true) ?_; clear hI hd hnd
          refine wp_load_mid 45 (.tmp 5) rfl _ _ (by simpa [Act.eval, Array.getD_eq_getD_getElem?] using e0) _ _ hrange Tryz.underlying45 rfl hisize ?_
          exact kq hK hS rfl
        · intro _ A0 w2 hI hd hnd K hK; have e0 := hI.p hd 5 135; have e1 := hI.p hd 6 136; have e2 := hI.p hd 7 137; have hS := hI.world; refine wanted_yes rfl (hI.r hd 4 134 true) ?_; clear hI hd hnd; go_simp
          go_at_call 18
          refine (HSJ14.out w2 hS).mono ?_
          rintro e w3 ⟨rfl, h3⟩
          exact hK.out _ _ (hS.trans (h3.mono hS.size)) (Ks.of rfl rfl) (Ks.keep h3)
        · intro _ A0 w2 hI hd hnd K hK; have e0 := hI.p hd 4 134; have e1 := hI.p hd 8 138; exact hI.z hK
        · intro _ A0 w2 hI hd hnd K hK; have e0 := hI.p hd 9 139; exact hI.z hK
        · intro _ A0 w2 hI hd hnd K hK; have e0 := hI.q hnd 13; exact hI.z1 hK (hI.r hd 10 140 true)
        · intro _ A0 w2 hI hd hnd K hK; have e0 := hI.q hnd 3; have hS := hI.world
          have hrange := HATG14.out w2 hS
          have hisize := HGI.out
          refine wanted_yes rfl (hI.r hd 10 140 true) ?_; clear hI hd hnd
          refine wp_load_mid 29 (.tmp 3) rfl _ _ (by simpa [Act.eval, Array.getD_eq_getD_getElem?] using e0) _ _ hrange Tryz.underlying29 rfl hisize ?_
          exact kq hK hS rfl
        · intro _ A0 w2 hI hd hnd K hK; have e0 := hI.q hnd 9; exact hI.z1 hK (hI.r hd 10 140 true)
        · intro _ A0 w2 hI hd hnd K hK; have e0 := hI.q hnd 1; exact hI.z1 hK (hI.r hd 10 140 true)
        · intro _ A0 w2 hI hd hnd K hK; have e0 := hI.q hnd 7; exact hI.z1 hK (hI.r hd 10 140 true)
        · intro _ A0 w2 hI hd hnd K hK
          have hmi := HMI.out
          have e0 := hI.p hd 14 144; have e1 := hI.p hd 15 145; exact hI.z1 hK (hI.r hd 10 140 true)
        · intro _ A0 w2 hI hd hnd K hK; have e0 := hI.p hd 16 146; have hS := hI.world
          have hrange := HATX14.out w2 hS
          have hisize := info_entry; refine wanted_yes rfl (hI.r hd 10 140 true) ?_; clear hI hd hnd
          refine wp_load_mid 42 (.tmp 146) rfl _ _ (by simpa [Act.eval, Array.getD_eq_getD_getElem?] using e0) _ _ hrange Tryz.underlying42 rfl hisize ?_
          exact kq hK hS rfl
        · intro _ A0 w2 hI hd hnd K hK; have e0 := hI.p hd 12 142; have e1 := hI.p hd 13 143; have e2 := hI.p hd 17 147; have hS := hI.world; refine wanted_yes rfl (hI.r hd 10 140 true) ?_; clear hI hd hnd; go_simp
          go_at_call 22
          refine (HRP14.out w2 hS).mono ?_
          rintro e w3 ⟨rfl, h3⟩
          exact hK.out _ _ (hS.trans (h3.mono hS.size)) (Ks.of rfl rfl) (Ks.keep h3)
        · intro _ A0 w2 hI hd hnd K hK; have e0 := hI.p hd 11 141; have e1 := hI.p hd 18 148; exact hI.z1 hK (hI.r hd 10 140 true)
        · intro _ A0 w2 hI hd hnd K hK; have e0 := hI.p hd 10 140; have e1 := hI.p hd 19 149; exact hI.z hK
        · intro _ A0 w2 hI hd hnd K hK; have e0 := hI.p hd 20 150; exact hI.z hK
      · intro _ A0 w2 hI hall; have hS := hI.world; obtain ⟨x0, -, x1, -, x2, -, x3, -, x4, -, x5, -, x6, -, x7, -, x8, -, x9, -, x10, -, x11, -, x12, -, x13, -, x14, -, x15, -, x16, -, x17, -, x18, -, x19, -, x20, -, x21, h21, hA⟩ := hI.ch hall [130, 131, 132, 133, 134, 135, 136, 137, 138, 139, 140, 141, 142, 143, 144, 145, 146, 147, 148, 149, 150, 6]
        obtain rfl : x21 = .bool true := h21 _ rfl
        clear h21 hI hall
        simp only [Ch, setAll, List.foldl, List.setIfInBounds_toArray, List.set_cons_zero, List.set_cons_succ] at hA
        rw [hA]
        clear hA
        have hbe := HBW.out w2 hS
        go_wp2_with fail
        go_ret
        exact ⟨rfl, hbe⟩
     case pos =>
      have hq0 : (pe == 0) = true := by simp [hpe]
      have HPE0 := Lib.hid hpe
      obtain ⟨css, hcl, hc7', hcE, hrd⟩ := rd_css (fun cs x h => EntryC.len h) (by omega) (HOUT14.out w14 (Below.refl _ _))
      have HCL := Lib.hid (And.intro hcl (And.intro hc7' hcE))
      have HONE9 := Lib.hid (css_one (fun _ _ h => entry_one h) hcl hcE)
      rw [HN9.out] at hrd
      have HRD9 := Lib.hid hrd
      obtain ⟨F9, hF9⟩ : ∃ F, css.flatten = F := ⟨_, rfl⟩
      rw [hF9] at HRD9 HONE9
      have HF9 := Lib.hid hF9
      clear hcl hc7' hcE hrd hF9 hpe
      go_upto_region 29 with fail
      refine wp_region_inv3 8 (Ks w14 [.own (IsMdX w14.heap.size) (IsMdX.keep), .val (.slice A9 n9 c9), .own (IsRwX w14.heap.size n9 F9) (IsRwX.keep), .val (.slice (some ⟨b, o, none⟩) n c), .val (.int .i64 (m : Int)), .val (.pointer (some ⟨b, o + m * 7, none⟩)), .val (.agg #[.int .i64 xi, .int .i64 xe, .int .i64 xd, .int .i64 xk, .int .i64 xo, .string xt, .slice Al nl cl]), .own (IsOneX w14.heap.size [.int .i64 xi, .int .i64 xe, .int .i64 xd, .int .i64 xk, .int .i64 xo, .string xt, .slice Al nl cl]) (IsOneX.keep)])
       (fun w' => Below w14.heap.size w14 w') (by kernel_rfl) (by kernel_rfl) (by kernel_rfl) (by decide) (by kernel_rfl) (by kernel_rfl) (by kernel_rfl) (Below.refl _ _).drew ?_ ?_
      · refine ⟨?_, ?_, ?_, ?_, ?_, ?_, ?_, ?_, trivial⟩
        · intro _ A0 w2 hI hd hnd K hK; have hS := hI.world; refine wanted_go rfl ?_; clear hI hd hnd; go_simp
          exact hK.out _ _ (hS.alloc hS.size _) (Ks.of rfl (IsMdX.made hS.size)) (Ks.keep (below1 w2 _))
        · intro _ A0 w2 hI hd hnd K hK; have e0 := hI.q hnd 9; exact hI.z hK
        · intro _ A0 w2 hI hd hnd K hK
          obtain ⟨x0, e0, h0⟩ := hI.dep hd 0 121 rfl rfl rfl (by kernel_rfl)
          have e1 := hI.p hd 1 122; have hS := hI.world
          obtain ⟨g5, rfl, hg1, hg2⟩ := h0
          refine wanted_go rfl ?_; clear hI hd hnd
          refine wp_app_made2 (w := w2) (.tmp 121) (.tmp 122) 30 rfl w14.heap.size 42 ib _ 7 80 entries_uty hib hzib hsib hbib rfl (by decide) g5 (by simpa [Act.eval, Array.getD_eq_getD_getElem?] using e0) hg2 hg1 (· < w14.heap.size) A9 n9 c9 F9 (by simpa [Act.eval, Array.getD_eq_getD_getElem?] using e1) (HRD9.out.fr (Fr.ofBelow hS)) HONE9.out (by simp only [maxLen]; have := H61.out; omega) (by have := H61.out; omega) hS.size ?_
          intro v9 w9 hown9 hb9
          exact hK.out _ _ (hS.trans (hb9.mono hS.size)) (Ks.of rfl hown9) (Ks.keep hb9)
        · intro _ A0 w2 hI hd hnd K hK; have e0 := hI.q hnd 1; exact hI.z hK
        · intro _ A0 w2 hI hd hnd K hK; have e0 := hI.q hnd 7; exact hI.z hK
        · intro _ A0 w2 hI hd hnd K hK
          have hmi := HMI.out
          have e0 := hI.p hd 3 124; have e1 := hI.p hd 4 125; exact hI.z hK
        · intro _ A0 w2 hI hd hnd K hK; have e0 := hI.p hd 5 126; have hS := hI.world
          have hrange := HATX14.out w2 hS
          have hisize := info_entry; refine wanted_go rfl ?_; clear hI hd hnd
          refine wp_load_mid 42 (.tmp 126) rfl _ _ (by simpa [Act.eval, Array.getD_eq_getD_getElem?] using e0) _ _ hrange Tryz.underlying42 rfl hisize ?_
          exact kq hK hS rfl
        · intro _ A0 w2 hI hd hnd K hK; have e0 := hI.p hd 6 127; have hS := hI.world; refine wanted_go rfl ?_; clear hI hd hnd; go_simp
          exact hK.out _ _ (hS.alloc hS.size _) (Ks.of rfl ⟨_, rfl, hS.size, heap_alloc_new _ _⟩) (Ks.keep (below1 w2 _))
      · intro A0 w2 hI
        obtain ⟨x0, g0, h0⟩ := hI.got 0 _ 121 rfl rfl rfl
        obtain ⟨x1, g1, h1⟩ := hI.got 1 _ 122 rfl rfl rfl
        obtain ⟨x2, g2, h2⟩ := hI.got 2 _ 123 rfl rfl rfl
        obtain ⟨x3, g3, h3⟩ := hI.got 3 _ 124 rfl rfl rfl
        obtain ⟨x4, g4, h4⟩ := hI.got 4 _ 125 rfl rfl rfl
        obtain ⟨x5, g5, h5⟩ := hI.got 5 _ 126 rfl rfl rfl
        obtain ⟨x6, g6, h6⟩ := hI.got 6 _ 127 rfl rfl rfl
        obtain ⟨x7, g7, h7⟩ := hI.got 7 _ 128 rfl rfl rfl
        have hS := hI.world
        obtain ⟨y129, o129⟩ : ∃ v, A0.tmps[129]? = some v := ⟨_, hI.oldHead 129 (by kernel_rfl)⟩
        obtain ⟨y18, o18⟩ : ∃ v, A0.tmps[18]? = some v := ⟨_, hI.oldHead 18 (by kernel_rfl)⟩
        have hA : A0 = _ := hI.tmps [(121, x0), (122, x1), (123, x2), (124, x3), (125, x4), (126, x5), (127, x6), (128, x7), (129, y129), (18, y18)] (by simp only [List.mem_cons, List.not_mem_nil, or_false, forall_eq_or_imp, forall_eq]; exact ⟨g0, g1, g2, g3, g4, g5, g6, g7, o129, o18⟩) (by kernel_rfl)
        have k2 : (IsRwX w14.heap.size n9 F9) x2 w2 := h2 _ rfl
        have k7 : (IsOneX w14.heap.size [.int .i64 xi, .int .i64 xe, .int .i64 xd, .int .i64 xk, .int .i64 xo, .string xt, .slice Al nl cl]) x7 w2 := h7 _ rfl
        clear h0 g0 h1 g1 h2 g2 h3 g3 h4 g4 h5 g5 h6 g6 h7 g7 o129 o18 hI
        simp only [setAll, List.foldl, List.setIfInBounds_toArray, List.set_cons_zero, List.set_cons_succ] at hA
        rw [hA]
        clear hA
        simp only [List.drop_succ_cons, List.drop_zero]
        obtain ⟨gO, rfl, hgO1, hgO2⟩ := k7
        have K2 := Lib.hid (show w2.ownsRow w14.heap.size 42 7 x2 n9 F9 from k2)
        clear k2
        refine wpList_app _ rfl (.tmp 123) (.tmp 128) 30 rfl w14.heap.size 42 ib _ 7 80 entries_uty hib hzib hsib hbib rfl (by decide) x2 n9 F9 rfl K2.out (fun _ => True) (some ⟨gO, 0, none⟩) 1 1 [.int .i64 xi, .int .i64 xe, .int .i64 xd, .int .i64 xk, .int .i64 xo, .string xt, .slice Al nl cl] rfl (IsOneX.rd (B := 0) rfl hgO2 trivial) (by simp [Value.oneCell']) (by simp only [maxLen]; have := H61.out; omega) (by have := H61.out; omega) hS.size ?_
        intro v9 w15 hown15 hg15 _
        have hb15 : Below w14.heap.size w14 w15 := below_grown hS hg15 (fun q hq => (K2.out.lt _ hq).1) (Nat.le_refl _)
        have hESe : es ++ [⟨xi, xe, xd, xk, xo, xt, ls⟩] = ES := by have h := HES.out; rw [if_pos HPE0.out] at h; exact h
        have hnES : ES.length = n9 + 1 := by rw [← hESe, List.length_append, List.length_singleton, HN9.out]
        have hown16 : w15.ownsRow w14.heap.size 42 7 v9 ES.length (css ++ [([.int .i64 xi, .int .i64 xe, .int .i64 xd, .int .i64 xk, .int .i64 xo, .string xt, .slice Al nl cl] : List Value)]).flatten := by
         rw [hnES, List.flatten_append, HF9.out]
         simpa using hown15
        have hl15 : ListC EntryC 7 w15 (· < w15.heap.size) [v9] ES := own_list (css := css ++ [([.int .i64 xi, .int .i64 xe, .int .i64 xd, .int .i64 xk, .int .i64 xo, .string xt, .slice Al nl cl] : List Value)]) (fun cs hc => by
         rcases List.mem_append.1 hc with hc | hc
         · exact HCL.out.2.1 cs hc
         · rw [List.mem_singleton] at hc
           subst hc
           rfl) hown16 (fun i x hx => by
         rw [← hESe] at hx
         rcases Nat.lt_or_ge i es.length with hi | hi
         · rw [List.getElem?_append_left hi] at hx
           obtain ⟨cs, k1, k2⟩ := HCL.out.2.2 i x hx
           exact ⟨cs, by rw [List.getElem?_append_left (by rw [HCL.out.1]; exact hi)]; exact k1, k2.keep hb15⟩
         · rw [List.getElem?_append_right hi] at hx
           have hi0 : i - es.length = 0 := by
            rcases Nat.eq_zero_or_pos (i - es.length) with h | h
            · exact h
            · rw [List.getElem?_eq_none (by simp; omega)] at hx
              simp at hx
           rw [hi0] at hx
           simp at hx
           subst hx
           refine ⟨[.int .i64 xi, .int .i64 xe, .int .i64 xd, .int .i64 xk, .int .i64 xo, .string xt, .slice Al nl cl], by rw [List.getElem?_append_right (by rw [HCL.out.1]; exact hi), HCL.out.1, hi0]; rfl, HXC.out.keep (HBW.out w15 hb15)⟩) (fun q hq => (hown16.lt q hq).2)
        obtain ⟨A15, c15, rfl⟩ : ∃ A c, v9 = .slice A ne c := by
         obtain ⟨A, n', c', rfl⟩ := own_shape hown16
         have e := own_val hown16
         rw [HNEL.out] at e
         exact ⟨A, c', by rw [e]⟩
        have HSJ14 := Lib.hid (fun (w2 : World) (hS : Below w15.heap.size w15 w2) => show Calls Tryz.prog 18 #[.pointer (some ⟨J, 0, none⟩), .slice A15 ne c15, .agg #[.int .i64 re, .int .i64 rl]] w2 (Quiet w2 (.bool true)) by
         have h := sameJ_c D1 O1 J g ES A15 c15 re rl w2 (HJ14.out w2 (hb15.trans (hS.mono hb15.size))) (entries_keep (by rw [HNEL.out]; exact hl15) hS) HID.out HLE.out.2 HLE.out.1
         rwa [HNEL.out] at h)
        have HSC14 := Lib.hid (fun (w2 : World) (hS : Below w15.heap.size w15 w2) => HSC14.out w2 (hb15.trans (hS.mono hb15.size)))
        have HRP14 := Lib.hid (fun (w2 : World) (hS : Below w15.heap.size w15 w2) => HRP14.out w2 (hb15.trans (hS.mono hb15.size)))
        have HATG14 := Lib.hid (fun (w2 : World) (hS : Below w15.heap.size w15 w2) => HATG14.out w2 (hb15.trans (hS.mono hb15.size)))
        have HATR14 := Lib.hid (fun (w2 : World) (hS : Below w15.heap.size w15 w2) => HATR14.out w2 (hb15.trans (hS.mono hb15.size)))
        have HATX14 := Lib.hid (fun (w2 : World) (hS : Below w15.heap.size w15 w2) => HATX14.out w2 (hb15.trans (hS.mono hb15.size)))
        have HBW15 := Lib.hid (fun (w2 : World) (hS : Below w15.heap.size w15 w2) => HBW.out w2 (hb15.trans (hS.mono hb15.size)))
        clear hown15 hg15 hb15 hESe hnES hown16 hl15 hgO2 hgO1 hS hq0
        go_upto_region 30 with fail
        refine wp_region_inv (Ks w15 [.val (.pointer (some ⟨L, 0, none⟩)), .val (.slice A9 n9 c9), .val (.agg #[.int .i64 re, .int .i64 rl]), .val (.bool true), .val (.bool true), .val (.pointer (some ⟨J, 0, none⟩)), .val (.slice A15 ne c15), .val (.agg #[.int .i64 re, .int .i64 rl]), .val (.bool true), .val (.bool true), .val (.bool true), .val (.int .i64 pe), .val (.agg gl.toArray), .val (.slice A9 n9 c9), .val (.slice (some ⟨b, o, none⟩) n c), .val (.int .i64 (m : Int)), .val (.pointer (some ⟨b, o + m * 7, none⟩)), .val (.agg #[.int .i64 xi, .int .i64 xe, .int .i64 xd, .int .i64 xk, .int .i64 xo, .string xt, .slice Al nl cl]), .val (.int .i64 pe), .val (.bool true), .val (.bool true), .val (.bool true)])
         (fun w' => Below w15.heap.size w15 w') (by kernel_rfl) (by kernel_rfl) (by kernel_rfl) (Below.refl _ _).drew ?_ ?_
        · refine ⟨?_, ?_, ?_, ?_, ?_, ?_, ?_, ?_, ?_, ?_, ?_, ?_, ?_, ?_, ?_, ?_, ?_, ?_, ?_, ?_, ?_, ?_, trivial⟩
          · intro _ A0 w2 hI hd hnd K hK; have e0 := hI.q hnd 11; exact hI.z hK
          · intro _ A0 w2 hI hd hnd K hK; have e0 := hI.q hnd 9; exact hI.z hK
          · intro _ A0 w2 hI hd hnd K hK; have e0 := hI.q hnd 5; have hS := hI.world
            have hrange := HATR14.out w2 hS
            have hisize := info_ref; refine wanted_go rfl ?_; clear hI hd hnd
            refine wp_load_mid 45 (.tmp 5) rfl _ _ (by simpa [Act.eval, Array.getD_eq_getD_getElem?] using e0) _ _ hrange Tryz.underlying45 rfl hisize ?_
            exact kq hK hS rfl
          · intro _ A0 w2 hI hd hnd K hK; have e0 := hI.p hd 0 130; have e1 := hI.p hd 1 131; have e2 := hI.p hd 2 132; have hS := hI.world; refine wanted_go rfl ?_; clear hI hd hnd; go_simp
            go_at_call 18
            refine (HSC14.out w2 hS).mono ?_
            rintro e w3 ⟨rfl, h3⟩
            exact hK.out _ _ (hS.trans (h3.mono hS.size)) (Ks.of rfl rfl) (Ks.keep h3)
          · intro _ A0 w2 hI hd hnd K hK; have e0 := hI.p hd 3 133; exact hI.z hK
          · intro _ A0 w2 hI hd hnd K hK; have e0 := hI.q hnd 8; exact hI.z1 hK (hI.r hd 4 134 true)
          · intro _ A0 w2 hI hd hnd K hK; have e0 := hI.q hnd 18; exact hI.z1 hK (hI.r hd 4 134 true)
          · intro _ A0 w2 hI hd hnd K hK; have e0 := hI.q hnd 5; have hS := hI.world
            have hrange := HATR14.out w2 hS
            have hisize := info_ref; refine wanted_yes rfl (hI.r hd 4 134 true) ?_; clear hI hd hnd
            refine wp_load_mid 45 (.tmp 5) rfl _ _ (by simpa [Act.eval, Array.getD_eq_getD_getElem?] using e0) _ _ hrange Tryz.underlying45 rfl hisize ?_
            exact kq hK hS rfl
          · intro _ A0 w2 hI hd hnd K hK; have e0 := hI.p hd 5 135; have e1 := hI.p hd 6 136; have e2 := hI.p hd 7 137; have hS := hI.world; refine wanted_yes rfl (hI.r hd 4 134 true) ?_; clear hI hd hnd; go_simp
            go_at_call 18
            refine (HSJ14.out w2 hS).mono ?_
            rintro e w3 ⟨rfl, h3⟩
            exact hK.out _ _ (hS.trans (h3.mono hS.size)) (Ks.of rfl rfl) (Ks.keep h3)
          · intro _ A0 w2 hI hd hnd K hK; have e0 := hI.p hd 4 134; have e1 := hI.p hd 8 138; exact hI.z hK
          · intro _ A0 w2 hI hd hnd K hK; have e0 := hI.p hd 9 139; exact hI.z hK
          · intro _ A0 w2 hI hd hnd K hK; have e0 := hI.q hnd 13; exact hI.z1 hK (hI.r hd 10 140 true)
          · intro _ A0 w2 hI hd hnd K hK; have e0 := hI.q hnd 3; have hS := hI.world
            have hrange := HATG14.out w2 hS
            have hisize := HGI.out
            refine wanted_yes rfl (hI.r hd 10 140 true) ?_; clear hI hd hnd
            refine wp_load_mid 29 (.tmp 3) rfl _ _ (by simpa [Act.eval, Array.getD_eq_getD_getElem?] using e0) _ _ hrange Tryz.underlying29 rfl hisize ?_
            exact kq hK hS rfl
          · intro _ A0 w2 hI hd hnd K hK; have e0 := hI.q hnd 9; exact hI.z1 hK (hI.r hd 10 140 true)
          · intro _ A0 w2 hI hd hnd K hK; have e0 := hI.q hnd 1; exact hI.z1 hK (hI.r hd 10 140 true)
          · intro _ A0 w2 hI hd hnd K hK; have e0 := hI.q hnd 7; exact hI.z1 hK (hI.r hd 10 140 true)
          · intro _ A0 w2 hI hd hnd K hK
            have hmi := HMI.out
            have e0 := hI.p hd 14 144; have e1 := hI.p hd 15 145; exact hI.z1 hK (hI.r hd 10 140 true)
          · intro _ A0 w2 hI hd hnd K hK; have e0 := hI.p hd 16 146; have hS := hI.world
            have hrange := HATX14.out w2 hS
            have hisize := info_entry; refine wanted_yes rfl (hI.r hd 10 140 true) ?_; clear hI hd hnd
            refine wp_load_mid 42 (.tmp 146) rfl _ _ (by simpa [Act.eval, Array.getD_eq_getD_getElem?] using e0) _ _ hrange Tryz.underlying42 rfl hisize ?_
            exact kq hK hS rfl
          · intro _ A0 w2 hI hd hnd K hK; have e0 := hI.p hd 12 142; have e1 := hI.p hd 13 143; have e2 := hI.p hd 17 147; have hS := hI.world; refine wanted_yes rfl (hI.r hd 10 140 true) ?_; clear hI hd hnd; go_simp
            go_at_call 22
            refine (HRP14.out w2 hS).mono ?_
            rintro e w3 ⟨rfl, h3⟩
            exact hK.out _ _ (hS.trans (h3.mono hS.size)) (Ks.of rfl rfl) (Ks.keep h3)
          · intro _ A0 w2 hI hd hnd K hK; have e0 := hI.p hd 11 141; have e1 := hI.p hd 18 148; exact hI.z1 hK (hI.r hd 10 140 true)
          · intro _ A0 w2 hI hd hnd K hK; have e0 := hI.p hd 10 140; have e1 := hI.p hd 19 149; exact hI.z hK
          · intro _ A0 w2 hI hd hnd K hK; have e0 := hI.p hd 20 150; exact hI.z hK
        · intro _ A0 w2 hI hall; have hS := hI.world; obtain ⟨x0, -, x1, -, x2, -, x3, -, x4, -, x5, -, x6, -, x7, -, x8, -, x9, -, x10, -, x11, -, x12, -, x13, -, x14, -, x15, -, x16, -, x17, -, x18, -, x19, -, x20, -, x21, h21, hA⟩ := hI.ch hall [130, 131, 132, 133, 134, 135, 136, 137, 138, 139, 140, 141, 142, 143, 144, 145, 146, 147, 148, 149, 150, 6]
          obtain rfl : x21 = .bool true := h21 _ rfl
          clear h21 hI hall
          simp only [Ch, setAll, List.foldl, List.setIfInBounds_toArray, List.set_cons_zero, List.set_cons_succ] at hA
          rw [hA]
          clear hA
          have hbe := HBW15.out w2 hS
          go_wp2_with fail
          go_ret
          exact ⟨rfl, hbe⟩
end Go.Proofs.YtebdajkknkapcaaGreat
