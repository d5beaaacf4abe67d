/- The accounts, the date and the sum of an entry. Written by gen_e5.py. -/
import Derived.Test.YtekelchdbkjjjaaG19xB0B3
import Derived.Test.YtekelchdbkjjjaaG19xB4B12
import Derived.Test.YtekelchdbkjjjaaG19xB13B14
import Derived.Test.YtekelchdbkjjjaaG19xB15S0
import Derived.Test.YtekelchdbkjjjaaG19xB21B27
import Derived.Test.YtekelchdbkjjjaaG19xB28S2
import Derived.Test.YtekelchdbkjjjaaG19xC4E3
import Derived.Test.YtekelchdbkjjjaaProg
import Derived.WideKeyEntry
import Derived.Maps.RangeWalk
import Derived.Maps.Views
import Derived.Sort.Grow
import Derived.Shelf.SlSortCmp.WholeK
import Derived.Shelf.SlSortCmp.NoneTotal
import Derived.IntWalk
set_option linter.unusedVariables false
set_option linter.unusedSimpArgs false
set_option maxRecDepth 4000
attribute [local go_sem ↓] Go.wp_at_zero Go.wp_at_succ
namespace Go.Proofs.Ytekelchdbkjjjaa
open Go Go.RowKit
theorem GroupC.view {w : World} {Q : Nat → Prop} {cs : List Value} {g : XGroup} (h : GroupC w Q cs g) : ∃ Ac cc Ae ce, cs.length = 21 ∧ cs[20]? = some (.slice Ae g.entities.length ce) ∧ cs[4]? = some (.slice Ac g.chart.length cc) ∧
 cs[1]? = some (.int .i64 g.calendar.year) ∧ cs[2]? = some (.int .i64 g.calendar.month) ∧ cs[3]? = some (.int .i64 g.calendar.periods) ∧ ListC AccountC 4 w Q [.slice Ac g.chart.length cc] g.chart ∧ ListC EntityC 5 w Q [.slice Ae g.entities.length ce] g.entities := by
 have hl := h.len
 obtain ⟨Ac, cc, Ae, ce, e, h1, h2, _⟩ := h.lit
 subst e
 exact ⟨Ac, cc, Ae, ce, hl, rfl, rfl, rfl, rfl, rfl, h1, h2⟩
def chartedB (ch : List XAccount) (ls : List XLine) : Bool := ls.all (fun l => (findA ch l.account).isSome)
theorem charted_no {ch : List XAccount} {ls : List XLine} {x : XLine} (hx : x ∈ ls) (h : (findA ch x.account).isSome = false) : chartedB ch ls = false := by
 unfold chartedB
 rw [List.all_eq_false]
 exact ⟨x, hx, by rw [h]; decide⟩
set_option maxHeartbeats 4000000 in
theorem charted_c (g : XGroup) (gl : List Value) (q : Nat) (xi xd xk xo : Int) (xt : ByteArray) (ls : List XLine) (Al : Option Addr) (cl : Nat) (w : World) (hg : GroupC w (· < w.heap.size) gl g) (hsm : smallG g) (hq : q < g.entities.length) (hl : ListC LineC 3 w (· < w.heap.size) [.slice Al ls.length cl] ls) (hls : ls.length ≤ 40) : Calls Try.prog 53 #[.agg gl.toArray, .agg #[.int .i64 xi, .int .i64 (q : Int), .int .i64 xd, .int .i64 xk, .int .i64 xo, .string xt, .slice Al ls.length cl]] w (Quiet w (.int .i64 (if chartedB g.entities[q].chart ls = true then 0 else 17))) := by
 obtain ⟨r, hr⟩ : ∃ r, chartedB g.entities[q].chart ls = r := ⟨_, rfl⟩
 rw [hr]
 obtain ⟨Ac, cc, Ae, ce, hl21, h20, _, _, _, _, _, hen⟩ := hg.view
 obtain ⟨be, oe, es, hAe, hbe, hes, hat⟩ := ListC.get hen q hq
 subst hAe
 obtain ⟨Ec, c2, Al2, cl2, hes1, hch, _⟩ := EntityC.lit hes
 have hn2 := (hsm.2.2.2 _ (List.getElem_mem hq)).1
 obtain ⟨ec, hec⟩ : ∃ ec, g.entities[q].chart = ec := ⟨_, rfl⟩
 rw [hec] at hr hes1 hch hn2
 obtain ⟨n2, hn2'⟩ : ∃ n, ec.length = n := ⟨_, rfl⟩
 rw [hn2'] at hes1
 subst hes1
 obtain ⟨ne, hne⟩ : ∃ n, g.entities.length = n := ⟨_, rfl⟩
 rw [hne] at h20 hq
 have hne1 : ne ≤ 1000 := by rw [← hne]; exact hsm.2.1
 have HR := Lib.hid hr
 have HN2 := Lib.hid hn2'
 have HN3 := Lib.hid hn2
 have HCH := Lib.hid hch
 have HDE := Lib.hid (hat.c (j := 2) rfl)
 have HBE := Lib.hid hbe
 have HL := Lib.hid hl
 obtain ⟨nl, hnl⟩ : ∃ n, ls.length = n := ⟨_, rfl⟩
 have HN := Lib.hid hnl
 have hn4 : nl ≤ 40 := by rw [← hnl]; exact hls
 rw [hnl]
 have HG20 := Lib.hid (show gl.toArray[20]? = some (.slice (some ⟨be, oe, none⟩) ne ce) by simpa using h20)
 have HGS := Lib.hid (show gl.toArray.size = 21 by simpa using hl21)
 clear hr hn2' hn2 hch hat hbe hl hnl h20 hl21 hen hes hne hec hls hsm hg
 obtain ⟨R, hR⟩ : ∃ R : Int, (if r = true then (0 : Int) else 17) = R := ⟨_, rfl⟩
 rw [hR]
 have HE := Lib.hid hR.symm
 clear hR
 go_enter Try.func53, Try.ntmps53
 go_upto_region 1 with fail
 have H := heap_alloc_new w (.cells gl.toArray 29)
 have HB := below1 w (.cells gl.toArray 29)
 have HS := blk_lt H
 generalize hW : w.alloc (Obj.cells gl.toArray 29) = W at *
 have H2 := heap_alloc_new W (.cells #[.int .i64 xi, .int .i64 (q : Int), .int .i64 xd, .int .i64 xk, .int .i64 xo, .string xt, .slice Al nl cl] 36)
 have HB2 := below1 W (.cells #[.int .i64 xi, .int .i64 (q : Int), .int .i64 xd, .int .i64 xk, .int .i64 xo, .string xt, .slice Al nl cl] 36)
 have HS2 := blk_lt H2
 replace H := alloc_keep H (Obj.cells #[.int .i64 xi, .int .i64 (q : Int), .int .i64 xd, .int .i64 xk, .int .i64 xo, .string xt, .slice Al nl cl] 36)
 generalize hW2 : W.alloc (Obj.cells #[.int .i64 xi, .int .i64 (q : Int), .int .i64 xd, .int .i64 xk, .int .i64 xo, .string xt, .slice Al nl cl] 36) = W2 at *
 clear hW2
 have eW : W.heap.size = w.heap.size + 1 := by rw [← hW]; simp
 rw [eW] at H2
 clear hW
 have hb2 := HB.trans (HB2.mono HB.size)
 have hs2 := HB2.size
 have LT1 := blk_lt H2
 have LT0 : w.heap.size < W2.heap.size := by omega
 have HH := Lib.hid H
 have HZ := Lib.hid H2
 have EW := Lib.hid eW
 clear H H2 eW
 have e6 := blk_cell HZ.out 6
 go_wp2_with fail
 clear e6
 go_loopw [12] (fun i wr => ∃ k : Nat, k ≤ nl ∧ i = .int .i64 (k : Int) ∧ Below W2.heap.size W2 wr ∧ ∀ j (hj : j < ls.length), j < k → (findA ec ls[j].account).isSome = true) (fun i _ => nl - (intOf i).toNat)
 case atStart => exact ⟨0, by omega, rfl, Below.refl _ _, fun j hj h => by omega⟩
 case round =>
  obtain ⟨k, hk', rfl, hb, hall⟩ := hrel
  have HA := Lib.hid hall
  clear hall
  by_cases hlt : k < nl
  case pos =>
   have hltI : (k : Int) < (nl : Int) := by omega
   have hkl : k < ls.length := by rw [HN.out]; exact hlt
   obtain ⟨b, o, es, hAe, hbw, hes, hat⟩ := ListC.get HL.out k hkl
   subst hAe
   have hes1 := (LineC.lit hes).1
   have hbd := (LineC.lit hes).2
   rw [hes1] at hat
   have HMEM := Lib.hid (List.getElem_mem hkl)
   obtain ⟨x, hx⟩ : ∃ x, ls[k] = x := ⟨_, rfl⟩
   rw [hx] at hat hbd HMEM
   have HX := Lib.hid hx
   obtain ⟨la, lm, lp⟩ := x
   try simp only at hat
   have HLA := Lib.hid (show intBd la from hbd.1)
   have hatw := (hat.fr (Fr.ofBelow hb2)).fr (Fr.ofBelow (hb.mono hb2.size))
   have hHr := (hb.block _ LT0).trans HH.out
   have hZr := (hb.block _ LT1).trans HZ.out
   have HV0r := Lib.hid (Nat.lt_of_lt_of_le LT0 hb.size)
   have HV1r := Lib.hid (Nat.lt_of_lt_of_le LT1 hb.size)
   have hbw0 := hb2.trans (hb.mono hb2.size)
   obtain ⟨ao, hao⟩ : ∃ a, accO (findA ec la) = a := ⟨_, rfl⟩
   obtain ⟨p1, p2, p3, p4⟩ := ao
   have HFO := Lib.hid hao
   obtain ⟨fs, hfs⟩ : ∃ s, (findA ec la).isSome = s := ⟨_, rfl⟩
   have HFS := Lib.hid hfs
   clear hao hfs
   have HAR := Lib.hid hatw.range
   have hDEr := (hbw0.cell (p := ⟨be, oe + q * 5 + 2, none⟩) HBE.out).trans HDE.out
   clear hes hes1 hat hatw hx hbd
   go_upto_region 4 with (show wpList _ _ _ (Oper.mk (some 15) _ _ _ _ _ :: _) _ _; refine wpList_load_mid rfl 49 (.tmp 14) rfl b (o + k * 3) rfl [.int .i64 la, .int .i64 lm, .int .i64 lp] _ HAR.out Try.underlying49 rfl info_line ?_)
   have H6 := heap_alloc_new wr (.cells #[.int .i64 la, .int .i64 lm, .int .i64 lp] 49)
   have HB6 := below1 wr (.cells #[.int .i64 la, .int .i64 lm, .int .i64 lp] 49)
   have HS6 := blk_lt H6
   generalize hW6 : wr.alloc (Obj.cells #[.int .i64 la, .int .i64 lm, .int .i64 lp] 49) = W6 at *
   clear hW6
   have C0 := Lib.hid (blk_cell H6 0)
   clear H6
   have HBW := Lib.hid (hbw0.trans (HB6.mono hbw0.size))
   have HV0 := Lib.hid (Nat.lt_of_lt_of_le HV0r.out HB6.size)
   have HV1 := Lib.hid (Nat.lt_of_lt_of_le HV1r.out HB6.size)
   have HVE := Lib.hid (show be < W6.heap.size by have := HBW.out.size; have := HBE.out; omega)
   have D20 := Lib.hid ((HB6.cell (p := ⟨w.heap.size, 20, none⟩) HV0r.out).trans ((blk_cell hHr 20).trans HG20.out))
   have D1 := Lib.hid ((HB6.cell (p := ⟨w.heap.size + 1, 1, none⟩) HV1r.out).trans (blk_cell hZr 1))
   have DE := Lib.hid ((HB6.cell (p := ⟨be, oe + q * 5 + 2, none⟩) (show be < wr.heap.size by have := hbw0.size; have := HBE.out; omega)).trans hDEr)
   have hb6 := hb.trans (HB6.mono hb.size)
   clear hHr hZr hDEr
   have hqI : (q : Int) < (ne : Int) := by omega
   cases fs with
   | false =>
    have hf := Lib.hid (show r = false from HR.out.symm.trans (charted_no HMEM.out HFS.out))
    refine wp_region_inv6 14 (fun i => i == 12) (Ks W6 [.val (.pointer (some ⟨w.heap.size, 20, none⟩)), .val (.slice (some ⟨be, oe, none⟩) ne ce), .val (.pointer (some ⟨(w.heap.size + 1), 1, none⟩)), .val (.int .i64 (q : Int)), .val (.pointer (some ⟨be, oe + q * 5, none⟩)), .val (.pointer (some ⟨be, oe + q * 5 + 2, none⟩)), .val (.slice Ec n2 c2), .val (.pointer (some ⟨wr.heap.size, 0, none⟩)), .val (.int .i64 la), .val (.tuple #[.agg #[.int .i64 p1, .int .i64 p2, .int .i64 p3, .int .i64 p4], .bool false]), .val (.tuple #[.agg #[.int .i64 p1, .int .i64 p2, .int .i64 p3, .int .i64 p4], .bool false]), .val (.agg #[.int .i64 p1, .int .i64 p2, .int .i64 p3, .int .i64 p4]), .val (.bool false), .own (IsNew W6 #[.int .i64 0, .int .i64 0, .int .i64 0, .int .i64 0] 72) (IsNew.keep _ _ _)])
     (fun w' => Below W6.heap.size W6 w') (Ks W6 [.val (.pointer (some ⟨w.heap.size, 20, none⟩)), .val (.slice (some ⟨be, oe, none⟩) ne ce), .val (.pointer (some ⟨(w.heap.size + 1), 1, none⟩)), .val (.int .i64 (q : Int)), .val (.pointer (some ⟨be, oe + q * 5, none⟩)), .val (.pointer (some ⟨be, oe + q * 5 + 2, none⟩)), .val (.slice Ec n2 c2), .val (.pointer (some ⟨wr.heap.size, 0, none⟩)), .val (.int .i64 la), .val (.tuple #[.agg #[.int .i64 p1, .int .i64 p2, .int .i64 p3, .int .i64 p4], .bool false]), .val (.tuple #[.agg #[.int .i64 p1, .int .i64 p2, .int .i64 p3, .int .i64 p4], .bool false]), .val (.agg #[.int .i64 p1, .int .i64 p2, .int .i64 p3, .int .i64 p4]), .val (.bool false), .own (IsNew W6 #[.int .i64 p1, .int .i64 p2, .int .i64 p3, .int .i64 p4] 72) (IsNew.keep _ _ _)])
     (fun w' => Below W6.heap.size W6 w') (by kernel_rfl) (by kernel_rfl) (by kernel_rfl) (by decide) (by kernel_rfl) (by kernel_rfl) (by kernel_rfl) (by kernel_rfl) rfl (by kernel_rfl) _ rfl rfl (Below.refl _ _).drew ?_ ?_ ?_ ?_
    · refine ⟨?_, ?_, ?_, ?_, ?_, ?_, ?_, ?_, ?_, ?_, ?_, ?_, ?_, ?_, trivial⟩
      · intro _ A0 w2 hI hd hnd K hK; have e0 := hI.q hnd 2; exact hI.z hK
      · intro _ A0 w2 hI hd hnd K hK; have e0 := hI.p hd 0 17; have hS := hI.world; have hcc : w2.cell? ⟨w.heap.size, 20, none⟩ = _ := (hS.cell (p := ⟨w.heap.size, 20, none⟩) HV0.out).trans D20.out; exact hI.z hK
      · intro _ A0 w2 hI hd hnd K hK; have e0 := hI.q hnd 3; exact hI.z hK
      · intro _ A0 w2 hI hd hnd K hK; have e0 := hI.p hd 2 19; have hS := hI.world; have hcc : w2.cell? ⟨(w.heap.size + 1), 1, none⟩ = _ := (hS.cell (p := ⟨(w.heap.size + 1), 1, none⟩) HV1.out).trans D1.out; exact hI.z hK
      · intro _ A0 w2 hI hd hnd K hK; have e0 := hI.p hd 1 18; have e1 := hI.p hd 3 20; exact hI.z hK
      · intro _ A0 w2 hI hd hnd K hK; have e0 := hI.p hd 4 21; exact hI.z hK
      · intro _ A0 w2 hI hd hnd K hK; have e0 := hI.p hd 5 22; have hS := hI.world; have hcc : w2.cell? ⟨be, oe + q * 5 + 2, none⟩ = _ := (hS.cell (p := ⟨be, oe + q * 5 + 2, none⟩) HVE.out).trans DE.out; exact hI.z hK
      · intro _ A0 w2 hI hd hnd K hK; have e0 := hI.q hnd 6; exact hI.z hK
      · intro _ A0 w2 hI hd hnd K hK; have e0 := hI.p hd 7 24; have hS := hI.world; have hcc : w2.cell? ⟨wr.heap.size, 0, none⟩ = _ := (hS.cell (p := ⟨wr.heap.size, 0, none⟩) HS6).trans C0.out; exact hI.z hK
      · intro _ A0 w2 hI hd hnd K hK; have e0 := hI.p hd 6 23; have e1 := hI.p hd 8 25; have hS := hI.world; refine wanted_go rfl ?_; clear hI hd hnd; go_simp
        go_at_call 26
        refine (find_n HN2.out (chart_keep HCH.out (HBW.out.trans (hS.mono HBW.out.size))) HN3.out la HLA.out HFO.out HFS.out).mono ?_
        rintro e w3 ⟨rfl, h3⟩
        exact hK.out _ _ (hS.trans (h3.mono hS.size)) (Ks.of rfl rfl) (Ks.keep h3)
      · intro _ A0 w2 hI hd hnd K hK; have e0 := hI.p hd 9 26; exact hI.z hK
      iterate 2 (· intro _ A0 w2 hI hd hnd K hK; have e0 := hI.p hd 10 16; exact hI.z hK)
      · intro _ A0 w2 hI hd hnd K hK; have hS := hI.world; refine wanted_go rfl ?_; clear hI hd hnd; go_simp
        exact hK.out _ _ (hS.alloc hS.size _) (Ks.of rfl (IsNew.made hS.size _ _)) (Ks.keep (below1 w2 _))
    · intro _ A0 w2 hI hall K hK
      obtain ⟨xp, gp, hp⟩ := hI.got 13 _ 7 rfl rfl (hall 13 (by decide) rfl)
      obtain ⟨xv, gv, hv⟩ := hI.got 11 _ 27 rfl rfl (hall 11 (by decide) rfl)
      obtain ⟨g, rfl, hg1, hg2⟩ := hp _ rfl
      obtain rfl : xv = .agg #[.int .i64 p1, .int .i64 p2, .int .i64 p3, .int .i64 p4] := hv _ rfl
      have hS := hI.world; refine wanted_go rfl ?_
      refine wp_store_row 72 (.tmp 7) (.tmp 27) rfl g #[.int .i64 p1, .int .i64 p2, .int .i64 p3, .int .i64 p4] (by simp [Act.eval, Array.getD_eq_getD_getElem?, gp]) (by simp [Act.eval, Array.getD_eq_getD_getElem?, gv]) 72 #[.int .i64 0, .int .i64 0, .int .i64 0, .int .i64 0] hg2 (info_accS ⟨p1, p2, p3, p4⟩) rfl (by simp [Value.oneCell']) ?_
      refine hK _ (below_setRow hS hg1 _) ?_
      intro i o d u hi ho hd hu hV
      refine Ks.store (p := 13) (kn := _) rfl hV (fun hip => ?_)
      subst hip
      obtain rfl : _ = o := Option.some.inj ho
      obtain rfl : _ = d := Option.some.inj hd
      obtain rfl : _ = u := Option.some.inj (gp.symm.trans hu)
      exact ⟨g, rfl, hg1, heap_setRow hg2 _⟩
    · refine ⟨fun h => absurd h (by decide), fun h => absurd h (by decide), fun h => absurd h (by decide), fun h => absurd h (by decide), fun h => absurd h (by decide), fun h => absurd h (by decide), fun h => absurd h (by decide), fun h => absurd h (by decide), fun h => absurd h (by decide), fun h => absurd h (by decide), fun h => absurd h (by decide), fun h => absurd h (by decide), ?_, fun h => absurd h (by decide), fun h => absurd h (by decide), trivial⟩
      · intro _; intro _ A0 w2 hI hd hnd K hK; have e0 := hI.p hd 10 16; exact hI.z hK
    · intro A0 w2 hI
      obtain ⟨x0, g0, h0⟩ := hI.got 0 _ 17 rfl rfl rfl
      obtain ⟨x1, g1, h1⟩ := hI.got 1 _ 18 rfl rfl rfl
      obtain ⟨x2, g2, h2⟩ := hI.got 2 _ 19 rfl rfl rfl
      obtain ⟨x3, g3, h3⟩ := hI.got 3 _ 20 rfl rfl rfl
      obtain ⟨x4, g4, h4⟩ := hI.got 4 _ 21 rfl rfl rfl
      obtain ⟨x5, g5, h5⟩ := hI.got 5 _ 22 rfl rfl rfl
      obtain ⟨x6, g6, h6⟩ := hI.got 6 _ 23 rfl rfl rfl
      obtain ⟨x7, g7, h7⟩ := hI.got 7 _ 24 rfl rfl rfl
      obtain ⟨x8, g8, h8⟩ := hI.got 8 _ 25 rfl rfl rfl
      obtain ⟨x9, g9, h9⟩ := hI.got 9 _ 26 rfl rfl rfl
      obtain ⟨x10, g10, h10⟩ := hI.got 10 _ 16 rfl rfl rfl
      obtain ⟨x11, g11, h11⟩ := hI.got 11 _ 27 rfl rfl rfl
      obtain ⟨x12, g12, h12⟩ := hI.got 12 _ 28 rfl rfl rfl
      obtain ⟨x13, g13, h13⟩ := hI.got 13 _ 7 rfl rfl rfl
      have hS := hI.world
      obtain ⟨y8, o8⟩ : ∃ v, A0.tmps[8]? = some v := ⟨_, hI.oldHead 8 (by kernel_rfl)⟩
      have hA : A0 = _ := hI.tmps [(17, x0), (18, x1), (19, x2), (20, x3), (21, x4), (22, x5), (23, x6), (24, x7), (25, x8), (26, x9), (16, x10), (27, x11), (28, x12), (7, x13), (8, y8)] (by simp only [List.mem_cons, List.not_mem_nil, or_false, forall_eq_or_imp, forall_eq]; exact ⟨g0, g1, g2, g3, g4, g5, g6, g7, g8, g9, g10, g11, g12, g13, o8⟩) (by kernel_rfl)
      obtain rfl : x11 = .agg #[.int .i64 p1, .int .i64 p2, .int .i64 p3, .int .i64 p4] := h11 _ rfl
      obtain rfl : x12 = .bool false := h12 _ rfl
      obtain ⟨g, rfl, hg1, hg2⟩ := h13 _ rfl
      clear h0 g0 h1 g1 h2 g2 h3 g3 h4 g4 h5 g5 h6 g6 h7 g7 h8 g8 h9 g9 h10 g10 h11 g11 h12 g12 h13 g13 o8 hI
      simp only [setAll, List.foldl, List.setIfInBounds_toArray, List.set_cons_zero, List.set_cons_succ] at hA
      rw [hA]
      clear hA
      simp only [List.drop_succ_cons, List.drop_zero]
      have hwE := hb2.trans ((hb6.trans (hS.mono hb6.size)).mono hb2.size)
      clear hg2
      go_wp2_with fail
      go_ret
      exact ⟨by rw [HE.out, hf.out]; first | done | rfl, hwE⟩
   | true =>
    refine wp_region_inv6 14 (fun i => i == 12) (Ks W6 [.val (.pointer (some ⟨w.heap.size, 20, none⟩)), .val (.slice (some ⟨be, oe, none⟩) ne ce), .val (.pointer (some ⟨(w.heap.size + 1), 1, none⟩)), .val (.int .i64 (q : Int)), .val (.pointer (some ⟨be, oe + q * 5, none⟩)), .val (.pointer (some ⟨be, oe + q * 5 + 2, none⟩)), .val (.slice Ec n2 c2), .val (.pointer (some ⟨wr.heap.size, 0, none⟩)), .val (.int .i64 la), .val (.tuple #[.agg #[.int .i64 p1, .int .i64 p2, .int .i64 p3, .int .i64 p4], .bool true]), .val (.tuple #[.agg #[.int .i64 p1, .int .i64 p2, .int .i64 p3, .int .i64 p4], .bool true]), .val (.agg #[.int .i64 p1, .int .i64 p2, .int .i64 p3, .int .i64 p4]), .val (.bool true), .own (IsNew W6 #[.int .i64 0, .int .i64 0, .int .i64 0, .int .i64 0] 72) (IsNew.keep _ _ _)])
     (fun w' => Below W6.heap.size W6 w') (Ks W6 [.val (.pointer (some ⟨w.heap.size, 20, none⟩)), .val (.slice (some ⟨be, oe, none⟩) ne ce), .val (.pointer (some ⟨(w.heap.size + 1), 1, none⟩)), .val (.int .i64 (q : Int)), .val (.pointer (some ⟨be, oe + q * 5, none⟩)), .val (.pointer (some ⟨be, oe + q * 5 + 2, none⟩)), .val (.slice Ec n2 c2), .val (.pointer (some ⟨wr.heap.size, 0, none⟩)), .val (.int .i64 la), .val (.tuple #[.agg #[.int .i64 p1, .int .i64 p2, .int .i64 p3, .int .i64 p4], .bool true]), .val (.tuple #[.agg #[.int .i64 p1, .int .i64 p2, .int .i64 p3, .int .i64 p4], .bool true]), .val (.agg #[.int .i64 p1, .int .i64 p2, .int .i64 p3, .int .i64 p4]), .val (.bool true), .own (IsNew W6 #[.int .i64 p1, .int .i64 p2, .int .i64 p3, .int .i64 p4] 72) (IsNew.keep _ _ _)])
     (fun w' => Below W6.heap.size W6 w') (by kernel_rfl) (by kernel_rfl) (by kernel_rfl) (by decide) (by kernel_rfl) (by kernel_rfl) (by kernel_rfl) (by kernel_rfl) rfl (by kernel_rfl) _ rfl rfl (Below.refl _ _).drew ?_ ?_ ?_ ?_
    · refine ⟨?_, ?_, ?_, ?_, ?_, ?_, ?_, ?_, ?_, ?_, ?_, ?_, ?_, ?_, trivial⟩
      · intro _ A0 w2 hI hd hnd K hK; have e0 := hI.q hnd 2; exact hI.z hK
      · intro _ A0 w2 hI hd hnd K hK; have e0 := hI.p hd 0 17; have hS := hI.world; have hcc : w2.cell? ⟨w.heap.size, 20, none⟩ = _ := (hS.cell (p := ⟨w.heap.size, 20, none⟩) HV0.out).trans D20.out; exact hI.z hK
      · intro _ A0 w2 hI hd hnd K hK; have e0 := hI.q hnd 3; exact hI.z hK
      · intro _ A0 w2 hI hd hnd K hK; have e0 := hI.p hd 2 19; have hS := hI.world; have hcc : w2.cell? ⟨(w.heap.size + 1), 1, none⟩ = _ := (hS.cell (p := ⟨(w.heap.size + 1), 1, none⟩) HV1.out).trans D1.out; exact hI.z hK
      · intro _ A0 w2 hI hd hnd K hK; have e0 := hI.p hd 1 18; have e1 := hI.p hd 3 20; exact hI.z hK
      · intro _ A0 w2 hI hd hnd K hK; have e0 := hI.p hd 4 21; exact hI.z hK
      · intro _ A0 w2 hI hd hnd K hK; have e0 := hI.p hd 5 22; have hS := hI.world; have hcc : w2.cell? ⟨be, oe + q * 5 + 2, none⟩ = _ := (hS.cell (p := ⟨be, oe + q * 5 + 2, none⟩) HVE.out).trans DE.out; exact hI.z hK
      · intro _ A0 w2 hI hd hnd K hK; have e0 := hI.q hnd 6; exact hI.z hK
      · intro _ A0 w2 hI hd hnd K hK; have e0 := hI.p hd 7 24; have hS := hI.world; have hcc : w2.cell? ⟨wr.heap.size, 0, none⟩ = _ := (hS.cell (p := ⟨wr.heap.size, 0, none⟩) HS6).trans C0.out; exact hI.z hK
      · intro _ A0 w2 hI hd hnd K hK; have e0 := hI.p hd 6 23; have e1 := hI.p hd 8 25; have hS := hI.world; refine wanted_go rfl ?_; clear hI hd hnd; go_simp
        go_at_call 26
        refine (find_n HN2.out (chart_keep HCH.out (HBW.out.trans (hS.mono HBW.out.size))) HN3.out la HLA.out HFO.out HFS.out).mono ?_
        rintro e w3 ⟨rfl, h3⟩
        exact hK.out _ _ (hS.trans (h3.mono hS.size)) (Ks.of rfl rfl) (Ks.keep h3)
      · intro _ A0 w2 hI hd hnd K hK; have e0 := hI.p hd 9 26; exact hI.z hK
      iterate 2 (· intro _ A0 w2 hI hd hnd K hK; have e0 := hI.p hd 10 16; exact hI.z hK)
      · intro _ A0 w2 hI hd hnd K hK; have hS := hI.world; refine wanted_go rfl ?_; clear hI hd hnd; go_simp
        exact hK.out _ _ (hS.alloc hS.size _) (Ks.of rfl (IsNew.made hS.size _ _)) (Ks.keep (below1 w2 _))
    · intro _ A0 w2 hI hall K hK
      obtain ⟨xp, gp, hp⟩ := hI.got 13 _ 7 rfl rfl (hall 13 (by decide) rfl)
      obtain ⟨xv, gv, hv⟩ := hI.got 11 _ 27 rfl rfl (hall 11 (by decide) rfl)
      obtain ⟨g, rfl, hg1, hg2⟩ := hp _ rfl
      obtain rfl : xv = .agg #[.int .i64 p1, .int .i64 p2, .int .i64 p3, .int .i64 p4] := hv _ rfl
      have hS := hI.world; refine wanted_go rfl ?_
      refine wp_store_row 72 (.tmp 7) (.tmp 27) rfl g #[.int .i64 p1, .int .i64 p2, .int .i64 p3, .int .i64 p4] (by simp [Act.eval, Array.getD_eq_getD_getElem?, gp]) (by simp [Act.eval, Array.getD_eq_getD_getElem?, gv]) 72 #[.int .i64 0, .int .i64 0, .int .i64 0, .int .i64 0] hg2 (info_accS ⟨p1, p2, p3, p4⟩) rfl (by simp [Value.oneCell']) ?_
      refine hK _ (below_setRow hS hg1 _) ?_
      intro i o d u hi ho hd hu hV
      refine Ks.store (p := 13) (kn := _) rfl hV (fun hip => ?_)
      subst hip
      obtain rfl : _ = o := Option.some.inj ho
      obtain rfl : _ = d := Option.some.inj hd
      obtain rfl : _ = u := Option.some.inj (gp.symm.trans hu)
      exact ⟨g, rfl, hg1, heap_setRow hg2 _⟩
    · refine ⟨fun h => absurd h (by decide), fun h => absurd h (by decide), fun h => absurd h (by decide), fun h => absurd h (by decide), fun h => absurd h (by decide), fun h => absurd h (by decide), fun h => absurd h (by decide), fun h => absurd h (by decide), fun h => absurd h (by decide), fun h => absurd h (by decide), fun h => absurd h (by decide), fun h => absurd h (by decide), ?_, fun h => absurd h (by decide), fun h => absurd h (by decide), trivial⟩
      · intro _; intro _ A0 w2 hI hd hnd K hK; have e0 := hI.p hd 10 16; exact hI.z hK
    · intro A0 w2 hI
      obtain ⟨x0, g0, h0⟩ := hI.got 0 _ 17 rfl rfl rfl
      obtain ⟨x1, g1, h1⟩ := hI.got 1 _ 18 rfl rfl rfl
      obtain ⟨x2, g2, h2⟩ := hI.got 2 _ 19 rfl rfl rfl
      obtain ⟨x3, g3, h3⟩ := hI.got 3 _ 20 rfl rfl rfl
      obtain ⟨x4, g4, h4⟩ := hI.got 4 _ 21 rfl rfl rfl
      obtain ⟨x5, g5, h5⟩ := hI.got 5 _ 22 rfl rfl rfl
      obtain ⟨x6, g6, h6⟩ := hI.got 6 _ 23 rfl rfl rfl
      obtain ⟨x7, g7, h7⟩ := hI.got 7 _ 24 rfl rfl rfl
      obtain ⟨x8, g8, h8⟩ := hI.got 8 _ 25 rfl rfl rfl
      obtain ⟨x9, g9, h9⟩ := hI.got 9 _ 26 rfl rfl rfl
      obtain ⟨x10, g10, h10⟩ := hI.got 10 _ 16 rfl rfl rfl
      obtain ⟨x11, g11, h11⟩ := hI.got 11 _ 27 rfl rfl rfl
      obtain ⟨x12, g12, h12⟩ := hI.got 12 _ 28 rfl rfl rfl
      obtain ⟨x13, g13, h13⟩ := hI.got 13 _ 7 rfl rfl rfl
      have hS := hI.world
      obtain ⟨y8, o8⟩ : ∃ v, A0.tmps[8]? = some v := ⟨_, hI.oldHead 8 (by kernel_rfl)⟩
      have hA : A0 = _ := hI.tmps [(17, x0), (18, x1), (19, x2), (20, x3), (21, x4), (22, x5), (23, x6), (24, x7), (25, x8), (26, x9), (16, x10), (27, x11), (28, x12), (7, x13), (8, y8)] (by simp only [List.mem_cons, List.not_mem_nil, or_false, forall_eq_or_imp, forall_eq]; exact ⟨g0, g1, g2, g3, g4, g5, g6, g7, g8, g9, g10, g11, g12, g13, o8⟩) (by kernel_rfl)
      obtain rfl : x11 = .agg #[.int .i64 p1, .int .i64 p2, .int .i64 p3, .int .i64 p4] := h11 _ rfl
      obtain rfl : x12 = .bool true := h12 _ rfl
      obtain ⟨g, rfl, hg1, hg2⟩ := h13 _ rfl
      clear h0 g0 h1 g1 h2 g2 h3 g3 h4 g4 h5 g5 h6 g6 h7 g7 h8 g8 h9 g9 h10 g10 h11 g11 h12 g12 h13 g13 o8 hI
      simp only [setAll, List.foldl, List.setIfInBounds_toArray, List.set_cons_zero, List.set_cons_succ] at hA
      rw [hA]
      clear hA
      simp only [List.drop_succ_cons, List.drop_zero]
      have hwE := hb6.trans (hS.mono hb6.size)
      clear hg2
      go_wp2_with fail
      go_roundw
      case rel => exact ⟨k + 1, by omega, by go_num, hwE, fun j hj hjk => by
       rcases Nat.lt_or_ge j k with h | h
       · exact HA.out j hj h
       · have : j = k := by omega
         subst this
         rw [HX.out]
         exact HFS.out⟩
      case measure => first | exact meas_v hlt | (simp only [intOf]; omega)
  case neg =>
   have hltI : ¬ (k : Int) < (nl : Int) := by omega
   have hf := Lib.hid (show r = true from HR.out.symm.trans (by
    unfold chartedB
    rw [List.all_eq_true]
    intro x hx
    obtain ⟨j, hj, rfl⟩ := List.getElem_of_mem hx
    exact HA.out j hj (by have := HN.out; omega)))
   go_wp2_with fail
   go_ret
   exact ⟨by rw [HE.out, hf.out]; first | done | rfl, hb2.trans (hb.mono hb2.size)⟩
theorem cal_range {w : World} {b : Nat} {gl : List Value} {T : TypeId} {y m n : Int} (h : w.heap[b]? = some (.cells gl.toArray T (0, 0))) (e1 : gl[1]? = some (.int .i64 y)) (e2 : gl[2]? = some (.int .i64 m)) (e3 : gl[3]? = some (.int .i64 n)) : w.rangeAt b 1 [.int .i64 y, .int .i64 m, .int .i64 n] := fun j v hj => by
 match j, hj with
 | 0, hj => rw [blk_cell h]; simp at hj; subst hj; simpa using e1
 | 1, hj => rw [blk_cell h]; simp at hj; subst hj; simpa using e2
 | 2, hj => rw [blk_cell h]; simp at hj; subst hj; simpa using e3
 | j + 3, hj => simp at hj
theorem lines_keep {w w' : World} {cs : List Value} {l : List XLine} (h : ListC LineC 3 w (· < w.heap.size) cs l) (hb : Below w.heap.size w w') : ListC LineC 3 w' (· < w'.heap.size) cs l :=
 (h.fr (fun h => LineC.fr h (Fr.ofBelow hb)) (Fr.ofBelow hb)).mono (fun h => LineC.mono h (fun k hk => by have := hb.size; omega)) (fun k hk => by have := hb.size; omega)
theorem EntryC.lit {w : World} {Q : Nat → Prop} {cs : List Value} {x : XEntry} (h : EntryC w Q cs x) : ∃ Al cl, cs = [.int .i64 x.id, .int .i64 x.entity, .int .i64 x.date, .int .i64 x.kind, .int .i64 x.of_, .string x.text, .slice Al x.lines.length cl] ∧ (intBd x.id ∧ intBd x.entity ∧ intBd x.date ∧ intBd x.kind ∧ intBd x.of_) ∧ ListC LineC 3 w Q [.slice Al x.lines.length cl] x.lines := by
 obtain ⟨c0, c1, c2, c3, c4, c5, c6, rfl, ⟨rfl, h0⟩, ⟨rfl, h1⟩, ⟨rfl, h2⟩, ⟨rfl, h3⟩, ⟨rfl, h4⟩, h5, h6⟩ := h
 have e5 : c5 = _ := h5
 subst e5
 obtain ⟨A, c, e, _⟩ := h6.form
 subst e
 exact ⟨A, c, rfl, ⟨h0, h1, h2, h3, h4⟩, h6⟩
theorem group_v {g : XGroup} {gl : List Value} {w : World} (hg : GroupC w (· < w.heap.size) gl g) (hsm : smallG g) : ∀ w2 : World, Below w.heap.size w w2 → Calls Try.prog 38 #[.agg gl.toArray] w2 (Quiet w2 (.bool (groupB g))) := fun w2 hb => by
 rw [← groupP_eq]
 exact group_c g gl w2 (hg.keep hb) hsm
theorem formed_pre {gv : Bool} {ne : Int} {x : XEntry} (h : formB gv ne x = true) : preL x.lines := by
 have h' := (formB_iff _ _ _).1 h
 have hl := h'.2.2.2.2.2.2.2.2.2.2
 refine smallL.pre ⟨fun l hm => ?_, by omega⟩
 have := ((lineB_iff _ _ _).1 (hl.2 l hm)).2.1
 have := of_decide_eq_true this
 omega
theorem formed_cal {g : XGroup} {ne : Int} {x : XEntry} (h : formB (groupB g) ne x = true) : calB g.calendar.year g.calendar.month g.calendar.periods = true := by
 have h' := ((formB_iff _ _ _).1 h).1
 cases hc : calB g.calendar.year g.calendar.month g.calendar.periods with
 | true => rfl
 | false =>
  unfold groupB at h'
  simp [hc] at h'
def checkE (g : XGroup) (x : XEntry) : Int :=
 if formB (groupB g) g.entities.length x = true then (if chartedB (g.entities.getD x.entity.toNat {}).chart x.lines = true then (if inCalB g.calendar.year g.calendar.month g.calendar.periods x.date = true then (if sumL x.lines = 0 then 0 else 11) else 2) else 17) else 1
set_option maxHeartbeats 1000000 in
theorem dated_c (gl : List Value) (y m n : Int) (xi xe xd xk xo : Int) (xt : ByteArray) (nl : Nat) (Al : Option Addr) (cl : Nat) (w : World) (h1 : gl[1]? = some (.int .i64 y)) (h2 : gl[2]? = some (.int .i64 m)) (h3 : gl[3]? = some (.int .i64 n)) (hc : calB y m n = true) (hd : intBd xd) : Calls Try.prog 54 #[.agg gl.toArray, .agg #[.int .i64 xi, .int .i64 xe, .int .i64 xd, .int .i64 xk, .int .i64 xo, .string xt, .slice Al nl cl]] w (Quiet w (.int .i64 (if inCalB y m n xd = true then 0 else 2))) := by
 obtain ⟨R, hR⟩ : ∃ R : Int, (if inCalB y m n xd = true then (0 : Int) else 2) = R := ⟨_, rfl⟩
 have HPI := Lib.hid ((per_in (d := xd) hc).trans hR)
 have HPC := Lib.hid (fun w2 : World => period_c y m n xd w2 hc hd)
 have h0 := Lib.hid (show R = 0 ∨ R = 2 by rw [← hR]; split <;> simp)
 rw [hR]
 obtain ⟨⟨pp, pe⟩, hpe⟩ : ∃ p, calPer y m n xd = p := ⟨_, rfl⟩
 rw [hpe] at HPI HPC
 have HG1 := Lib.hid h1
 have HG2 := Lib.hid h2
 have HG3 := Lib.hid h3
 clear h1 h2 h3 hc hd hR hpe
 go_enter Try.func54, Try.ntmps54
 go_upto_region 1 with fail
 have H := heap_alloc_new w (.cells gl.toArray 29)
 have HB := below1 w (.cells gl.toArray 29)
 have HS := blk_lt H
 generalize hW : w.alloc (Obj.cells gl.toArray 29) = W at *
 have H2 := heap_alloc_new W (.cells #[.int .i64 xi, .int .i64 xe, .int .i64 xd, .int .i64 xk, .int .i64 xo, .string xt, .slice Al nl cl] 36)
 have HB2 := below1 W (.cells #[.int .i64 xi, .int .i64 xe, .int .i64 xd, .int .i64 xk, .int .i64 xo, .string xt, .slice Al nl cl] 36)
 have HS2 := blk_lt H2
 replace H := alloc_keep H (Obj.cells #[.int .i64 xi, .int .i64 xe, .int .i64 xd, .int .i64 xk, .int .i64 xo, .string xt, .slice Al nl cl] 36)
 generalize hW2 : W.alloc (Obj.cells #[.int .i64 xi, .int .i64 xe, .int .i64 xd, .int .i64 xk, .int .i64 xo, .string xt, .slice Al nl cl] 36) = W2 at *
 clear hW2
 have eW : W.heap.size = w.heap.size + 1 := by rw [← hW]; simp
 rw [eW] at H2
 clear hW
 have hb2 := HB.trans (HB2.mono HB.size)
 have hs2 := HB2.size
 have LT1 := blk_lt H2
 have LT0 : w.heap.size < W2.heap.size := by omega
 have HH := Lib.hid H
 have HZ := Lib.hid H2
 have EW := Lib.hid eW
 clear H H2 eW
 have HCR := Lib.hid (cal_range HH.out HG1.out HG2.out HG3.out)
 have e2 := blk_cell HZ.out 2
 go_wp2_with (show wpList _ _ _ (Oper.mk (some 9) _ _ _ _ _ :: _) _ _; refine wpList_load_mid rfl 23 (.tmp 8) rfl w.heap.size 1 rfl [.int .i64 y, .int .i64 m, .int .i64 n] _ HCR.out Try.underlying23 rfl info_cal ?_)
 refine (HPC.out W2).mono ?_
 rintro e w3 ⟨rfl, hb3⟩
 have hb03 := hb2.trans (hb3.mono hb2.size)
 clear e2
 by_cases hz : pe = 0
 case pos =>
  subst hz
  have hf := Lib.hid (show R = 0 by exact HPI.out.symm)
  go_wp2_with fail
  go_ret
  exact ⟨by rw [hf.out]; first | done | rfl, hb03⟩
 case neg =>
  have hz1 : (pe != 0) = true := by simpa using hz
  have hz2 : ¬ (pe = 0) := hz
  have HP2 := Lib.hid (show R = 2 by
   have h := HPI.out
   try simp only at h
   have hR2 := h0.out
   rcases hR2 with h' | h'
   · exact absurd (h.trans h') hz
   · exact h')
  clear hz hz2
  have hf := Lib.hid (show R = 2 by exact HP2.out)
  go_wp2_with fail
  go_ret
  exact ⟨by rw [hf.out]; first | done | rfl, hb03⟩
set_option maxHeartbeats 1000000 in
theorem balanced_c (gl : List Value) (xi xe xd xk xo : Int) (xt : ByteArray) (ls : List XLine) (Al : Option Addr) (cl : Nat) (w : World) (hl : ListC LineC 3 w (· < w.heap.size) [.slice Al ls.length cl] ls) (hp : preL ls) : Calls Try.prog 55 #[.agg gl.toArray, .agg #[.int .i64 xi, .int .i64 xe, .int .i64 xd, .int .i64 xk, .int .i64 xo, .string xt, .slice Al ls.length cl]] w (Quiet w (.int .i64 (if sumL ls = 0 then 0 else 11))) := by
 have HSC := Lib.hid (fun (w2 : World) (hb : Below w.heap.size w w2) => sumL_c ls Al cl w2 (lines_keep hl hb) hp)
 obtain ⟨S, hS⟩ : ∃ S, sumL ls = S := ⟨_, rfl⟩
 rw [hS] at HSC ⊢
 obtain ⟨nl, hnl⟩ : ∃ n, ls.length = n := ⟨_, rfl⟩
 rw [hnl] at HSC ⊢
 obtain ⟨R, hR⟩ : ∃ R : Int, (if S = 0 then (0 : Int) else 11) = R := ⟨_, rfl⟩
 rw [hR]
 have HR := Lib.hid hR
 clear hS hnl hl hp hR
 go_enter Try.func55, Try.ntmps55
 go_upto_region 1 with fail
 have H := heap_alloc_new w (.cells gl.toArray 29)
 have HB := below1 w (.cells gl.toArray 29)
 have HS := blk_lt H
 generalize hW : w.alloc (Obj.cells gl.toArray 29) = W at *
 have H2 := heap_alloc_new W (.cells #[.int .i64 xi, .int .i64 xe, .int .i64 xd, .int .i64 xk, .int .i64 xo, .string xt, .slice Al nl cl] 36)
 have HB2 := below1 W (.cells #[.int .i64 xi, .int .i64 xe, .int .i64 xd, .int .i64 xk, .int .i64 xo, .string xt, .slice Al nl cl] 36)
 have HS2 := blk_lt H2
 replace H := alloc_keep H (Obj.cells #[.int .i64 xi, .int .i64 xe, .int .i64 xd, .int .i64 xk, .int .i64 xo, .string xt, .slice Al nl cl] 36)
 generalize hW2 : W.alloc (Obj.cells #[.int .i64 xi, .int .i64 xe, .int .i64 xd, .int .i64 xk, .int .i64 xo, .string xt, .slice Al nl cl] 36) = W2 at *
 clear hW2
 have eW : W.heap.size = w.heap.size + 1 := by rw [← hW]; simp
 rw [eW] at H2
 clear hW
 have hb2 := HB.trans (HB2.mono HB.size)
 have hs2 := HB2.size
 have LT1 := blk_lt H2
 have LT0 : w.heap.size < W2.heap.size := by omega
 have HH := Lib.hid H
 have HZ := Lib.hid H2
 have EW := Lib.hid eW
 clear H H2 eW
 have e6 := blk_cell HZ.out 6
 go_wp2_with fail
 refine (HSC.out W2 hb2).mono ?_
 rintro e w3 ⟨rfl, hb3⟩
 have hb03 := hb2.trans (hb3.mono hb2.size)
 clear e6
 by_cases hz : S = 0
 case pos =>
  have hf := Lib.hid (show R = 0 by rw [← HR.out, if_pos hz])
  have hz1 : (S != 0) = false := by simpa using hz
  clear hz
  go_wp2_with fail
  go_ret
  exact ⟨by rw [hf.out]; first | done | rfl, hb03⟩
 case neg =>
  have hz1 : (S != 0) = true := by simpa using hz
  have hf := Lib.hid (show R = 11 by rw [← HR.out, if_neg hz])
  clear hz
  go_wp2_with fail
  go_ret
  exact ⟨by rw [hf.out]; first | done | rfl, hb03⟩
set_option maxRecDepth 100000 in
theorem run_fns (w : World) : Sem.run Try.prog (Instr.index 107 (.agg #[.func (Fn.func 52) #[] #[], .func (Fn.func 53) #[] #[], .func (Fn.func 54) #[] #[], .func (Fn.func 55) #[] #[]]) (.int .i64 0)) w = .ok (.func (Fn.func 52) #[] #[]) w ∧ Sem.run Try.prog (Instr.index 107 (.agg #[.func (Fn.func 52) #[] #[], .func (Fn.func 53) #[] #[], .func (Fn.func 54) #[] #[], .func (Fn.func 55) #[] #[]]) (.int .i64 1)) w = .ok (.func (Fn.func 53) #[] #[]) w ∧ Sem.run Try.prog (Instr.index 107 (.agg #[.func (Fn.func 52) #[] #[], .func (Fn.func 53) #[] #[], .func (Fn.func 54) #[] #[], .func (Fn.func 55) #[] #[]]) (.int .i64 2)) w = .ok (.func (Fn.func 54) #[] #[]) w ∧ Sem.run Try.prog (Instr.index 107 (.agg #[.func (Fn.func 52) #[] #[], .func (Fn.func 53) #[] #[], .func (Fn.func 54) #[] #[], .func (Fn.func 55) #[] #[]]) (.int .i64 3)) w = .ok (.func (Fn.func 55) #[] #[]) w := ⟨rfl, rfl, rfl, rfl⟩
theorem checkE_1 {g : XGroup} {x : XEntry} (h : formB (groupB g) g.entities.length x = false) : checkE g x = 1 := by unfold checkE; rw [if_neg (by rw [h]; decide)]
theorem checkE_2 {g : XGroup} {x : XEntry} (h : formB (groupB g) g.entities.length x = true) (h2 : chartedB (g.entities.getD x.entity.toNat {}).chart x.lines = false) : checkE g x = 17 := by unfold checkE; rw [if_pos h, if_neg (by rw [h2]; decide)]
theorem checkE_3 {g : XGroup} {x : XEntry} (h : formB (groupB g) g.entities.length x = true) (h2 : chartedB (g.entities.getD x.entity.toNat {}).chart x.lines = true) (h3 : inCalB g.calendar.year g.calendar.month g.calendar.periods x.date = false) : checkE g x = 2 := by unfold checkE; rw [if_pos h, if_pos h2, if_neg (by rw [h3]; decide)]
theorem checkE_4 {g : XGroup} {x : XEntry} (h : formB (groupB g) g.entities.length x = true) (h2 : chartedB (g.entities.getD x.entity.toNat {}).chart x.lines = true) (h3 : inCalB g.calendar.year g.calendar.month g.calendar.periods x.date = true) : checkE g x = if sumL x.lines = 0 then 0 else 11 := by unfold checkE; rw [if_pos h, if_pos h2, if_pos h3]
theorem form_v {g : XGroup} {x : XEntry} {gl ex : List Value} {w : World} (hg : GroupC w (· < w.heap.size) gl g) (hsm : smallG g) (hx : EntryC w (· < w.heap.size) ex x) (hts : x.text.size ≤ 140737488355327) (w2 : World) (hb : Below w.heap.size w w2) : Calls Try.prog 52 #[.agg gl.toArray, .agg ex.toArray] w2 (Quiet w2 (.int .i64 (if formB (groupB g) g.entities.length x = true then 0 else 1))) := by
 obtain ⟨Al, cl, rfl, hbd, hl⟩ := (EntryC.keep hx hb).lit
 obtain ⟨Ac, cc, Ae, ce, hl21, h20, _⟩ := (GroupC.keep hg hb).view
 exact formed_c gl.toArray Ae g.entities.length ce (groupB g) _ _ _ _ _ _ x.lines Al cl w2 (by simpa using hl21) (by simpa using h20) hsm.2.1 (group_v (hg.keep hb) hsm) hbd hts hl
theorem chart_v {g : XGroup} {x : XEntry} {gl ex : List Value} {w : World} (hg : GroupC w (· < w.heap.size) gl g) (hsm : smallG g) (hx : EntryC w (· < w.heap.size) ex x) (hf : formB (groupB g) g.entities.length x = true) (w2 : World) (hb : Below w.heap.size w w2) : Calls Try.prog 53 #[.agg gl.toArray, .agg ex.toArray] w2 (Quiet w2 (.int .i64 (if chartedB (g.entities.getD x.entity.toNat {}).chart x.lines = true then 0 else 17))) := by
 obtain ⟨Al, cl, rfl, hbd, hl⟩ := (EntryC.keep hx hb).lit
 have h' := (formB_iff _ _ _).1 hf
 have hq : x.entity.toNat < g.entities.length := by have := h'.2.2.1; have := h'.2.2.2.1; omega
 have hqe : x.entity = (x.entity.toNat : Int) := by have := h'.2.2.1; omega
 have := charted_c g gl x.entity.toNat x.id x.date x.kind x.of_ x.text x.lines Al cl w2 (hg.keep hb) hsm hq hl h'.2.2.2.2.2.2.2.2.2.2.1
 rw [← hqe] at this
 rw [List.getD_eq_getElem?_getD, List.getElem?_eq_getElem hq, Option.getD_some]
 exact this
theorem date_v {g : XGroup} {x : XEntry} {gl ex : List Value} {w : World} (hg : GroupC w (· < w.heap.size) gl g) (hx : EntryC w (· < w.heap.size) ex x) (hf : formB (groupB g) g.entities.length x = true) (w2 : World) (hb : Below w.heap.size w w2) : Calls Try.prog 54 #[.agg gl.toArray, .agg ex.toArray] w2 (Quiet w2 (.int .i64 (if inCalB g.calendar.year g.calendar.month g.calendar.periods x.date = true then 0 else 2))) := by
 obtain ⟨Al, cl, rfl, hbd, hl⟩ := (EntryC.keep hx hb).lit
 obtain ⟨Ac, cc, Ae, ce, hl21, h20, h4, h1, h2, h3, _⟩ := (GroupC.keep hg hb).view
 exact dated_c gl _ _ _ _ _ _ _ _ _ _ Al cl w2 h1 h2 h3 (formed_cal hf) hbd.2.2.1
theorem bal_v {g : XGroup} {x : XEntry} {gl ex : List Value} {w : World} (hx : EntryC w (· < w.heap.size) ex x) (hf : formB (groupB g) g.entities.length x = true) (w2 : World) (hb : Below w.heap.size w w2) : Calls Try.prog 55 #[.agg gl.toArray, .agg ex.toArray] w2 (Quiet w2 (.int .i64 (if sumL x.lines = 0 then 0 else 11))) := by
 obtain ⟨Al, cl, rfl, hbd, hl⟩ := (EntryC.keep hx hb).lit
 exact balanced_c gl _ _ _ _ _ _ x.lines Al cl w2 hl (formed_pre hf)
set_option maxHeartbeats 4000000 in
theorem check_c (g : XGroup) (x : XEntry) (gl ex : List Value) (w : World) (hg : GroupC w (· < w.heap.size) gl g) (hsm : smallG g) (hx : EntryC w (· < w.heap.size) ex x) (hts : x.text.size ≤ 140737488355327) : Calls Try.prog 40 #[.agg gl.toArray, .agg ex.toArray] w (Quiet w (.int .i64 (checkE g x))) := by
 obtain ⟨r, hr⟩ : ∃ r, checkE g x = r := ⟨_, rfl⟩
 rw [hr]
 have HR := Lib.hid hr
 have H1 := Lib.hid (form_v hg hsm hx hts)
 have HH2 := Lib.hid (fun hf => chart_v hg hsm hx hf)
 have H3 := Lib.hid (fun hf => date_v hg hx hf)
 have H4 := Lib.hid (fun hf => bal_v (g := g) (gl := gl) hx hf)
 obtain ⟨f1, hf1⟩ : ∃ b, formB (groupB g) g.entities.length x = b := ⟨_, rfl⟩
 obtain ⟨f2, hf2⟩ : ∃ b, chartedB (g.entities.getD x.entity.toNat {}).chart x.lines = b := ⟨_, rfl⟩
 obtain ⟨f3, hf3⟩ : ∃ b, inCalB g.calendar.year g.calendar.month g.calendar.periods x.date = b := ⟨_, rfl⟩
 have HF1 := Lib.hid hf1
 have HF2 := Lib.hid hf2
 have HF3 := Lib.hid hf3
 obtain ⟨S, hS⟩ : ∃ S, sumL x.lines = S := ⟨_, rfl⟩
 have HSS := Lib.hid hS
 rw [hf1] at H1 HH2 H3 H4
 rw [hf2] at HH2
 rw [hf3] at H3
 rw [hS] at H4
 have hgl : gl.toArray.size = 21 := by have := hg.len; simpa using this
 have hel : ex.toArray.size = 7 := by have := hx.len; simpa using this
 obtain ⟨G, hG⟩ : ∃ G, gl.toArray = G := ⟨_, rfl⟩
 obtain ⟨E, hE⟩ : ∃ E, ex.toArray = E := ⟨_, rfl⟩
 rw [hG] at H1 HH2 H3 H4 hgl ⊢
 rw [hE] at H1 HH2 H3 H4 hel ⊢
 have HGS := Lib.hid hgl
 have HES := Lib.hid hel
 clear hr hg hsm hx hts hf1 hf2 hf3 hS hgl hel hG hE
 go_enter Try.func40, Try.ntmps40
 go_upto_region 1 with fail
 have H := heap_alloc_new w (.cells G 29)
 have HB := below1 w (.cells G 29)
 have HS := blk_lt H
 generalize hW : w.alloc (Obj.cells G 29) = W at *
 have HZZ := heap_alloc_new W (.cells E 36)
 have HB2 := below1 W (.cells E 36)
 have HS2 := blk_lt HZZ
 replace H := alloc_keep H (Obj.cells E 36)
 generalize hW2 : W.alloc (Obj.cells E 36) = W2 at *
 clear hW2
 have eW : W.heap.size = w.heap.size + 1 := by rw [← hW]; simp
 rw [eW] at HZZ
 clear hW
 have hb2 := HB.trans (HB2.mono HB.size)
 have hs2 := HB2.size
 have LT1 := blk_lt HZZ
 have LT0 : w.heap.size < W2.heap.size := by omega
 have HHG := Lib.hid H
 have HZ := Lib.hid HZZ
 have EW := Lib.hid eW
 clear H HZZ eW
 have HHR := Lib.hid (fun (b : Bool) (h : b = true) => h)
 go_wp2_with fail
 go_loopw [9] (fun i wr => ∃ q : Int, i = .int .i64 q ∧ 0 ≤ q ∧ q ≤ 4 ∧ Below W2.heap.size W2 wr ∧ (1 ≤ q → f1 = true) ∧ (2 ≤ q → f2 = true) ∧ (3 ≤ q → f3 = true) ∧ (4 ≤ q → S = 0)) (fun i _ => (4 - intOf i).toNat)
 case atStart => exact ⟨0, rfl, by omega, by omega, Below.refl _ _, by omega, by omega, by omega, by omega⟩
 case round =>
  obtain ⟨q, rfl, hq0, hq4, hb, k1, k2, k3, k4⟩ := hrel
  have K1 := Lib.hid k1
  have K2 := Lib.hid k2
  have K3 := Lib.hid k3
  have K4 := Lib.hid k4
  clear k1 k2 k3 k4
  have hbw := hb2.trans (hb.mono hb2.size)
  have HGr := Lib.hid ((hb.block _ LT0).trans HHG.out)
  have HEr := Lib.hid ((hb.block _ LT1).trans HZ.out)
  by_cases hlt : q < 4
  case neg =>
   have hf := Lib.hid (show r = 0 by rw [← HR.out, checkE_4 (HF1.out.trans (K1.out (by omega))) (HF2.out.trans (K2.out (by omega))) (HF3.out.trans (K3.out (by omega))), HSS.out, if_pos (K4.out (by omega))])
   go_wp2_with fail
   go_ret
   exact ⟨by rw [hf.out]; first | done | rfl, hbw⟩
  case pos =>
  obtain rfl | rfl | rfl | rfl : q = 0 ∨ q = 1 ∨ q = 2 ∨ q = 3 := by omega
  case inl =>
   have hcall := H1.out wr hbw
   have hix := (run_fns wr).1
   go_wp2_with (first | (show wpList _ _ _ (Oper.mk (some 13) _ _ _ _ _ :: _) _ _; refine wpList_load_row_g rfl 29 (.tmp 2) rfl (w.heap.size) rfl _ _ _ _ HGr.out Try.underlying29 rfl (by rw [info_group]; exact congrArg some HGS.out.symm) ?_) | (show wpList _ _ _ (Oper.mk (some 14) _ _ _ _ _ :: _) _ _; refine wpList_load_row_g rfl 36 (.tmp 3) rfl (w.heap.size + 1) rfl _ _ _ _ HEr.out Try.underlying36 rfl (by rw [info_entry]; exact congrArg some HES.out.symm) ?_))
   refine hcall.mono ?_
   clear hcall hix
   rintro e w3 ⟨rfl, hb3⟩
   have hwE := hbw.trans (hb3.mono hbw.size)
   have hbE := hb.trans (hb3.mono hb.size)
   by_cases hz : f1 = true
   case neg =>
    have hf := Lib.hid (show r = 1 by rw [← HR.out]; exact checkE_1 (HF1.out.trans (by cases f1 with | false => rfl | true => exact absurd rfl hz)))
    rw [if_neg hz]
    clear hz
    go_wp2_with fail
    go_ret
    exact ⟨by rw [hf.out]; first | done | rfl, hwE⟩
   case pos =>
    rw [if_pos hz]
    have HZK := Lib.hid hz
    clear hz
    go_wp2_with fail
    go_roundw
    case rel => exact ⟨1, rfl, by omega, by omega, hbE, fun _ => HZK.out, by omega, by omega, by omega⟩
    case measure => simp only [intOf]; omega
  case inr.inl =>
   have hcall := HH2.out (K1.out (by omega)) wr hbw
   have hix := (run_fns wr).2.1
   go_wp2_with (first | (show wpList _ _ _ (Oper.mk (some 13) _ _ _ _ _ :: _) _ _; refine wpList_load_row_g rfl 29 (.tmp 2) rfl (w.heap.size) rfl _ _ _ _ HGr.out Try.underlying29 rfl (by rw [info_group]; exact congrArg some HGS.out.symm) ?_) | (show wpList _ _ _ (Oper.mk (some 14) _ _ _ _ _ :: _) _ _; refine wpList_load_row_g rfl 36 (.tmp 3) rfl (w.heap.size + 1) rfl _ _ _ _ HEr.out Try.underlying36 rfl (by rw [info_entry]; exact congrArg some HES.out.symm) ?_))
   refine hcall.mono ?_
   clear hcall hix
   rintro e w3 ⟨rfl, hb3⟩
   have hwE := hbw.trans (hb3.mono hbw.size)
   have hbE := hb.trans (hb3.mono hb.size)
   by_cases hz : f2 = true
   case neg =>
    have hf := Lib.hid (show r = 17 by rw [← HR.out]; exact checkE_2 (HF1.out.trans (K1.out (by omega))) (HF2.out.trans (by cases f2 with | false => rfl | true => exact absurd rfl hz)))
    rw [if_neg hz]
    clear hz
    go_wp2_with fail
    go_ret
    exact ⟨by rw [hf.out]; first | done | rfl, hwE⟩
   case pos =>
    rw [if_pos hz]
    have HZK := Lib.hid hz
    clear hz
    go_wp2_with fail
    go_roundw
    case rel => exact ⟨2, rfl, by omega, by omega, hbE, fun _ => K1.out (by omega), fun _ => HZK.out, by omega, by omega⟩
    case measure => simp only [intOf]; omega
  case inr.inr.inl =>
   have hcall := H3.out (K1.out (by omega)) wr hbw
   have hix := (run_fns wr).2.2.1
   go_wp2_with (first | (show wpList _ _ _ (Oper.mk (some 13) _ _ _ _ _ :: _) _ _; refine wpList_load_row_g rfl 29 (.tmp 2) rfl (w.heap.size) rfl _ _ _ _ HGr.out Try.underlying29 rfl (by rw [info_group]; exact congrArg some HGS.out.symm) ?_) | (show wpList _ _ _ (Oper.mk (some 14) _ _ _ _ _ :: _) _ _; refine wpList_load_row_g rfl 36 (.tmp 3) rfl (w.heap.size + 1) rfl _ _ _ _ HEr.out Try.underlying36 rfl (by rw [info_entry]; exact congrArg some HES.out.symm) ?_))
   refine hcall.mono ?_
   clear hcall hix
   rintro e w3 ⟨rfl, hb3⟩
   have hwE := hbw.trans (hb3.mono hbw.size)
   have hbE := hb.trans (hb3.mono hb.size)
   by_cases hz : f3 = true
   case neg =>
    have hf := Lib.hid (show r = 2 by rw [← HR.out]; exact checkE_3 (HF1.out.trans (K1.out (by omega))) (HF2.out.trans (K2.out (by omega))) (HF3.out.trans (by cases f3 with | false => rfl | true => exact absurd rfl hz)))
    rw [if_neg hz]
    clear hz
    go_wp2_with fail
    go_ret
    exact ⟨by rw [hf.out]; first | done | rfl, hwE⟩
   case pos =>
    rw [if_pos hz]
    have HZK := Lib.hid hz
    clear hz
    go_wp2_with fail
    go_roundw
    case rel => exact ⟨3, rfl, by omega, by omega, hbE, fun _ => K1.out (by omega), fun _ => K2.out (by omega), fun _ => HZK.out, by omega⟩
    case measure => simp only [intOf]; omega
  case inr.inr.inr =>
   have hcall := H4.out (K1.out (by omega)) wr hbw
   have hix := (run_fns wr).2.2.2
   go_wp2_with (first | (show wpList _ _ _ (Oper.mk (some 13) _ _ _ _ _ :: _) _ _; refine wpList_load_row_g rfl 29 (.tmp 2) rfl (w.heap.size) rfl _ _ _ _ HGr.out Try.underlying29 rfl (by rw [info_group]; exact congrArg some HGS.out.symm) ?_) | (show wpList _ _ _ (Oper.mk (some 14) _ _ _ _ _ :: _) _ _; refine wpList_load_row_g rfl 36 (.tmp 3) rfl (w.heap.size + 1) rfl _ _ _ _ HEr.out Try.underlying36 rfl (by rw [info_entry]; exact congrArg some HES.out.symm) ?_))
   refine hcall.mono ?_
   clear hcall hix
   rintro e w3 ⟨rfl, hb3⟩
   have hwE := hbw.trans (hb3.mono hbw.size)
   have hbE := hb.trans (hb3.mono hb.size)
   by_cases hz : S = 0
   case neg =>
    have hf := Lib.hid (show r = 11 by rw [← HR.out, checkE_4 (HF1.out.trans (K1.out (by omega))) (HF2.out.trans (K2.out (by omega))) (HF3.out.trans (K3.out (by omega))), HSS.out]; exact if_neg hz)
    rw [if_neg hz]
    clear hz
    go_wp2_with fail
    go_ret
    exact ⟨by rw [hf.out]; first | done | rfl, hwE⟩
   case pos =>
    rw [if_pos hz]
    have HZK := Lib.hid hz
    clear hz
    go_wp2_with fail
    go_roundw
    case rel => exact ⟨4, rfl, by omega, by omega, hbE, fun _ => K1.out (by omega), fun _ => K2.out (by omega), fun _ => K3.out (by omega), fun _ => HZK.out⟩
    case measure => simp only [intOf]; omega
theorem few_v {g : XGroup} {gl : List Value} {w w2 : World} (hg : GroupC w (· < w.heap.size) gl g) (hsz : szG g) (hb : Below w.heap.size w w2) : Calls Try.prog 14 #[.agg gl.toArray] w2 (If (fewG g) w2) := few_c g gl w2 (hg.keep hb) hsz
end Go.Proofs.Ytekelchdbkjjjaa
namespace Go.Proofs.Ytekelchdbkjjjaa
open Go Go.RowKit Go.ChangeShapes Go.WideShapes Go.MapKept Go.ChangeMaps
open Go.WideElems (Fit rd rg pl rd_key findIdx_born findIdx_arr modify_last set_self)
open Go.Maps (Keyed)
theorem key_uniq {l : List MapEntry} (hn : (l.map (·.key)).Nodup) {i j : Nat} {a c : MapEntry} (hi : l[i]? = some a) (hj : l[j]? = some c) (h : a.key = c.key) : i = j := by
 obtain ⟨hi1, hi2⟩ := List.getElem?_eq_some_iff.1 hi
 obtain ⟨hj1, hj2⟩ := List.getElem?_eq_some_iff.1 hj
 rcases Nat.lt_trichotomy i j with h' | h' | h'
 · exfalso
   have hp := List.pairwise_iff_getElem.1 hn i j (by simpa using hi1) (by simpa using hj1) h'
   simp only [List.getElem_map] at hp
   rw [hi2, hj2] at hp
   exact hp h
 · exact h'
 · exfalso
   have hp := List.pairwise_iff_getElem.1 hn j i (by simpa using hj1) (by simpa using hi1) h'
   simp only [List.getElem_map] at hp
   rw [hi2, hj2] at hp
   exact hp h.symm
section
variable {H : Type} {P : Program} {w : World} {t k e : TypeId} {R : Value → Option (DataW H × List MemPlace)} {b : Nat} {es : Array MapEntry} {clock : Nat}
theorem op_assign (K : Keyed P k) (ht : P.underlying t = some (.map k e)) {z : Value} (hz : ∀ u : World, (zeroValue e).run P u = .ok z u) (hb : w.heap[b]? = some (.map es clock)) (F : Fit P k R es clock)
 {key : Value} {kl : Lit} (hkey : keyOf P k key = some kl) :
 ∃ (v0 : Value) (st : Nat) (es1 : Array MapEntry) (clock1 : Nat),
  (∀ u : World, (u.heap[b]? = some (.map es clock) ∨ u.heap[b]? = some (.map es1 clock1)) → (Instr.lookup t (.map (some b)) key false).run P u = .ok v0 u ∧ (Instr.mapEntry t (.map (some b)) key).run P u = .ok (.tuple #[v0, goInt st]) (setBlock u b (.map es1 clock1))) ∧
  ∀ val : Value, ∃ es' clock', (∀ u : World, u.heap[b]? = some (.map es1 clock1) → (Instr.entryStore t (.map (some b)) (goInt st) val).run P u = .ok () (setBlock u b (.map es' clock'))) ∧
   (Instr.mapUpdate t (.map (some b)) key val).run P w = .ok () (setBlock w b (.map es' clock')) := by
 obtain ⟨s1, s2, _⟩ := F.stamped
 rcases K.find w hkey es.toList F.keys with ⟨h1, h2⟩ | ⟨j, e0, h1, h2, h3⟩
 · have hself : (es.push ⟨key, z, clock⟩).modify es.size (fun e => { e with key := key }) = es.push ⟨key, z, clock⟩ := by
    apply Array.ext'
    rw [Array.toList_modify, Array.toList_push, ← Array.length_toList, modify_last]
   have hks : ∀ x ∈ (es.push (⟨key, z, clock⟩ : MapEntry)).toList, ∃ l, keyOf P k x.key = some l := fun x hx => by
    simp only [Array.toList_push, List.mem_append, List.mem_singleton] at hx
    rcases hx with hx | rfl
    · exact F.keys x hx
    · exact ⟨kl, hkey⟩
   refine ⟨z, clock, es.push ⟨key, z, clock⟩, clock + 1, fun u hu => ?_, fun val => ⟨es.push ⟨key, val, clock⟩, clock + 1, fun u hu => ?_, ?_⟩⟩
   · rcases hu with hu | hu
     · have h1u : (Instr.findKey k key es.toList).run P u = .ok none u := by
        rcases K.find u hkey es.toList F.keys with ⟨g1, _⟩ | ⟨j, e0, _, g2, g3⟩
        · exact g1
        · exact absurd g3 (h2 e0 (List.mem_of_getElem? g2))
       exact ⟨by simp [Instr.lookup, run_underlying ht, MapKept.run_getObj_map hu, K.check u _ hkey, h1u, hz, Result.andThen],
        by simp [Instr.mapEntry, run_underlying ht, MapKept.run_getObj_map hu, K.check u false hkey, h1u, hz, MapKept.run_setObj_map _ hu, Result.andThen, setBlock]⟩
     · rcases K.find u hkey (es.push (⟨key, z, clock⟩ : MapEntry)).toList hks with ⟨_, g2⟩ | ⟨j, e0, g1, g2, g3⟩
       · exact absurd rfl (g2 ⟨key, z, clock⟩ (by simp))
       · have hj : j = es.size ∧ e0 = ⟨key, z, clock⟩ := by
          rw [Array.toList_push] at g2
          rcases Nat.lt_or_ge j es.toList.length with hl | hl
          · rw [List.getElem?_append_left hl] at g2
            exact absurd g3 (h2 e0 (List.mem_of_getElem? g2))
          · rw [List.getElem?_append_right hl] at g2
            have hl1 := (List.getElem?_eq_some_iff.1 g2).1
            simp only [List.length_singleton] at hl1
            have h0 : j - es.toList.length = 0 := by omega
            rw [h0] at g2
            simp only [List.getElem?_cons_zero, Option.some.injEq] at g2
            exact ⟨by rw [Array.length_toList] at hl h0; omega, g2.symm⟩
         obtain ⟨rfl, rfl⟩ := hj
         simp only [Array.toList_push] at g1
         exact ⟨by simp [Instr.lookup, run_underlying ht, MapKept.run_getObj_map hu, K.check u _ hkey, g1, Result.andThen],
          by simp [Instr.mapEntry, run_underlying ht, MapKept.run_getObj_map hu, K.check u false hkey, g1, K.stays u hkey, hself, MapKept.run_setObj_map _ hu, Result.andThen, setBlock]⟩
   · have hidx : (es.push ⟨key, z, clock⟩).findIdx? (fun e => ((e.born : Nat) : Int) == ((clock : Nat) : Int)) = some es.size := by
      rw [findIdx_arr]
      exact findIdx_born (l := (es.push ⟨key, z, clock⟩).toList) (j := es.size) (e0 := ⟨key, z, clock⟩) (by
       simp only [Array.toList_push, List.map_append, List.map_cons, List.map_nil]
       refine List.nodup_append.2 ⟨s2, by simp, fun a ha c hc e1 => ?_⟩
       simp only [List.mem_singleton] at hc
       obtain ⟨x, hx, rfl⟩ := List.mem_map.1 ha
       have := s1 x hx
       omega) (by simp)
     have hmod : (es.push ⟨key, z, clock⟩).modify es.size (fun e => { e with val := val }) = es.push ⟨key, val, clock⟩ := by
      apply Array.ext'
      rw [Array.toList_modify, Array.toList_push, Array.toList_push, ← Array.length_toList, modify_last]
     simp [Instr.entryStore, MapKept.run_getObj_map hu, asInt, asIntOf, goInt, hidx, hmod, MapKept.run_setObj_map _ hu, Result.andThen, setBlock]
   · simp [Instr.mapUpdate, run_underlying ht, MapKept.run_getObj_map hb, K.check w false hkey, h1, MapKept.run_setObj_map _ hb, Result.andThen, setBlock]
 · have hj : es[j]? = some e0 := by simpa using h2
   have hsame : es.modify j (fun e => { e with key := key }) = es := by
    apply Array.ext'
    rw [Array.toList_modify, modify_eq_set _ _ _ _ h2]
    have : ({ e0 with key := key } : MapEntry) = e0 := by rw [← h3]
    rw [this]
    exact set_self _ _ _ h2
   have hu1 : ∀ u : World, (Instr.findKey k key es.toList).run P u = .ok (some (j, e0.val)) u := fun u => by
    rcases K.find u hkey es.toList F.keys with ⟨_, g2⟩ | ⟨j', e', g1, g2, g3⟩
    · exact absurd h3 (g2 e0 (List.mem_of_getElem? h2))
    · have hne : j' = j := key_uniq F.stamped.2.2 g2 h2 (g3.trans h3.symm)
      subst hne
      rw [h2] at g2
      cases g2
      exact g1
   refine ⟨e0.val, e0.born, es, clock, fun u hu => ?_, fun val => ⟨es.modify j (fun e' => { e' with key := key, val := val }), clock, fun u hu => ?_, ?_⟩⟩
   · have hu : u.heap[b]? = some (.map es clock) := hu.elim id id
     exact ⟨by simp [Instr.lookup, run_underlying ht, MapKept.run_getObj_map hu, K.check u _ hkey, hu1, Result.andThen],
      by simp [Instr.mapEntry, run_underlying ht, MapKept.run_getObj_map hu, K.check u false hkey, hu1, hj, h3, K.stays u hkey, hsame, MapKept.run_setObj_map _ hu, Result.andThen, setBlock]⟩
   · have hidx : es.findIdx? (fun e => ((e.born : Nat) : Int) == ((e0.born : Nat) : Int)) = some j := by
      rw [findIdx_arr]
      exact findIdx_born s2 h2
     have hmod : es.modify j (fun e => { e with val := val }) = es.modify j (fun e' => { e' with key := key, val := val }) := by
      apply Array.ext'
      rw [Array.toList_modify, Array.toList_modify, modify_eq_set _ _ _ _ h2, modify_eq_set _ _ _ _ h2, ← h3]
     simp [Instr.entryStore, MapKept.run_getObj_map hu, asInt, asIntOf, goInt, hidx, hmod, MapKept.run_setObj_map _ hu, Result.andThen, setBlock]
   · simp [Instr.mapUpdate, run_underlying ht, MapKept.run_getObj_map hb, K.check w false hkey, h1, hj, h3, K.stays w hkey, MapKept.run_setObj_map _ hb, Result.andThen, setBlock]
end
end Go.Proofs.Ytekelchdbkjjjaa
namespace Go.Proofs.Ytekelchdbkjjjaa
open Go Go.RowKit Go.ChangeMaps
open Go.Maps (Keyed)
open Go.WideMaps (KeyLaw)
def MapN {α : Type} (P : Program) (k e : TypeId) (κ : α → Lit) (w : World) (b n : Nat) (f : α → Int) : Prop :=
 ∃ D : UD, w.ownsMap P k (plainElem P e) b n D ∧ ∀ c, D.atKey (κ c) (.lit (.int .i64 0)) = .lit (.int .i64 (f c))
section
variable {α : Type} {P : Program} {k e t : TypeId} {κ : α → Lit} {w w' : World} {b n : Nat} {f : α → Int}
theorem MapN.made (P : Program) (k e : TypeId) (κ : α → Lit) (w : World) : MapN P k e κ (w.alloc (.map #[] 0)) w.heap.size 0 (fun _ => 0) :=
 ⟨_, World.ownsMap_made w P k _, fun _ => rfl⟩
theorem MapN.kept {row : Option Nat} (h : MapN P k e κ w b n f) (hg : w.grownBy w' row) (hne : some b ≠ row) : MapN P k e κ w' b n f := by
 obtain ⟨D, h1, h2⟩ := h
 exact ⟨D, h1.kept hg hne, h2⟩
theorem MapN.lt (h : MapN P k e κ w b n f) : b < w.heap.size := by
 obtain ⟨D, h1, h2⟩ := h
 exact h1.lt
theorem MapN.same (h : MapN P k e κ w b n f) (hb : w'.heap[b]? = w.heap[b]?) : MapN P k e κ w' b n f := by
 obtain ⟨D, ⟨es, clock, h1, h3, h4, h5⟩, h2⟩ := h
 exact ⟨D, ⟨es, clock, hb.trans h1, h3, h4, h5⟩, h2⟩
theorem MapN.fr {Q : Nat → Prop} (h : MapN P k e κ w b n f) (hf : Fr Q w w') (hb : Q b) : MapN P k e κ w' b n f := h.same (hf.block b hb)
theorem MapN.below (h : MapN P k e κ w b n f) (hb : Below w.heap.size w w') : MapN P k e κ w' b n f := h.fr (Fr.ofBelow hb) h.lt
theorem MapN.mono (h : MapN P k e κ w b n f) {n' : Nat} (hn : n ≤ n') : MapN P k e κ w b n' f := by
 obtain ⟨D, h1, h2⟩ := h
 exact ⟨D, h1.mono hn, h2⟩
theorem MapN.eqv {g : α → Int} (h : MapN P k e κ w b n f) (hg : ∀ c, f c = g c) : MapN P k e κ w b n g := by
 obtain ⟨D, h1, h2⟩ := h
 exact ⟨D, h1, fun c => by rw [h2 c, hg c]⟩
theorem setBlock_at {w : World} {b : Nat} {o : Obj} (h : b < w.heap.size) : (setBlock w b o).heap[b]? = some o := by
 simp [setBlock, h]
theorem MapN.assign [DecidableEq α] (h : MapN P k e κ w b n f) (K : Keyed P k) (ht : P.underlying t = some (.map k e)) (he : P.underlying e = some (.int .i64)) (hz : ∀ u : World, (zeroValue e).run P u = .ok (.int .i64 0) u) (hn : n < maxLen) (hκ : ∀ x y, κ x = κ y → x = y) (hl : ∀ x, WideAt.IsKeyLit (κ x))
 {key : Value} {c : α} (hkey : keyOf P k key = some (κ c)) :
 ∃ (st : Nat) (es : Array MapEntry) (clock : Nat) (es1 : Array MapEntry) (clock1 : Nat), w.heap[b]? = some (.map es clock) ∧
  (∀ u : World, (u.heap[b]? = some (.map es clock) ∨ u.heap[b]? = some (.map es1 clock1)) → (Instr.lookup t (.map (some b)) key false).run P u = .ok (.int .i64 (f c)) u ∧ (Instr.mapEntry t (.map (some b)) key).run P u = .ok (.tuple #[.int .i64 (f c), goInt st]) (setBlock u b (.map es1 clock1))) ∧
  ∀ x : Int, (Lit.int .i64 x).wf = true → ∃ es' clock', (∀ u : World, u.heap[b]? = some (.map es1 clock1) → (Instr.entryStore t (.map (some b)) (goInt st) (.int .i64 x)).run P u = .ok () (setBlock u b (.map es' clock'))) ∧
   ∀ u : World, b < u.heap.size → MapN P k e κ (setBlock u b (.map es' clock')) b (n + 1) (fun d => if d = c then x else f d) := by
 obtain ⟨D, h1, h2⟩ := h
 have h1' := h1
 obtain ⟨es, clock, hb, F, hs, hD⟩ := h1'
 obtain ⟨v0, st, es1, clock1, hA, hB⟩ := op_assign K ht hz hb F hkey
 obtain ⟨a, hrun, hat, _⟩ := h1.lookup_int K ht he (hz w) hkey
 have hv : v0 = .int .i64 (f c) := by
  have e1 := (hA w (Or.inl hb)).1
  rw [hrun] at e1
  have e2 := h2 c
  rw [hat] at e2
  simp only [DataW.lit.injEq, Lit.int.injEq, true_and] at e2
  rw [← e2]
  simpa using e1.symm
 subst hv
 refine ⟨st, es, clock, es1, clock1, hb, hA, fun x hx => ?_⟩
 obtain ⟨es', clock', hS, hU⟩ := hB (.int .i64 x)
 refine ⟨es', clock', hS, fun u hu => ?_⟩
 obtain ⟨w2, hrun2, h3, h4⟩ := h1.update K ht hn hkey (plainElem_int he hx)
 rw [hU] at hrun2
 have hw2 : setBlock w b (.map es' clock') = w2 := by simpa using hrun2
 subst hw2
 have hm : Maps.IsMap D := ⟨_, hD⟩
 have hlt := h1.lt
 have hmap : MapN P k e κ (setBlock w b (.map es' clock')) b (n + 1) (fun d => if d = c then x else f d) := ⟨_, h3, fun d => by
  by_cases hd : d = c
  · subst hd
    rw [Maps.atKey_put_same hm (hl d)]; simp
  · rw [Maps.atKey_put_other (fun e => hd (hκ _ _ e)), h2 d]; simp [hd]⟩
 exact hmap.same (by rw [setBlock_at hlt, setBlock_at hu])
end
theorem int_zero (w : World) : (zeroValue 3).run Try.prog w = .ok (.int .i64 0) w := by kernel_rfl
end Go.Proofs.Ytekelchdbkjjjaa
namespace Go.Proofs.Ytekelchdbkjjjaa
def isAt (a p : Int) (x : XLine) : Bool := x.account == a && x.partner == p
def sumAt (l : List XLine) (a p : Int) : Int := sumL (l.filter (isAt a p))
def ltL (x y : XLine) : Prop := x.account < y.account ∨ (x.account = y.account ∧ x.partner < y.partner)
def IsNorm (l out : List XLine) : Prop := out.Pairwise ltL ∧ ∀ x : XLine, x ∈ out ↔ (x.amount = sumAt l x.account x.partner ∧ x.amount ≠ 0)
theorem ltL_irrefl (x : XLine) : ¬ ltL x x := fun h => by rcases h with h | ⟨_, h⟩ <;> omega
theorem ltL_asymm {x y : XLine} (h : ltL x y) : ¬ ltL y x := fun h' => by rcases h with h | ⟨h, h2⟩ <;> rcases h' with h' | ⟨h', h2'⟩ <;> omega
theorem rising_uniq : ∀ {a b : List XLine}, a.Pairwise ltL → b.Pairwise ltL → (∀ x, x ∈ a ↔ x ∈ b) → a = b
 | [], b, _, _, h => by
  cases b with
  | nil => rfl
  | cons y b => exact absurd ((h y).2 List.mem_cons_self) (by simp)
 | x :: a, b, ha, hb, h => by
  cases b with
  | nil => exact absurd ((h x).1 List.mem_cons_self) (by simp)
  | cons y b =>
   rw [List.pairwise_cons] at ha hb
   have hxy : x = y := by
    rcases List.mem_cons.1 ((h x).1 List.mem_cons_self) with e | h1
    · exact e
    · rcases List.mem_cons.1 ((h y).2 List.mem_cons_self) with e | h2
      · exact e.symm
      · exact absurd (hb.1 x h1) (ltL_asymm (ha.1 y h2))
   subst hxy
   rw [rising_uniq ha.2 hb.2 (fun z => ?_)]
   constructor
   · intro hz
     rcases List.mem_cons.1 ((h z).1 (List.mem_cons_of_mem _ hz)) with e | h1
     · subst e; exact absurd (ha.1 z hz) (ltL_irrefl z)
     · exact h1
   · intro hz
     rcases List.mem_cons.1 ((h z).2 (List.mem_cons_of_mem _ hz)) with e | h1
     · subst e; exact absurd (hb.1 z hz) (ltL_irrefl z)
     · exact h1
theorem IsNorm.uniq {l a b : List XLine} (ha : IsNorm l a) (hb : IsNorm l b) : a = b :=
 rising_uniq ha.1 hb.1 (fun x => (ha.2 x).trans (hb.2 x).symm)
def absL (l : List XLine) : Int := (l.map (fun x => (x.amount.natAbs : Int))).sum
end Go.Proofs.Ytekelchdbkjjjaa
namespace Go.Proofs.Ytekelchdbkjjjaa
open Go Go.RowKit Go.Sort
def Lays (W w : World) : Prop := ∃ q os, w = grow (W.drewN q) os
theorem Lays.refl (W : World) : Lays W W := ⟨0, #[], by simp [grow]; rfl⟩
theorem drewN_grow (w : World) (os : Array Obj) (n : Nat) : (grow w os).drewN n = grow (w.drewN n) os := rfl
theorem drewN_drewN (w : World) (a b : Nat) : (w.drewN a).drewN b = w.drewN (a + b) := by
 simp [World.drewN, Nat.add_assoc]
theorem Lays.trans {A B C : World} (h : Lays A B) (k : Lays B C) : Lays A C := by
 obtain ⟨a, o1, rfl⟩ := h
 obtain ⟨b, o2, rfl⟩ := k
 exact ⟨a + b, o1 ++ o2, by rw [drewN_grow, drewN_drewN, grow_grow]⟩
theorem Lays.alloc {A B : World} (h : Lays A B) (o : Obj) : Lays A (B.alloc o) := h.trans ⟨0, #[o], by rw [alloc_eq_grow]; rfl⟩
theorem Lays.drew {A B : World} (h : Lays A B) : Lays A B.drew := h.trans ⟨1, #[], by simp [grow]; rfl⟩
theorem Lays.below {A B : World} (h : Lays A B) : Below A.heap.size A B := by
 obtain ⟨a, o, rfl⟩ := h
 refine ⟨rfl, rfl, rfl, by simp [grow, World.drewN], fun k hk => ?_⟩
 show (A.heap ++ o)[k]? = A.heap[k]?
 rw [Array.getElem?_append_left hk]
def IsSl (a b : Int) (v : Value) (w : World) : Prop := ∃ g T, v = .slice (some ⟨g, 0, none⟩) 2 2 ∧ w.heap[g]? = some (.cells #[.int .i64 a, .int .i64 b] T (0, 0))
theorem IsSl.keep (a b : Int) : ∀ v w w', Below w.heap.size w w' → IsSl a b v w → IsSl a b v w' := fun v w w' hb ⟨g, T, e, h⟩ => ⟨g, T, e, (hb.block g (blk_lt h)).trans h⟩
theorem IsSl.made (a b : Int) (T : TypeId) (w : World) : IsSl a b (.slice (some ⟨w.heap.size, 0, none⟩) 2 2) (w.alloc (.cells #[.int .i64 a, .int .i64 b] T)) := ⟨_, T, rfl, heap_alloc_new _ _⟩
end Go.Proofs.Ytekelchdbkjjjaa
namespace Go.Proofs.Ytekelchdbkjjjaa
open Go Go.RowKit Go.Shelf Go.Lib
open Go.Sort hiding Below
instance : Inhabited XLine := ⟨{}⟩
end Go.Proofs.Ytekelchdbkjjjaa
namespace Go.Proofs.Ytekelchdbkjjjaa
open Go Go.RowKit Go.ChangeMaps
open Go.Maps (Keyed)
def IsEnt (mb : Nat) (es1 : Array MapEntry) (clock1 : Nat) (c0 : Int) (st : Nat) (v : Value) (w : World) : Prop := v = .tuple #[.int .i64 c0, goInt st] ∧ w.heap[mb]? = some (.map es1 clock1)
theorem IsEnt.keep (mb : Nat) (es1 : Array MapEntry) (clock1 : Nat) (c0 : Int) (st : Nat) : ∀ v w w', Below w.heap.size w w' → IsEnt mb es1 clock1 c0 st v w → IsEnt mb es1 clock1 c0 st v w' :=
 fun v w w' hb h => ⟨h.1, (hb.block mb (blk_lt h.2)).trans h.2⟩
theorem line_bd {l : List XLine} {w : World} {A : Option Addr} {n c : Nat} (hl : ListC LineC 3 w (· < w.heap.size) [.slice A n c] l) {k : Nat} (hk : k < l.length) : lineBd l[k] := by
 obtain ⟨b, o, es, _, _, hes, _⟩ := ListC.get hl k hk
 exact (LineC.lit hes).2
theorem info_lineA : (Try.prog.info? 49).map (fun i => (i.zero, i.size, i.bytes)) = some (some (.agg #[.int .i64 0, .int .i64 0, .int .i64 0]), 3, 24) := by kernel_rfl
theorem lines_uty : Try.prog.underlying 34 = some (.slice 49) := by kernel_rfl
end Go.Proofs.Ytekelchdbkjjjaa
namespace Go.Proofs.Ytekelchdbkjjjaa
open Go Go.RowKit
theorem lines_lay (l : List XLine) (hb : ∀ x ∈ l, lineBd x) (hn : l.length ≤ 1000) (w W : World) (T : TypeId) (cs : Array Value) (hcs : cs = (l.flatMap lineL).toArray) (hW : W.heap[w.heap.size]? = some (.cells cs T (0, 0))) : ListC LineC 3 W (· < W.heap.size) [.slice (some ⟨w.heap.size, 0, none⟩) l.length l.length] l := by
 subst hcs
 have h2 := box_at hW
 refine ⟨_, _, rfl, Nat.le_refl _, by unfold maxLen; omega, fun _ => ⟨w.heap.size, 0, rfl, blk_lt hW, fun i x hx => ?_⟩⟩
 have hbx := hb x (List.mem_of_getElem? hx)
 exact ⟨lineL x, ⟨[_], [_], [_], rfl, ⟨rfl, hbx.1⟩, ⟨rfl, hbx.2.1⟩, ⟨rfl, hbx.2.2⟩⟩, flat_at lineL (fun _ => rfl) l 0 h2 i x hx⟩
theorem flat_one (l : List XLine) : ∀ u ∈ l.flatMap lineL, u.oneCell' = true := fun u hu => by
 obtain ⟨x, _, hx⟩ := List.mem_flatMap.1 hu
 simp [lineL] at hx
 rcases hx with rfl | rfl | rfl <;> rfl
def negL (x : XLine) : XLine := ⟨x.account, -x.amount, x.partner⟩
def oppB (a b : List XLine) : Bool := decide (a = b.map negL)
def midL (x : XLine) : Prop := -4611686018427387904 ≤ x.amount ∧ x.amount ≤ 4611686018427387904
set_option maxHeartbeats 1000000 in
theorem oppcl_c (x y : XLine) (w : World) (hy : midL y) : Calls Try.prog 74 #[.agg (lineL x).toArray, .agg (lineL y).toArray] w (Quiet w (.bool (decide (x = negL y)))) := by
 obtain ⟨r, hr⟩ : ∃ r, decide (x = negL y) = r := ⟨_, rfl⟩
 rw [hr]
 obtain ⟨xa, xm, xp⟩ := x
 obtain ⟨ya, ym, yp⟩ := y
 have HR := Lib.hid (show r = decide (xa = ya ∧ xm = -ym ∧ xp = yp) by rw [← hr]; simp [negL])
 obtain ⟨hy1, hy2⟩ := hy
 simp only at hy1 hy2
 clear hr
 show Calls Try.prog 74 #[.agg #[.int .i64 xa, .int .i64 xm, .int .i64 xp], .agg #[.int .i64 ya, .int .i64 ym, .int .i64 yp]] w (Quiet w (.bool r))
 go_enter Try.func74, Try.ntmps74
 go_upto_region 1 with fail
 have H := heap_alloc_new w (.cells #[.int .i64 xa, .int .i64 xm, .int .i64 xp] 49)
 have HB := below1 w (.cells #[.int .i64 xa, .int .i64 xm, .int .i64 xp] 49)
 have HS := blk_lt H
 generalize hW : w.alloc (Obj.cells #[.int .i64 xa, .int .i64 xm, .int .i64 xp] 49) = W at *
 have H2 := heap_alloc_new W (.cells #[.int .i64 ya, .int .i64 ym, .int .i64 yp] 49)
 have HB2 := below1 W (.cells #[.int .i64 ya, .int .i64 ym, .int .i64 yp] 49)
 have HS2 := blk_lt H2
 replace H := alloc_keep H (Obj.cells #[.int .i64 ya, .int .i64 ym, .int .i64 yp] 49)
 generalize hW2 : W.alloc (Obj.cells #[.int .i64 ya, .int .i64 ym, .int .i64 yp] 49) = W2 at *
 clear hW2
 have eW : W.heap.size = w.heap.size + 1 := by rw [← hW]; simp
 rw [eW] at H2
 clear hW
 have hb2 := HB.trans (HB2.mono HB.size)
 have hs2 := HB2.size
 have LT1 := blk_lt H2
 have LT0 : w.heap.size < W2.heap.size := by omega
 have HH := Lib.hid H
 have HZ := Lib.hid H2
 have EW := Lib.hid eW
 clear H H2 eW
 have c0 := blk_cell HH.out 0
 have c1 := blk_cell HH.out 1
 have c2 := blk_cell HH.out 2
 have e0 := blk_cell HZ.out 0
 have e1 := blk_cell HZ.out 1
 have e2 := blk_cell HZ.out 2
 by_cases h1 : xa = ya
 case neg =>
  have h1' : (xa == ya) = false := by simpa using h1
  have hf := Lib.hid (show r = false from HR.out.trans (decide_eq_false (fun h => h1 h.1)))
  go_wp2_with fail
  go_ret
  exact ⟨by rw [hf.out]; first | done | rfl, hb2⟩
 case pos =>
 have h1' : (xa == ya) = true := by simpa using h1
 have HA := Lib.hid h1
 clear h1
 by_cases h2 : xp = yp
 case neg =>
  have h2' : (xp == yp) = false := by simpa using h2
  have hf := Lib.hid (show r = false from HR.out.trans (decide_eq_false (fun h => h2 h.2.2)))
  go_wp2_with fail
  go_ret
  exact ⟨by rw [hf.out]; first | done | rfl, hb2⟩
 case pos =>
 have h2' : (xp == yp) = true := by simpa using h2
 have HP := Lib.hid h2
 clear h2
 by_cases h3 : xm = -ym
 case neg =>
  have h3' : (xm == -ym) = false := by simpa using h3
  have hf := Lib.hid (show r = false from HR.out.trans (decide_eq_false (fun h => h3 h.2.1)))
  go_wp2_with fail
  go_ret
  exact ⟨by rw [hf.out]; first | done | rfl, hb2⟩
 case pos =>
  have h3' : (xm == -ym) = true := by simpa using h3
  have hf := Lib.hid (show r = true from HR.out.trans (decide_eq_true ⟨HA.out, h3, HP.out⟩))
  clear h3
  go_wp2_with fail
  go_ret
  exact ⟨by rw [hf.out]; first | done | rfl, hb2⟩
set_option maxHeartbeats 2000000 in
theorem eqf_c (a b' : List XLine) (A B : Option Addr) (c c4 : Nat) (w : World) (ha : ListC LineC 3 w (· < w.heap.size) [.slice A a.length c] a) (hb' : ListC LineC 3 w (· < w.heap.size) [.slice B b'.length c4] b') (hmid : ∀ x ∈ b', midL x) : Calls Try.prog 73 #[.slice A a.length c, .slice B b'.length c4, .func (.func 74) #[] #[]] w (Quiet w (.bool (oppB a b'))) := by
 obtain ⟨r, hr⟩ : ∃ r, oppB a b' = r := ⟨_, rfl⟩
 rw [hr]
 have HR := Lib.hid (show decide (a = b'.map negL) = r from hr)
 have hbn := ha.cap
 have hbn2 := hb'.cap
 obtain ⟨n, hnl⟩ : ∃ n, a.length = n := ⟨_, rfl⟩
 obtain ⟨m, hml⟩ : ∃ n, b'.length = n := ⟨_, rfl⟩
 have HA := Lib.hid ha
 have HB := Lib.hid hb'
 have HN := Lib.hid hnl
 have HM := Lib.hid hml
 have HMID := Lib.hid hmid
 rw [hnl] at hbn ⊢
 rw [hml] at hbn2 ⊢
 unfold maxLen at hbn hbn2
 have hn9 : n ≤ 9223372036854775807 := by omega
 have hm9 : m ≤ 9223372036854775807 := by omega
 clear hr ha hb' hnl hml hbn hbn2 hmid
 by_cases hl : n = m
 case neg =>
  have hf := Lib.hid (show r = false by rw [← HR.out]; exact decide_eq_false (fun e => hl (by rw [← HN.out, ← HM.out, e, List.length_map])))
  have hl1 : ((n : Int) != (m : Int)) = true := by simp; omega
  clear hl
  go_enter Try.func73, Try.ntmps73
  go_wp2_with fail
  go_ret
  exact ⟨by rw [hf.out]; first | done | rfl, Below.refl _ _⟩
 case pos =>
 subst hl
 go_enter Try.func73, Try.ntmps73
 go_wp2_with fail
 go_loopw [17] (fun i wr => ∃ k : Nat, k ≤ n ∧ i = .int .i64 (k : Int) ∧ Below w.heap.size w wr ∧ ∀ j, j < k → a[j]? = (b'.map negL)[j]?) (fun i _ => n - (intOf i).toNat)
 case atStart => exact ⟨0, by omega, rfl, Below.refl _ _, fun j h => by omega⟩
 case round =>
  obtain ⟨k, hk, rfl, hb, hall⟩ := hrel
  have HALL := Lib.hid hall
  clear hall
  by_cases hlt : k < n
  case pos =>
   have hltI : (k : Int) < (n : Int) := by omega
   have hkl : k < a.length := by rw [HN.out]; exact hlt
   have hkm : k < b'.length := by rw [HM.out]; exact hlt
   obtain ⟨b, o, es, hAe, hbw, hes, hat⟩ := ListC.get HA.out k hkl
   obtain ⟨b4, o4, es4, hAe4, hbw4, hes4, hat4⟩ := ListC.get HB.out k hkm
   subst hAe hAe4
   have hes1 := (LineC.lit hes).1
   have hes2 := (LineC.lit hes4).1
   rw [hes1] at hat
   rw [hes2] at hat4
   have hmd := HMID.out _ (List.getElem_mem hkm)
   obtain ⟨x, hx⟩ : ∃ x, a[k] = x := ⟨_, rfl⟩
   obtain ⟨y, hy⟩ : ∃ x, b'[k] = x := ⟨_, rfl⟩
   rw [hx] at hat
   rw [hy] at hat4 hmd
   have HX := Lib.hid (show a[k]? = some x by rw [List.getElem?_eq_getElem hkl, hx])
   have HY := Lib.hid (show (b'.map negL)[k]? = some (negL y) by rw [List.getElem?_map, List.getElem?_eq_getElem hkm, hy]; rfl)
   have HCL := Lib.hid (fun w2 : World => oppcl_c x y w2 hmd)
   obtain ⟨q, hq⟩ : ∃ q, decide (x = negL y) = q := ⟨_, rfl⟩
   rw [hq] at HCL
   have HQ := Lib.hid hq
   obtain ⟨xa, xm, xp⟩ := x
   obtain ⟨ya, ym, yp⟩ := y
   have HCL2 := Lib.hid (show ∀ w2, Calls Try.prog 74 #[.agg #[.int .i64 xa, .int .i64 xm, .int .i64 xp], .agg #[.int .i64 ya, .int .i64 ym, .int .i64 yp]] w2 (Quiet w2 (.bool q)) from HCL.out)
   try simp only at hat hat4
   have HAR := Lib.hid ((hat.fr (Fr.ofBelow hb)).range)
   have HAR4 := Lib.hid ((hat4.fr (Fr.ofBelow hb)))
   clear hes hes4 hes1 hes2 hat hat4 hx hy hmd hq HCL
   go_upto_region 6 with (show wpList _ _ _ (Oper.mk (some 21) _ _ _ _ _ :: _) _ _; refine wpList_load_mid rfl 49 (.tmp 20) rfl b (o + k * 3) rfl [.int .i64 xa, .int .i64 xm, .int .i64 xp] _ HAR.out Try.underlying49 rfl info_line ?_)
   have H6 := heap_alloc_new wr (.cells #[.int .i64 xa, .int .i64 xm, .int .i64 xp] 49)
   have HB6 := below1 wr (.cells #[.int .i64 xa, .int .i64 xm, .int .i64 xp] 49)
   have HS6 := blk_lt H6
   have ez6 : (wr.alloc (.cells #[.int .i64 xa, .int .i64 xm, .int .i64 xp] 49)).heap.size = wr.heap.size + 1 := by simp
   generalize hW6 : wr.alloc (Obj.cells #[.int .i64 xa, .int .i64 xm, .int .i64 xp] 49) = W6 at *
   clear hW6
   have HK6 := Lib.hid H6
   have EZ6 := Lib.hid ez6
   clear H6 ez6
   have hb6 := hb.trans (HB6.mono hb.size)
   have HAR6 := Lib.hid ((HAR4.out.fr ((Fr.ofBelow HB6).mono (fun q (hq : q < w.heap.size) => by have := hb.size; omega))).range)
   go_upto_region 7 with (show wpList _ _ _ (Oper.mk (some 25) _ _ _ _ _ :: _) _ _; refine wpList_load_mid rfl 49 (.tmp 24) rfl b4 (o4 + k * 3) rfl [.int .i64 ya, .int .i64 ym, .int .i64 yp] _ HAR6.out Try.underlying49 rfl info_line ?_)
   have H7 := heap_alloc_new W6 (.cells #[.int .i64 ya, .int .i64 ym, .int .i64 yp] 49)
   have HB7 := below1 W6 (.cells #[.int .i64 ya, .int .i64 ym, .int .i64 yp] 49)
   have HS7 := blk_lt H7
   generalize hW7 : W6.alloc (Obj.cells #[.int .i64 ya, .int .i64 ym, .int .i64 yp] 49) = W7 at *
   clear hW7
   have HK7 := Lib.hid H7
   have HK67 := Lib.hid ((HB7.block _ HS6).trans HK6.out)
   clear H7
   have hb7 := hb6.trans (HB7.mono hb6.size)
   go_wp2_with (first | (show wpList _ _ _ (Oper.mk (some 27) _ _ _ _ _ :: _) _ _; refine wpList_load_row_g rfl 49 (.tmp 8) rfl wr.heap.size rfl _ _ _ _ HK67.out Try.underlying49 rfl info_line ?_) | (show wpList _ _ _ (Oper.mk (some 28) _ _ _ _ _ :: _) _ _; refine wpList_load_row_g rfl 49 (.tmp 9) rfl W6.heap.size rfl _ _ _ _ HK7.out Try.underlying49 rfl info_line ?_))
   refine (HCL2.out W7).mono ?_
   rintro e w8 ⟨rfl, hb8⟩
   have hb08 := hb7.trans (hb8.mono hb7.size)
   cases q with
   | false =>
    have hf := Lib.hid (show r = false by
     rw [← HR.out]
     refine decide_eq_false (fun e => ?_)
     have h1 := HX.out
     rw [e, HY.out] at h1
     exact of_decide_eq_false HQ.out (Option.some.inj h1).symm)
    go_wp2_with fail
    go_ret
    exact ⟨by rw [hf.out]; first | done | rfl, hb08⟩
   | true =>
    go_wp2_with fail
    go_roundw
    case rel => exact ⟨k + 1, by omega, by go_num, hb08, fun j hj => by
     rcases Nat.lt_or_ge j k with h | h
     · exact HALL.out j h
     · have : j = k := by omega
       subst this
       rw [HX.out, HY.out, of_decide_eq_true HQ.out]⟩
    case measure => first | exact meas_v hlt | (simp only [intOf]; omega)
  case neg =>
   have hltI : ¬ (k : Int) < (n : Int) := by omega
   have hf := Lib.hid (show r = true by
    rw [← HR.out]
    refine decide_eq_true (List.ext_getElem? (fun i => ?_))
    rcases Nat.lt_or_ge i k with h | h
    · exact HALL.out i h
    · rw [List.getElem?_eq_none (by rw [HN.out]; omega), List.getElem?_eq_none (by rw [List.length_map, HM.out]; omega)])
   go_wp2_with fail
   go_ret
   exact ⟨by rw [hf.out]; first | done | rfl, hb⟩
theorem opp_c (a b' : List XLine) (A B : Option Addr) (c c4 : Nat) (w : World) (ha : ListC LineC 3 w (· < w.heap.size) [.slice A a.length c] a) (hb' : ListC LineC 3 w (· < w.heap.size) [.slice B b'.length c4] b') (hmid : ∀ x ∈ b', midL x) : Calls Try.prog 56 #[.slice A a.length c, .slice B b'.length c4] w (Quiet w (.bool (oppB a b'))) := by
 have hc := eqf_c a b' A B c c4 w ha hb' hmid
 obtain ⟨n, hnl⟩ : ∃ n, a.length = n := ⟨_, rfl⟩
 obtain ⟨m, hml⟩ : ∃ n, b'.length = n := ⟨_, rfl⟩
 obtain ⟨r, hr⟩ : ∃ r, oppB a b' = r := ⟨_, rfl⟩
 rw [hnl, hml, hr] at hc ⊢
 have HC := Lib.hid hc
 clear hc hnl hml hr ha hb' hmid
 go_enter Try.func56, Try.ntmps56
 go_wp2_with fail
 refine HC.out.mono ?_
 rintro e w2 ⟨rfl, hb2⟩
 go_wp2_with fail
 go_ret
 exact ⟨rfl, hb2⟩
theorem neg_step {l : List XLine} {k : Nat} (hk : k < l.length) : ((l.take (k + 1)).map negL).flatMap lineL = ((l.take k).map negL).flatMap lineL ++ lineL (negL l[k]) := by
 rw [List.take_add_one, List.getElem?_eq_getElem hk, List.map_append, List.flatMap_append]
 simp
end Go.Proofs.Ytekelchdbkjjjaa
