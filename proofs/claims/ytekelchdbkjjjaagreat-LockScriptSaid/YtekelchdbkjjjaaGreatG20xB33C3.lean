/- The reference's Valid of groups. Written by gen_b33.py. -/
import Derived.Test.YtekelchdbkjjjaaGreatG20xB0B2
import Derived.Test.YtekelchdbkjjjaaGreatG20xB3B8
import Derived.Test.YtekelchdbkjjjaaGreatG20xB9B13
import Derived.Test.YtekelchdbkjjjaaGreatG20xB14
import Derived.Test.YtekelchdbkjjjaaGreatG20xB16
import Derived.Test.YtekelchdbkjjjaaGreatG20xB17B24
import Derived.Test.YtekelchdbkjjjaaGreatG20xB25B28
import Derived.Test.YtekelchdbkjjjaaGreatG20xB29B32
import Derived.Test.YtekelchdbkjjjaaGreatProg
set_option linter.unusedVariables false
set_option linter.unusedSimpArgs false
set_option maxRecDepth 4000
attribute [local go_sem ↓] Go.wp_at_zero Go.wp_at_succ
namespace Go.Proofs.YtekelchdbkjjjaaGreat
open Go Go.RowKit
theorem rentity_n {cur : ByteArray} {y m p : Int} {Ac Ae : Option Addr} {cc ce n ne : Nat} {ch : List XAccount} {es : List XEntity} {r0 r1 r2 r3 r4 r5 r6 r7 r8 r9 r10 r11 r12 r13 r14 : Int} (hN : ch.length = n) (hE : es.length = ne) {w : World} (hg : GroupC w (· < w.heap.size) (grpL cur y m p Ac ch.length cc r0 r1 r2 r3 r4 r5 r6 r7 r8 r9 r10 r11 r12 r13 r14 Ae es.length ce) ⟨cur, ⟨y, m, p⟩, ch, ⟨r0, r1, r2, r3, r4, r5, r6, r7, r8, r9, r10, r11, r12, r13, r14⟩, es⟩) (hn : ch.length ≤ 1000)
 {s cu : ByteArray} {ec : List XAccount} {ls : List XLink} {jo : Bool} {Ec Al : Option Addr} {c2 cl n2 nl : Nat} (h2 : ec.length = n2) (h3 : ls.length = nl) (hx : EntityC w (· < w.heap.size) (entL s cu Ec ec.length c2 Al ls.length cl jo) ⟨s, cu, ec, ls, jo⟩) (hs : smallE ⟨s, cu, ec, ls, jo⟩) :
 Calls Tryz.prog 69 #[.agg (grpL cur y m p Ac n cc r0 r1 r2 r3 r4 r5 r6 r7 r8 r9 r10 r11 r12 r13 r14 Ae ne ce).toArray, .agg (entL s cu Ec n2 c2 Al nl cl jo).toArray] w (Quiet w (.bool (entityB ch (rolesOf ⟨r0, r1, r2, r3, r4, r5, r6, r7, r8, r9, r10, r11, r12, r13, r14⟩) ⟨s, cu, ec, ls, jo⟩))) := by
 subst hN hE h2 h3
 exact rentity_c _ _ _ _ w hg hx hn hs.1 hs.2.1 hs.2.2.1 hs.2.2.2
theorem rbooks_n {cur : ByteArray} {y m p : Int} {Ac Ae : Option Addr} {cc ce n ne : Nat} {ch : List XAccount} {es : List XEntity} {r0 r1 r2 r3 r4 r5 r6 r7 r8 r9 r10 r11 r12 r13 r14 : Int} (hN : ch.length = n) (hE : es.length = ne) {w : World} (hg : GroupC w (· < w.heap.size) (grpL cur y m p Ac ch.length cc r0 r1 r2 r3 r4 r5 r6 r7 r8 r9 r10 r11 r12 r13 r14 Ae es.length ce) ⟨cur, ⟨y, m, p⟩, ch, ⟨r0, r1, r2, r3, r4, r5, r6, r7, r8, r9, r10, r11, r12, r13, r14⟩, es⟩) (hn : ch.length ≤ 1000) (hc : cur.size ≤ 1000) : Calls Tryz.prog 67 #[.agg (grpL cur y m p Ac n cc r0 r1 r2 r3 r4 r5 r6 r7 r8 r9 r10 r11 r12 r13 r14 Ae ne ce).toArray] w (Quiet w (.bool (curB cur && calB y m p && accountsB ch ⟨r0, r1, r2, r3, r4, r5, r6, r7, r8, r9, r10, r11, r12, r13, r14⟩))) := by
 subst hN hE
 exact rbooks_c _ _ w hg hn hc
theorem rFindE_n {cur : ByteArray} {y m p : Int} {Ac Ae : Option Addr} {cc ce n ne : Nat} {ch : List XAccount} {es : List XEntity} {r0 r1 r2 r3 r4 r5 r6 r7 r8 r9 r10 r11 r12 r13 r14 : Int} (hN : ch.length = n) (hE : es.length = ne) {w : World} (hg : GroupC w (· < w.heap.size) (grpL cur y m p Ac ch.length cc r0 r1 r2 r3 r4 r5 r6 r7 r8 r9 r10 r11 r12 r13 r14 Ae es.length ce) ⟨cur, ⟨y, m, p⟩, ch, ⟨r0, r1, r2, r3, r4, r5, r6, r7, r8, r9, r10, r11, r12, r13, r14⟩, es⟩) (hn : es.length ≤ 1000) (nm : ByteArray) {q : Int} {qb : Bool} (hq : findE es nm = (q, qb)) : Calls Tryz.prog 68 #[.agg (grpL cur y m p Ac n cc r0 r1 r2 r3 r4 r5 r6 r7 r8 r9 r10 r11 r12 r13 r14 Ae ne ce).toArray, .string nm] w (Quiet w (.tuple #[.int .i64 q, .bool qb])) := by
 subst hN hE
 have := rFindE_c _ _ nm w hg hn
 simp only [hq] at this
 exact this
theorem entRow_at {ch : List XAccount} {L : List XRole} {es : List XEntity} {i : Nat} {e : XEntity} (h : es[i]? = some e) : entRow ch L es i = (!((es.take i).any fun x => decide (x.name = e.name)) && entityB ch L e) := by unfold entRow; rw [h]
theorem rgroup_books {g : XGroup} (h : (curB g.currency && calB g.calendar.year g.calendar.month g.calendar.periods && accountsB g.chart g.roles) = false) : groupB g = false := by unfold groupB; rw [h]; simp
theorem rgroup_len {g : XGroup} (h : ¬ (1 ≤ g.entities.length ∧ g.entities.length ≤ 12)) : groupB g = false := by unfold groupB; rw [decide_eq_false h]; simp
theorem rgroup_joint {g : XGroup} {e : XEntity} (h : g.entities[0]? = some e) (hj : e.joint = true) : groupB g = false := by unfold groupB; rw [List.getD_eq_getElem?_getD, h, Option.getD_some, hj]; simp
theorem rgroup_row {g : XGroup} {k : Nat} (hk : k < g.entities.length) (h : entRow g.chart (rolesOf g.roles) g.entities k = false) : groupB g = false := by unfold groupB entsB; rw [all_range_false hk h]; simp
theorem rgroup_all {g : XGroup} {e : XEntity} (h1 : (curB g.currency && calB g.calendar.year g.calendar.month g.calendar.periods && accountsB g.chart g.roles) = true) (h4 : 1 ≤ g.entities.length ∧ g.entities.length ≤ 12) (h5 : g.entities[0]? = some e) (hj : e.joint = false) (h : ∀ k, k < g.entities.length → entRow g.chart (rolesOf g.roles) g.entities k = true) : groupB g = true := by
 unfold groupB entsB
 rw [h1, decide_eq_true h4, List.getD_eq_getElem?_getD, h5, Option.getD_some, hj, all_range_true h]; rfl
set_option maxHeartbeats 4000000 in
theorem rgroup_c (g : XGroup) (cs : List Value) (w : World) (hg : GroupC w (· < w.heap.size) cs g) (hsm : smallG g) : Calls Tryz.prog 37 #[.agg cs.toArray] w (Quiet w (.bool (groupB g))) := by
 obtain ⟨r, hr⟩ : ∃ r, groupB g = r := ⟨_, rfl⟩
 rw [hr]
 have HR := Lib.hid hr
 have HGC := Lib.hid hg
 obtain ⟨hn, hne1, hcs, hse⟩ := hsm
 clear hr
 obtain ⟨Ac, cc, Ae, ce, rfl, hch, hen, hcal, hro⟩ := hg.lit
 clear hg
 obtain ⟨cur, ⟨y, m, p⟩, ch, ⟨r0, r1, r2, r3, r4, r5, r6, r7, r8, r9, r10, r11, r12, r13, r14⟩, es⟩ := g
 simp only at hcs hne1 hse HR hch hen hro hcal hn ⊢
 have HSE := Lib.hid hse
 have HNN := Lib.hid hn
 have HNE1 := Lib.hid hne1
 obtain ⟨L, hL⟩ : ∃ L, rolesL r0 r1 r2 r3 r4 r5 r6 r7 r8 r9 r10 r11 r12 r13 r14 = L := ⟨_, rfl⟩
 have hLl : L.length = 15 := by rw [← hL]; rfl
 have HLQ := Lib.hid hL
 have HLL := Lib.hid hLl
 obtain ⟨n, hnl⟩ : ∃ n, ch.length = n := ⟨_, rfl⟩
 obtain ⟨ne, hne⟩ : ∃ ne, es.length = ne := ⟨_, rfl⟩
 have HL := Lib.hid hch
 have HN := Lib.hid hnl
 have HE := Lib.hid hen
 have HNE := Lib.hid hne
 rw [hnl, hne]
 rw [hnl] at hn
 clear hL hLl hch hen hnl hne hcal; clear hro hse hne1
 show Calls Tryz.prog 37 #[.agg #[.string cur, .int .i64 y, .int .i64 m, .int .i64 p, .slice Ac n cc, .int .i64 r0, .int .i64 r1, .int .i64 r2, .int .i64 r3, .int .i64 r4, .int .i64 r5, .int .i64 r6, .int .i64 r7, .int .i64 r8, .int .i64 r9, .int .i64 r10, .int .i64 r11, .int .i64 r12, .int .i64 r13, .int .i64 r14, .slice Ae ne ce]] w (Quiet w (.bool r))
 go_enter Tryz.func37, Tryz.ntmps37
 go_upto_region 1 with fail
 have H := heap_alloc_new w (.cells #[.string cur, .int .i64 y, .int .i64 m, .int .i64 p, .slice Ac n cc, .int .i64 r0, .int .i64 r1, .int .i64 r2, .int .i64 r3, .int .i64 r4, .int .i64 r5, .int .i64 r6, .int .i64 r7, .int .i64 r8, .int .i64 r9, .int .i64 r10, .int .i64 r11, .int .i64 r12, .int .i64 r13, .int .i64 r14, .slice Ae ne ce] 29)
 have HB := below1 w (.cells #[.string cur, .int .i64 y, .int .i64 m, .int .i64 p, .slice Ac n cc, .int .i64 r0, .int .i64 r1, .int .i64 r2, .int .i64 r3, .int .i64 r4, .int .i64 r5, .int .i64 r6, .int .i64 r7, .int .i64 r8, .int .i64 r9, .int .i64 r10, .int .i64 r11, .int .i64 r12, .int .i64 r13, .int .i64 r14, .slice Ae ne ce] 29)
 have HS := blk_lt H
 generalize hW : w.alloc (Obj.cells #[.string cur, .int .i64 y, .int .i64 m, .int .i64 p, .slice Ac n cc, .int .i64 r0, .int .i64 r1, .int .i64 r2, .int .i64 r3, .int .i64 r4, .int .i64 r5, .int .i64 r6, .int .i64 r7, .int .i64 r8, .int .i64 r9, .int .i64 r10, .int .i64 r11, .int .i64 r12, .int .i64 r13, .int .i64 r14, .slice Ae ne ce] 29) = W at *
 clear hW
 have HATG := Lib.hid (box_at (cs := grpL cur y m p Ac n cc r0 r1 r2 r3 r4 r5 r6 r7 r8 r9 r10 r11 r12 r13 r14 Ae ne ce) H)
 have HH := Lib.hid H
 have HB0 := Lib.hid (rbooks_n HN.out HNE.out (GroupC.keep HGC.out HB) HNN.out hcs)
 clear H
 obtain ⟨v0, hv0⟩ : ∃ v, (curB cur && calB y m p && accountsB ch ⟨r0, r1, r2, r3, r4, r5, r6, r7, r8, r9, r10, r11, r12, r13, r14⟩) = v := ⟨_, rfl⟩
 rw [hv0] at HB0
 have HV0 := Lib.hid hv0
 clear hv0
 go_wp2_with (show wpList _ _ _ (Oper.mk (some 6) _ _ _ _ _ :: _) _ _; refine wpList_load_row_g rfl 29 (.tmp 1) rfl w.heap.size rfl _ _ _ _ HH.out Tryz.underlying29 rfl info_group ?_)
 refine HB0.out.mono ?_
 rintro e w4 ⟨rfl, hb4⟩
 have hb04 := HB.trans (hb4.mono HB.size)
 have hs4 := hb4.size
 cases v0 with
 | false =>
  have hf := Lib.hid (show r = false by rw [← HR.out]; exact rgroup_books HV0.out)
  go_wp2_with fail
  go_ret
  exact ⟨by rw [hf.out]; first | done | rfl, hb04⟩
 | true =>
 have G4 := (hb4.block _ HS).trans HH.out
 have f20 := blk_cell G4 20
 by_cases h1 : ne < 1
 case pos =>
  have h1I : (ne : Int) < 1 := by omega
  have hf := Lib.hid (show r = false by rw [← HR.out]; exact rgroup_len (fun h => by have := h.1; have := HNE.out; simp only at *; omega))
  go_wp2_with fail
  go_ret
  exact ⟨by rw [hf.out]; first | done | rfl, hb04⟩
 case neg =>
 have h1I : ¬ (ne : Int) < 1 := by omega
 by_cases h2 : 12 < ne
 case pos =>
  have h2I : 12 < (ne : Int) := by omega
  have hf := Lib.hid (show r = false by rw [← HR.out]; exact rgroup_len (fun h => by have := h.2; have := HNE.out; simp only at *; omega))
  go_wp2_with fail
  go_ret
  exact ⟨by rw [hf.out]; first | done | rfl, hb04⟩
 case neg =>
 have h2I : ¬ 12 < (ne : Int) := by omega
 have h3I : (0 : Int) < (ne : Int) := by omega
 have hl0 : 0 < es.length := by rw [HNE.out]; omega
 obtain ⟨b, o, hAe, hbw, hel⟩ := ListC.base HE.out (by omega)
 subst hAe
 obtain ⟨es0, hes0, hat0⟩ := hel 0 hl0
 have HEL := Lib.hid hel
 obtain ⟨Ec, c2, Al, cl, rfl, _, _⟩ := hes0.lit
 obtain ⟨x0, hx0⟩ : ∃ x0, es[0] = x0 := ⟨_, rfl⟩
 rw [hx0] at hat0
 have HX0 := Lib.hid (show es[0]? = some x0 by rw [List.getElem?_eq_getElem hl0, hx0])
 have j0 := (hat0.fr (Fr.ofBelow hb04)).c (j := 4) rfl
 obtain ⟨J, hJ⟩ : ∃ J, x0.joint = J := ⟨_, rfl⟩
 rw [hJ, Nat.zero_mul, Nat.add_zero] at j0
 have HJ := Lib.hid hJ
 clear hes0 hat0 hel hx0 hJ
 cases J with
 | true =>
  have hf := Lib.hid (show r = false by rw [← HR.out]; exact rgroup_joint HX0.out HJ.out)
  go_wp2_with fail
  go_ret
  exact ⟨by rw [hf.out]; first | done | rfl, hb04⟩
 | false =>
 have HG4 := Lib.hid G4
 have HAT4 := Lib.hid ((HATG.out.fr (Fr.ofBelow hb4)).mono (Q' := (· < w4.heap.size)) (fun k (hk : k < W.heap.size) => by omega))
 clear G4
 go_wp2_with fail
 go_loopw [3] (fun i wr => ∃ k : Nat, k ≤ ne ∧ i = .int .i64 (k : Int) ∧ Below w4.heap.size w4 wr ∧ ∀ j, j < k → entRow ch (rolesOf ⟨r0, r1, r2, r3, r4, r5, r6, r7, r8, r9, r10, r11, r12, r13, r14⟩) es j = true) (fun i _ => ne - (intOf i).toNat)
 case atStart => exact ⟨0, by omega, rfl, Below.refl _ _, fun j hj => by omega⟩
 case round =>
  obtain ⟨k, hk, rfl, hb, hall⟩ := hrel
  have HA := Lib.hid hall
  have hsz := hb.size
  clear hall f20 j0
  have hb0 := hb04.trans (hb.mono hb04.size)
  have GR := (hb.block w.heap.size (by omega)).trans HG4.out
  have d20 := blk_cell GR 20
  clear GR
  by_cases hlt : k < ne
  case pos =>
   have hltI : (k : Int) < (ne : Int) := by omega
   have hkl : k < es.length := by rw [HNE.out]; exact hlt
   obtain ⟨es1, hes, hat⟩ := HEL.out k hkl
   obtain ⟨Ec, c2, Al, cl, rfl, _, _⟩ := hes.lit
   obtain ⟨x, hx⟩ : ∃ x, es[k] = x := ⟨_, rfl⟩
   have hsx := HSE.out _ (List.getElem_mem hkl)
   rw [hx] at hes hat hsx
   have HX := Lib.hid (show es[k]? = some x by rw [List.getElem?_eq_getElem hkl, hx])
   obtain ⟨s, cu, ec, ls, jo⟩ := x
   simp only at hes hat
   have hE := fun (w2 : World) (hb : Below w.heap.size w w2) => fun {n2 nl : Nat} (h2 : ec.length = n2) (h3 : ls.length = nl) => rentity_n HN.out HNE.out (GroupC.keep HGC.out hb) HNN.out h2 h3 (EntityC.keep hes hb) hsx
   have hat2 := hat.fr (Fr.ofBelow hb0)
   obtain ⟨n2, hn2⟩ : ∃ n, ec.length = n := ⟨_, rfl⟩
   obtain ⟨nl, hnl⟩ : ∃ n, ls.length = n := ⟨_, rfl⟩
   rw [hn2, hnl] at hat2
   have K0 := Lib.hid (show wr.cell? ⟨b, o + k * 5, none⟩ = some (.string s) from by have := hat2.c (j := 0) rfl; rwa [Nat.add_zero] at this)
   have HARW := Lib.hid (hat2.mono (Q' := (· < wr.heap.size)) (fun k (hk : k < w.heap.size) => by have := hb0.size; omega))
   have HEN := Lib.hid (fun (w2 : World) (hb : Below w.heap.size w w2) => hE w2 hb hn2 hnl)
   have HBW := Lib.hid hb0
   have LTB := Lib.hid (show b < wr.heap.size by have h : b < w.heap.size := hbw; have := hb0.size; omega)
   have LTG := Lib.hid (show w.heap.size < wr.heap.size by omega)
   have D20 := Lib.hid (show wr.cell? ⟨w.heap.size, 20, none⟩ = some (.slice (some ⟨b, o, none⟩) ne ce) from d20)
   have HATW := Lib.hid ((HAT4.out.fr (Fr.ofBelow hb)).mono (Q' := (· < wr.heap.size)) (fun k (hk : k < w4.heap.size) => by omega))
   obtain ⟨qq, hqq⟩ : ∃ q, findE es s = q := ⟨_, rfl⟩
   obtain ⟨q, qf⟩ := qq
   have HFE := Lib.hid hqq
   have HOWN := Lib.hid (findE_own HX.out)
   clear hes hat hat2 hx hE hsx hn2 hnl hqq
   go_upto_region 6 with fail
   refine wp_region_inv' (Ks wr [.val (.agg (grpL cur y m p Ac n cc r0 r1 r2 r3 r4 r5 r6 r7 r8 r9 r10 r11 r12 r13 r14 (some ⟨b, o, none⟩) ne ce).toArray), .val (.pointer (some ⟨w.heap.size, 20, none⟩)), .val (.slice (some ⟨b, o, none⟩) ne ce), .val (.int .i64 (k : Int)), .val (.pointer (some ⟨b, o + k * 5, none⟩)), .val (.pointer (some ⟨b, o + k * 5, none⟩)), .val (.string s), .val (.tuple #[.int .i64 q, .bool qf]), .val (.tuple #[.int .i64 q, .bool qf]), .val (.int .i64 q), .val (.bool qf), .val (.int .i64 q), .val (.bool qf)])
    (fun w' => Below wr.heap.size wr w') (by kernel_rfl) (by kernel_rfl) (by kernel_rfl) (Below.refl _ _).drew ?_ ?_
   · refine ⟨?_, ?_, ?_, ?_, ?_, ?_, ?_, ?_, ?_, ?_, ?_, ?_, ?_, trivial⟩
     · intro _ A0 w2 hI hd hnd K hK; have e0 := hI.q hnd 1; have hS := hI.world; have hrange : w2.rangeAt w.heap.size 0 (grpL cur y m p Ac n cc r0 r1 r2 r3 r4 r5 r6 r7 r8 r9 r10 r11 r12 r13 r14 (some ⟨b, o, none⟩) ne ce) := (HATW.out.fr (Fr.ofBelow hS)).range
       have hisize : (Tryz.prog.info? 29).map (·.size) = some (grpL cur y m p Ac n cc r0 r1 r2 r3 r4 r5 r6 r7 r8 r9 r10 r11 r12 r13 r14 (some ⟨b, o, none⟩) ne ce).length := info_group
       refine wanted_go rfl ?_; clear hI hd hnd
       refine wp_load_mid 29 (.tmp 1) rfl _ _ (by simpa [Act.eval, Array.getD_eq_getD_getElem?] using e0) _ _ hrange Tryz.underlying29 rfl hisize ?_
       exact kq hK hS rfl
     · intro _ A0 w2 hI hd hnd K hK; have e0 := hI.q hnd 1; exact hI.z hK
     · intro _ A0 w2 hI hd hnd K hK; have e0 := hI.p hd 1 37; have hS := hI.world; have hcc : w2.cell? ⟨w.heap.size, 20, none⟩ = _ := (hS.cell (p := ⟨w.heap.size, 20, none⟩) LTG.out).trans D20.out; exact hI.z hK
     · intro _ A0 w2 hI hd hnd K hK; have e0 := hI.q hnd 3; exact hI.z hK
     · intro _ A0 w2 hI hd hnd K hK; have e0 := hI.p hd 2 38; have e1 := hI.p hd 3 39; exact hI.z hK
     · intro _ A0 w2 hI hd hnd K hK; have e0 := hI.p hd 4 40; exact hI.z hK
     · intro _ A0 w2 hI hd hnd K hK; have e0 := hI.p hd 5 41; have hS := hI.world; have hcc : w2.cell? ⟨b, o + k * 5, none⟩ = _ := (hS.cell (p := ⟨b, o + k * 5, none⟩) LTB.out).trans K0.out; exact hI.z hK
     · intro _ A0 w2 hI hd hnd K hK; have e0 := hI.p hd 0 36; have e1 := hI.p hd 6 42; have hS := hI.world; refine wanted_go rfl ?_; clear hI hd hnd; go_simp
       go_at_call 68
       refine (rFindE_n HN.out HNE.out (GroupC.keep HGC.out (HBW.out.trans (hS.mono HBW.out.size))) HNE1.out s HFE.out).mono ?_
       rintro e w3 ⟨rfl, h3⟩
       exact hK.out _ _ (hS.trans (h3.mono hS.size)) (Ks.of rfl rfl) (Ks.keep h3)
     · intro _ A0 w2 hI hd hnd K hK; have e0 := hI.p hd 7 43; exact hI.z hK
     iterate 2 (· intro _ A0 w2 hI hd hnd K hK; have e0 := hI.p hd 8 35; exact hI.z hK)
     · intro _ A0 w2 hI hd hnd K hK; have e0 := hI.p hd 9 44; exact hI.z hK
     · intro _ A0 w2 hI hd hnd K hK; have e0 := hI.p hd 10 45; exact hI.z hK
   · intro _ A0 w2 hI hall; have hS := hI.world; have c9 := hI.ch hall [36, 37, 38, 39, 40, 41, 42, 43, 35, 44, 45, 4, 5]; obtain ⟨x0, x1, x2, x3, x4, x5, x6, x7, x8, x9, x10, x11, x12, hA, hV⟩ := c9
     obtain rfl : x11 = .int .i64 q := hV 11 _ _ rfl _ rfl
     obtain rfl : x12 = .bool qf := hV 12 _ _ rfl _ rfl
     clear hV hI hall
     simp only [setAll, List.foldl, List.setIfInBounds_toArray, List.set_cons_zero, List.set_cons_succ] at hA
     rw [hA]
     clear hA
     generalize w2 = V at *
     have hSV := hS.size
     have HBV := Lib.hid (HBW.out.trans (hS.mono HBW.out.size))
     have HWV := Lib.hid hS
     have HATV := Lib.hid ((HATW.out.fr (Fr.ofBelow hS)).mono (Q' := (· < V.heap.size)) (fun k (hk : k < wr.heap.size) => by omega))
     have HARV := Lib.hid ((HARW.out.fr (Fr.ofBelow hS)).mono (Q' := (· < V.heap.size)) (fun k (hk : k < wr.heap.size) => by omega))
     have LTGV := Lib.hid (show w.heap.size < V.heap.size by omega)
     have D20V := Lib.hid ((hS.cell (p := ⟨w.heap.size, 20, none⟩) LTG.out).trans D20.out)
     clear hS
     by_cases hq : q = (k : Int)
     case neg =>
      have hf := Lib.hid (show r = false by
       rw [← HR.out]
       refine rgroup_row hkl ?_
       rw [entRow_at HX.out]
       cases hany : (es.take k).any (fun x => decide (x.name = s)) with
       | true => rfl
       | false => exact absurd (by have := HOWN.out.2 hany; rw [HFE.out] at this; exact this) hq)
      have hq' : (q != (k : Int)) = true := by simpa using hq
      go_upto_region 7 with fail
      refine wp_region_inv' (Ks V [.val (.int .i64 q), .val (.int .i64 (k : Int)), .val (.bool true), .val (.bool true), .val (undef), .val (undef), .val (undef), .val (undef), .val (undef), .val (undef), .val (undef), .val (undef), .val (.bool true)])
       (fun w' => Below V.heap.size V w') (by kernel_rfl) (by kernel_rfl) (by kernel_rfl) (Below.refl _ _).drew ?_ ?_
      · refine ⟨?_, ?_, ?_, ?_, ?_, ?_, ?_, ?_, ?_, ?_, ?_, ?_, ?_, trivial⟩
        · intro _ A0 w2 hI hd hnd K hK; have e0 := hI.q hnd 4; exact hI.z hK
        · intro _ A0 w2 hI hd hnd K hK; have e0 := hI.q hnd 3; exact hI.z hK
        · intro _ A0 w2 hI hd hnd K hK; have e0 := hI.p hd 0 46; have e1 := hI.p hd 1 47; exact hI.z hK
        · intro _ A0 w2 hI hd hnd K hK; have e0 := hI.p hd 2 48; exact hI.z hK
        iterate 8 (· intro _ A0 w2 hI hd hnd K hK; exact hI.z2 hK (hI.r hd 3 49 true))
        · intro _ A0 w2 hI hd hnd K hK; have e0 := hI.p hd 3 49; have e1 := hI.p hd 11 57; exact hI.z hK
      · intro _ A0 w2 hI hall; have hS := hI.world; have c9 := hI.ch hall [46, 47, 48, 49, 50, 51, 52, 53, 54, 55, 56, 57, 58]; obtain ⟨x0, x1, x2, x3, x4, x5, x6, x7, x8, x9, x10, x11, x12, hA, hV⟩ := c9
        obtain rfl : x12 = .bool true := hV 12 _ _ rfl _ rfl
        clear hV hI hall
        simp only [setAll, List.foldl, List.setIfInBounds_toArray, List.set_cons_zero, List.set_cons_succ] at hA
        rw [hA]
        clear hA
        go_wp2_with fail
        go_ret
        exact ⟨by rw [hf.out]; first | done | rfl, HBV.out.trans (hS.mono HBV.out.size)⟩
     case pos =>
      have HAN := Lib.hid (show ((es.take k).any fun x => decide (x.name = s)) = false from HOWN.out.1 (by rw [HFE.out]; exact hq))
      subst hq
      obtain ⟨v, hv⟩ : ∃ v, entityB ch (rolesOf ⟨r0, r1, r2, r3, r4, r5, r6, r7, r8, r9, r10, r11, r12, r13, r14⟩) ⟨s, cu, ec, ls, jo⟩ = v := ⟨_, rfl⟩
      have HROW := Lib.hid (show entRow ch (rolesOf ⟨r0, r1, r2, r3, r4, r5, r6, r7, r8, r9, r10, r11, r12, r13, r14⟩) es k = v by rw [entRow_at HX.out, hv, HAN.out]; rfl)
      have HV := Lib.hid hv
      clear hv
      cases v with
      | false =>
       have hf := Lib.hid (show r = false by rw [← HR.out]; exact rgroup_row hkl HROW.out)
       go_upto_region 7 with fail
       refine wp_region_inv' (Ks V [.val (.int .i64 (k : Int)), .val (.int .i64 (k : Int)), .val (.bool false), .val (.bool false), .val (.agg (grpL cur y m p Ac n cc r0 r1 r2 r3 r4 r5 r6 r7 r8 r9 r10 r11 r12 r13 r14 (some ⟨b, o, none⟩) ne ce).toArray), .val (.pointer (some ⟨w.heap.size, 20, none⟩)), .val (.slice (some ⟨b, o, none⟩) ne ce), .val (.int .i64 (k : Int)), .val (.pointer (some ⟨b, o + k * 5, none⟩)), .val (.agg (entL s cu Ec n2 c2 Al nl cl jo).toArray), .val (.bool false), .val (.bool true), .val (.bool true)])
        (fun w' => Below V.heap.size V w') (by kernel_rfl) (by kernel_rfl) (by kernel_rfl) (Below.refl _ _).drew ?_ ?_
       · refine ⟨?_, ?_, ?_, ?_, ?_, ?_, ?_, ?_, ?_, ?_, ?_, ?_, ?_, trivial⟩
         · intro _ A0 w2 hI hd hnd K hK; have e0 := hI.q hnd 4; exact hI.z hK
         · intro _ A0 w2 hI hd hnd K hK; have e0 := hI.q hnd 3; exact hI.z hK
         · intro _ A0 w2 hI hd hnd K hK; have e0 := hI.p hd 0 46; have e1 := hI.p hd 1 47; exact hI.z hK
         · intro _ A0 w2 hI hd hnd K hK; have e0 := hI.p hd 2 48; exact hI.z hK
         · intro _ A0 w2 hI hd hnd K hK; have e0 := hI.q hnd 1; have hS := hI.world; have hrange : w2.rangeAt w.heap.size 0 (grpL cur y m p Ac n cc r0 r1 r2 r3 r4 r5 r6 r7 r8 r9 r10 r11 r12 r13 r14 (some ⟨b, o, none⟩) ne ce) := (HATV.out.fr (Fr.ofBelow hS)).range
           have hisize : (Tryz.prog.info? 29).map (·.size) = some (grpL cur y m p Ac n cc r0 r1 r2 r3 r4 r5 r6 r7 r8 r9 r10 r11 r12 r13 r14 (some ⟨b, o, none⟩) ne ce).length := info_group
           refine wanted_yes rfl (hI.r hd 3 49 false) ?_; clear hI hd hnd
           refine wp_load_mid 29 (.tmp 1) rfl _ _ (by simpa [Act.eval, Array.getD_eq_getD_getElem?] using e0) _ _ hrange Tryz.underlying29 rfl hisize ?_
           exact kq hK hS rfl
         · intro _ A0 w2 hI hd hnd K hK; have e0 := hI.q hnd 1; exact hI.z1 hK (hI.r hd 3 49 false)
         · intro _ A0 w2 hI hd hnd K hK; have e0 := hI.p hd 5 51; have hS := hI.world; have hcc : w2.cell? ⟨w.heap.size, 20, none⟩ = _ := (hS.cell (p := ⟨w.heap.size, 20, none⟩) LTGV.out).trans D20V.out; exact hI.z1 hK (hI.r hd 3 49 false)
         · intro _ A0 w2 hI hd hnd K hK; have e0 := hI.q hnd 3; exact hI.z1 hK (hI.r hd 3 49 false)
         · intro _ A0 w2 hI hd hnd K hK; have e0 := hI.p hd 6 52; have e1 := hI.p hd 7 53; exact hI.z1 hK (hI.r hd 3 49 false)
         · intro _ A0 w2 hI hd hnd K hK; have e0 := hI.p hd 8 54; have hS := hI.world; have hrange : w2.rangeAt b (o + k * 5) (entL s cu Ec n2 c2 Al nl cl jo) := (HARV.out.fr (Fr.ofBelow hS)).range
           have hisize : (Tryz.prog.info? 92).map (·.size) = some (entL s cu Ec n2 c2 Al nl cl jo).length := info_entity
           refine wanted_yes rfl (hI.r hd 3 49 false) ?_; clear hI hd hnd
           refine wp_load_mid 92 (.tmp 54) rfl _ _ (by simpa [Act.eval, Array.getD_eq_getD_getElem?] using e0) _ _ hrange Tryz.underlying92 rfl hisize ?_
           exact kq hK hS rfl
         · intro _ A0 w2 hI hd hnd K hK; have e0 := hI.p hd 4 50; have e1 := hI.p hd 9 55; have hS := hI.world; refine wanted_yes rfl (hI.r hd 3 49 false) ?_; clear hI hd hnd; go_simp
           go_at_call 69
           refine (HEN.out w2 (HBV.out.trans (hS.mono HBV.out.size))).mono ?_
           rintro e w3 ⟨rfl, h3⟩
           exact hK.out _ _ (hS.trans (h3.mono hS.size)) (Ks.of rfl (congrArg Value.bool HV.out)) (Ks.keep h3)
         · intro _ A0 w2 hI hd hnd K hK; have e0 := hI.p hd 10 56; exact hI.z1 hK (hI.r hd 3 49 false)
         · intro _ A0 w2 hI hd hnd K hK; have e0 := hI.p hd 3 49; have e1 := hI.p hd 11 57; exact hI.z hK
       · intro _ A0 w2 hI hall; have hS := hI.world; have c9 := hI.ch hall [46, 47, 48, 49, 50, 51, 52, 53, 54, 55, 56, 57, 58]; obtain ⟨x0, x1, x2, x3, x4, x5, x6, x7, x8, x9, x10, x11, x12, hA, hV⟩ := c9
         obtain rfl : x12 = .bool true := hV 12 _ _ rfl _ rfl
         clear hV hI hall
         simp only [setAll, List.foldl, List.setIfInBounds_toArray, List.set_cons_zero, List.set_cons_succ] at hA
         rw [hA]
         clear hA
         go_wp2_with fail
         go_ret
         exact ⟨by rw [hf.out]; first | done | rfl, HBV.out.trans (hS.mono HBV.out.size)⟩
      | true =>
       go_upto_region 7 with fail
       refine wp_region_inv' (Ks V [.val (.int .i64 (k : Int)), .val (.int .i64 (k : Int)), .val (.bool false), .val (.bool false), .val (.agg (grpL cur y m p Ac n cc r0 r1 r2 r3 r4 r5 r6 r7 r8 r9 r10 r11 r12 r13 r14 (some ⟨b, o, none⟩) ne ce).toArray), .val (.pointer (some ⟨w.heap.size, 20, none⟩)), .val (.slice (some ⟨b, o, none⟩) ne ce), .val (.int .i64 (k : Int)), .val (.pointer (some ⟨b, o + k * 5, none⟩)), .val (.agg (entL s cu Ec n2 c2 Al nl cl jo).toArray), .val (.bool true), .val (.bool false), .val (.bool false)])
        (fun w' => Below V.heap.size V w') (by kernel_rfl) (by kernel_rfl) (by kernel_rfl) (Below.refl _ _).drew ?_ ?_
       · refine ⟨?_, ?_, ?_, ?_, ?_, ?_, ?_, ?_, ?_, ?_, ?_, ?_, ?_, trivial⟩
         · intro _ A0 w2 hI hd hnd K hK; have e0 := hI.q hnd 4; exact hI.z hK
         · intro _ A0 w2 hI hd hnd K hK; have e0 := hI.q hnd 3; exact hI.z hK
         · intro _ A0 w2 hI hd hnd K hK; have e0 := hI.p hd 0 46; have e1 := hI.p hd 1 47; exact hI.z hK
         · intro _ A0 w2 hI hd hnd K hK; have e0 := hI.p hd 2 48; exact hI.z hK
         · intro _ A0 w2 hI hd hnd K hK; have e0 := hI.q hnd 1; have hS := hI.world; have hrange : w2.rangeAt w.heap.size 0 (grpL cur y m p Ac n cc r0 r1 r2 r3 r4 r5 r6 r7 r8 r9 r10 r11 r12 r13 r14 (some ⟨b, o, none⟩) ne ce) := (HATV.out.fr (Fr.ofBelow hS)).range
           have hisize : (Tryz.prog.info? 29).map (·.size) = some (grpL cur y m p Ac n cc r0 r1 r2 r3 r4 r5 r6 r7 r8 r9 r10 r11 r12 r13 r14 (some ⟨b, o, none⟩) ne ce).length := info_group
           refine wanted_yes rfl (hI.r hd 3 49 false) ?_; clear hI hd hnd
           refine wp_load_mid 29 (.tmp 1) rfl _ _ (by simpa [Act.eval, Array.getD_eq_getD_getElem?] using e0) _ _ hrange Tryz.underlying29 rfl hisize ?_
           exact kq hK hS rfl
         · intro _ A0 w2 hI hd hnd K hK; have e0 := hI.q hnd 1; exact hI.z1 hK (hI.r hd 3 49 false)
         · intro _ A0 w2 hI hd hnd K hK; have e0 := hI.p hd 5 51; have hS := hI.world; have hcc : w2.cell? ⟨w.heap.size, 20, none⟩ = _ := (hS.cell (p := ⟨w.heap.size, 20, none⟩) LTGV.out).trans D20V.out; exact hI.z1 hK (hI.r hd 3 49 false)
         · intro _ A0 w2 hI hd hnd K hK; have e0 := hI.q hnd 3; exact hI.z1 hK (hI.r hd 3 49 false)
         · intro _ A0 w2 hI hd hnd K hK; have e0 := hI.p hd 6 52; have e1 := hI.p hd 7 53; exact hI.z1 hK (hI.r hd 3 49 false)
         · intro _ A0 w2 hI hd hnd K hK; have e0 := hI.p hd 8 54; have hS := hI.world; have hrange : w2.rangeAt b (o + k * 5) (entL s cu Ec n2 c2 Al nl cl jo) := (HARV.out.fr (Fr.ofBelow hS)).range
           have hisize : (Tryz.prog.info? 92).map (·.size) = some (entL s cu Ec n2 c2 Al nl cl jo).length := info_entity
           refine wanted_yes rfl (hI.r hd 3 49 false) ?_; clear hI hd hnd
           refine wp_load_mid 92 (.tmp 54) rfl _ _ (by simpa [Act.eval, Array.getD_eq_getD_getElem?] using e0) _ _ hrange Tryz.underlying92 rfl hisize ?_
           exact kq hK hS rfl
         · intro _ A0 w2 hI hd hnd K hK; have e0 := hI.p hd 4 50; have e1 := hI.p hd 9 55; have hS := hI.world; refine wanted_yes rfl (hI.r hd 3 49 false) ?_; clear hI hd hnd; go_simp
           go_at_call 69
           refine (HEN.out w2 (HBV.out.trans (hS.mono HBV.out.size))).mono ?_
           rintro e w3 ⟨rfl, h3⟩
           exact hK.out _ _ (hS.trans (h3.mono hS.size)) (Ks.of rfl (congrArg Value.bool HV.out)) (Ks.keep h3)
         · intro _ A0 w2 hI hd hnd K hK; have e0 := hI.p hd 10 56; exact hI.z1 hK (hI.r hd 3 49 false)
         · intro _ A0 w2 hI hd hnd K hK; have e0 := hI.p hd 3 49; have e1 := hI.p hd 11 57; exact hI.z hK
       · intro _ A0 w2 hI hall; have hS := hI.world; have c9 := hI.ch hall [46, 47, 48, 49, 50, 51, 52, 53, 54, 55, 56, 57, 58]; obtain ⟨x0, x1, x2, x3, x4, x5, x6, x7, x8, x9, x10, x11, x12, hA, hV⟩ := c9
         obtain rfl : x12 = .bool false := hV 12 _ _ rfl _ rfl
         clear hV hI hall
         simp only [setAll, List.foldl, List.setIfInBounds_toArray, List.set_cons_zero, List.set_cons_succ] at hA
         rw [hA]
         clear hA
         go_wp2_with fail
         go_roundw
         case rel => exact ⟨k + 1, by omega, by go_num, hb.trans ((HWV.out.trans (hS.mono hSV)).mono hsz), fun i hi => by
          rcases Nat.lt_or_ge i k with h | h
          · exact HA.out i h
          · have : i = k := by omega
            subst this
            exact HROW.out⟩
         case measure => first | exact meas_v hlt | (simp only [intOf]; omega)
  case neg =>
   have hltI : ¬ (k : Int) < (ne : Int) := by omega
   have hf := Lib.hid (show r = true by
    rw [← HR.out]
    exact rgroup_all HV0.out ⟨by have := HNE.out; simp only; omega, by have := HNE.out; simp only; omega⟩ HX0.out HJ.out (fun j hj => HA.out j (by have := HNE.out; simp only at hj; omega)))
   go_wp2_with fail
   go_ret
   exact ⟨by rw [hf.out]; first | done | rfl, hb0⟩
abbrev itemL (x : XItem) : List Value := [.int .i64 x.ref.entry, .int .i64 x.ref.line, .int .i64 x.entity, .int .i64 x.account, .int .i64 x.partner, .int .i64 x.date, .int .i64 x.amount]
theorem ItemC.lit {w : World} {Q : Nat → Prop} {cs : List Value} {x : XItem} (h : ItemC w Q cs x) : cs = itemL x := by
 obtain ⟨c0, c1, c2, c3, c4, c5, rfl, h0, ⟨rfl, h1⟩, ⟨rfl, h2⟩, ⟨rfl, h3⟩, ⟨rfl, h4⟩, ⟨rfl, h5⟩⟩ := h
 obtain ⟨d0, d1, rfl, ⟨rfl, _⟩, ⟨rfl, _⟩⟩ := h0
 rfl
def monB (n : Int) : Bool := decide (-1000000000000 ≤ n ∧ n ≤ 1000000000000)
def PostC (w : World) (p : XPosting × Int) (e : Ending) (w' : World) : Prop := ∃ A c, e = .returned (.tuple #[.agg #[.int .i64 p.1.kind, .int .i64 p.1.entity, .int .i64 p.1.other, .int .i64 p.1.rule, .slice A p.1.parts.length c], .int .i64 p.2]) ∧
 ListC PartC 2 w' (fun k => w.heap.size ≤ k ∧ k < w'.heap.size) [.slice A p.1.parts.length c] p.1.parts ∧ Below w.heap.size w w'
theorem PostC.bad {w w' : World} {e : Int} (hb : Below w.heap.size w w') : PostC w ({}, e) (.returned (.tuple #[.agg #[.int .i64 0, .int .i64 0, .int .i64 0, .int .i64 0, .slice none 0 0], .int .i64 e])) w' := ⟨none, 0, rfl, listC0 _ _ _ _, hb⟩
theorem setRow_keep {w : World} {g b : Nat} {x : Obj} {cs : Array Value} (h : w.heap[b]? = some x) (hne : b ≠ g) : (w.setRow g cs).heap[b]? = some x := ((fr_setRow w g cs).block b hne).trans h
section
variable {P : Program} (w : World)
theorem run_app_none (base : Nat) (t ty e : TypeId) (i : TypeInfo) (size : Nat) (ht : P.underlying t = some (.slice e)) (hi : P.info? e = some i)
 (v : Value) (n : Nat) (xs : List Value) (hown : w.ownsRow base e size v n xs) (c : Nat) : (Builtin.append_ #[t, t] ty #[v, .slice none 0 c]).run P w = .ok v w := by
 rcases hown.2 with ⟨rfl, rfl⟩ | ⟨g, cap, cur, rfl, _, _, hnc, _⟩
 · simp [Builtin.append_, run_underlying ht, sizeOf, typeInfo, hi, Builtin.lenOf, Builtin.firstCells]
 · simp [Builtin.append_, run_underlying ht, sizeOf, typeInfo, hi, Builtin.lenOf, Builtin.firstCells, hnc, storeCells]
theorem run_app (base : Nat) (t ty e : TypeId) (i : TypeInfo) (z : Value) (size bytes : Nat) (ht : P.underlying t = some (.slice e)) (hi : P.info? e = some i) (hz : i.zero = some z)
 (hsize : i.size = size) (hby : i.bytes = bytes) (hzs : z.cells.size = size) (hsz : 0 < size)
 (v : Value) (n : Nat) (xs : List Value) (hown : w.ownsRow base e size v n xs)
 (Q : Nat → Prop) (A : Option Addr) (m c : Nat) (news : List Value) (hr : Rd w Q A m size news) (h1 : ∀ u ∈ news, u.oneCell' = true)
 (h63 : n + m ≤ maxLen) (hbytes : (n + m) * bytes ≤ 140737488355328) (hbase : base ≤ w.heap.size) :
 ∃ v' w', (Builtin.append_ #[t, t] ty #[v, .slice A m c]).run P w = .ok v' w' ∧ w'.ownsRow base e size v' (n + m) (xs ++ news) ∧ w.grownBy w' v.ownBlock ∧
  (v'.ownBlock = v.ownBlock ∨ v'.ownBlock = some w.heap.size) := by
 rcases A with _ | ad
 · have hm : m = 0 := by
    rcases Nat.eq_zero_or_pos m with h0 | h0
    · exact h0
    · obtain ⟨ad, h, _⟩ := hr.2 h0
      cases h
   subst hm
   have hn : news = [] := List.eq_nil_of_length_eq_zero (by simpa using hr.1)
   subst hn
   exact ⟨v, w, run_app_none w base t ty e i size ht hi v n xs hown c, by simpa using hown, World.grownBy.refl w _, .inl rfl⟩
 · have hcells : ∀ j u, news[j]? = some u → w.cell? (ad.add j) = some u := by
    intro j u hu
    rcases Nat.eq_zero_or_pos m with h0 | h0
    · subst h0
      have hn : news = [] := List.eq_nil_of_length_eq_zero (by simpa using hr.1)
      subst hn
      simp at hu
    · obtain ⟨ad', h, hc⟩ := hr.2 h0
      injection h with h
      subst h
      exact (hc.2 j u hu).1
   obtain ⟨v', w', hrun, h2, h3, _, h5⟩ := run_append_own_at (P := P) w base t ty e i z size bytes ht hi hz hsize hby hzs hsz v n xs hown ad m c news hr.1 hcells h1 h63 hbytes hbase
   exact ⟨v', w', hrun, h2, h3, h5⟩
theorem wp_app {o : Oper} {a : Act} {K : Act → World → Prop} {Q' : Exit → Act → World → Prop} (s x : Operand) (t : TypeId)
 (ho : o.op = .call { callee := .builtin .append, args := #[s, x], argTypes := #[t, t] })
 (base : Nat) (e : TypeId) (i : TypeInfo) (z : Value) (size bytes : Nat) (ht : P.underlying t = some (.slice e)) (hi : P.info? e = some i) (hz : i.zero = some z)
 (hsize : i.size = size) (hby : i.bytes = bytes) (hzs : z.cells.size = size) (hsz : 0 < size)
 (v : Value) (n : Nat) (xs : List Value) (hs : a.eval s = v) (hown : w.ownsRow base e size v n xs)
 (Q : Nat → Prop) (A : Option Addr) (m c : Nat) (news : List Value) (hx : a.eval x = .slice A m c) (hr : Rd w Q A m size news) (h1 : ∀ u ∈ news, u.oneCell' = true)
 (h63 : n + m ≤ maxLen) (hbytes : (n + m) * bytes ≤ 140737488355328) (hbase : base ≤ w.heap.size)
 (h : ∀ v' w', w'.ownsRow base e size v' (n + m) (xs ++ news) → w.grownBy w' v.ownBlock → (v'.ownBlock = v.ownBlock ∨ v'.ownBlock = some w.heap.size) → K (a.put o.dst v') w') : o.wp P a w K Q' := by
 obtain ⟨v', w', hrun, h2, h3, h4⟩ := run_app (P := P) w base t o.type e i z size bytes ht hi hz hsize hby hzs hsz v n xs hown Q A m c news hr h1 h63 hbytes hbase
 unfold Oper.wp execOp
 simp only [ho, resolve, invoke, builtin, Sem.run_bind, Sem.run_pure, Result.andThen_ok, List.map_toArray, List.map_cons, List.map_nil, hs, hx, hrun]
 exact h v' w' h2 h3 h4
theorem wpList_app {ops : Array Oper} {rest : List Oper} {o : Oper} {a : Act} {Q' : Exit → Act → World → Prop} (hgd : o.guard = none) (s x : Operand) (t : TypeId)
 (ho : o.op = .call { callee := .builtin .append, args := #[s, x], argTypes := #[t, t] })
 (base : Nat) (e : TypeId) (i : TypeInfo) (z : Value) (size bytes : Nat) (ht : P.underlying t = some (.slice e)) (hi : P.info? e = some i) (hz : i.zero = some z)
 (hsize : i.size = size) (hby : i.bytes = bytes) (hzs : z.cells.size = size) (hsz : 0 < size)
 (v : Value) (n : Nat) (xs : List Value) (hs : a.eval s = v) (hown : w.ownsRow base e size v n xs)
 (Q : Nat → Prop) (A : Option Addr) (m c : Nat) (news : List Value) (hx : a.eval x = .slice A m c) (hr : Rd w Q A m size news) (h1 : ∀ u ∈ news, u.oneCell' = true)
 (h63 : n + m ≤ maxLen) (hbytes : (n + m) * bytes ≤ 140737488355328) (hbase : base ≤ w.heap.size)
 (h : ∀ v' w', w'.ownsRow base e size v' (n + m) (xs ++ news) → w.grownBy w' v.ownBlock → (v'.ownBlock = v.ownBlock ∨ v'.ownBlock = some w.heap.size) → wpList P ops Q' rest (a.put o.dst v') w') : wpList P ops Q' (o :: rest) a w :=
 wpList_plain hgd fun _ hK => wp_app w s x t ho base e i z size bytes ht hi hz hsize hby hzs hsz v n xs hs hown Q A m c news hx hr h1 h63 hbytes hbase fun v' w' h2 h3 h4 => hK _ _ (h v' w' h2 h3 h4)
theorem step_app {ops : Array Oper} {o : Oper} {a : Act} {K : Act → World → Prop} {Q' : Exit → Act → World → Prop} {E : Prop} (hgd : o.guard = none) (s x : Operand) (t : TypeId)
 (ho : o.op = .call { callee := .builtin .append, args := #[s, x], argTypes := #[t, t] })
 (base : Nat) (e : TypeId) (i : TypeInfo) (z : Value) (size bytes : Nat) (ht : P.underlying t = some (.slice e)) (hi : P.info? e = some i) (hz : i.zero = some z)
 (hsize : i.size = size) (hby : i.bytes = bytes) (hzs : z.cells.size = size) (hsz : 0 < size)
 (v : Value) (n : Nat) (xs : List Value) (hs : a.eval s = v) (hown : w.ownsRow base e size v n xs)
 (Q : Nat → Prop) (A : Option Addr) (m c : Nat) (news : List Value) (hx : a.eval x = .slice A m c) (hr : Rd w Q A m size news) (h1 : ∀ u ∈ news, u.oneCell' = true)
 (h63 : n + m ≤ maxLen) (hbytes : (n + m) * bytes ≤ 140737488355328) (hbase : base ≤ w.heap.size)
 (h : ∀ v' w', w'.ownsRow base e size v' (n + m) (xs ++ news) → w.grownBy w' v.ownBlock → (v'.ownBlock = v.ownBlock ∨ v'.ownBlock = some w.heap.size) → K (a.put o.dst v') w') :
 if Region.wanted o (yielded ops a.tmps) = true then Oper.wp P o a w K Q' else E := by
 have hw : Region.wanted o (yielded ops a.tmps) = true := by simp [Region.wanted, hgd]
 rw [if_pos hw]
 exact wp_app w s x t ho base e i z size bytes ht hi hz hsize hby hzs hsz v n xs hs hown Q A m c news hx hr h1 h63 hbytes hbase h
end
theorem rd_new {w : World} {g n size : Nat} {T : TypeId} {xs : List Value} (h : w.heap[g]? = some (.cells xs.toArray T (0, 0))) (hl : xs.length = n * size) : Rd w (fun _ => True) (some ⟨g, 0, none⟩) n size xs :=
 ⟨hl, fun _ => ⟨⟨g, 0, none⟩, rfl, (box_at h).mono (fun _ _ => trivial)⟩⟩
theorem own_listC {α : Type} {El : World → (Nat → Prop) → List Value → α → Prop} {f : α → List Value} {sz : Nat} (hf : ∀ x, (f x).length = sz) {w : World} {Q : Nat → Prop} {base : Nat} {e : TypeId} {v : Value} {xs : List α} (h : w.ownsRow base e sz v xs.length (xs.flatMap f)) (hE : ∀ x ∈ xs, El w Q (f x) x) (hQ : ∀ g, v.ownBlock = some g → Q g) (hm : xs.length ≤ 1000) : ListC El sz w Q [v] xs := by
 rcases Nat.eq_zero_or_pos xs.length with h0 | h0
 · have hx : xs = [] := List.eq_nil_of_length_eq_zero h0
   subst hx
   rcases h.2 with ⟨rfl, _⟩ | ⟨g, cap, cur, rfl, _⟩
   · exact listC0 _ _ _ _
   · rename_i h2
     exact ⟨_, cap, rfl, by simp, h2.2.2.2.1, fun h => absurd h (by simp)⟩
 · obtain ⟨g, cap, rfl, h1, h2⟩ : ∃ g cap, v = .slice (some ⟨g, 0, none⟩) xs.length cap ∧ xs.length ≤ cap ∧ cap ≤ maxLen := by
    rcases h.2 with ⟨_, hz⟩ | ⟨g, cap, cur, hv, _, _, h3, h4, _⟩
    · omega
    · exact ⟨g, cap, hv, h3, h4⟩
   refine ⟨_, cap, rfl, h1, h2, fun _ => ⟨g, 0, rfl, hQ g rfl, fun i x hx => ⟨f x, hE x (List.mem_of_getElem? hx), ?_⟩⟩⟩
   have hat : At w Q ⟨g, 0, none⟩ (xs.flatMap f) := ⟨hQ g rfl, fun j u hu => ⟨h.cells (g := g) rfl j u hu, own_unfrozen h (g := g) rfl j⟩⟩
   have := flat_at f hf xs 0 hat i x hx
   exact this
theorem results_cell {P : Program} {fn : Func} {p : Tmp} {ty : TypeId} (h : fn.results = #[.cell p ty]) (tmps : Array Value) (w : World) (g : Nat) (T : TypeId) (cs : Array Value) (fr : Nat × Nat) (d : TypeDesc)
 (hp : tmps.getD p undef = .pointer (some ⟨g, 0, none⟩)) (hg : w.heap[g]? = some (.cells cs T fr))
 (hu : P.underlying ty = some d) (hd : (match d with | .struct _ | .array _ _ => true | _ => false) = true) (hi : (P.info? ty).map (·.size) = some cs.size) :
 (results fn tmps).run P w = .ok (.agg cs) w := by
 have hp' : tmps[p]?.getD undef = .pointer (some ⟨g, 0, none⟩) := by simpa using hp
 simp [results, h, hp', asAddr, run_loadVar_row w g T ty cs fr d hg hu hd hi]
theorem info_accA : (Tryz.prog.info? 87).map (fun i => (i.zero, i.size, i.bytes)) = some (some (.agg #[.int .i64 0, .int .i64 0, .int .i64 0, .int .i64 0]), 4, 32) := by kernel_rfl
theorem info_linkA : (Tryz.prog.info? 135).map (fun i => (i.zero, i.size, i.bytes)) = some (some (.agg #[.int .i64 0, .int .i64 0, .int .i64 0]), 3, 24) := by kernel_rfl
theorem accs_uty : Tryz.prog.underlying 24 = some (.slice 87) := by kernel_rfl
theorem links_uty : Tryz.prog.underlying 90 = some (.slice 135) := by kernel_rfl
theorem echart_at : ∀ k : Nat, k < 14 → echartS[k]? = some ⟨10 * ((k : Int) + 1), kindsS.getD k 0, 0, 0⟩ := by decide +kernel
theorem elinks_at : ∀ k : Nat, k < 14 → elinksS[k]? = some ⟨10 * ((k : Int) + 1), tosS.getD k 0, -25567⟩ := by decide +kernel
theorem own_shape {w : World} {base : Nat} {e : TypeId} {size n : Nat} {v : Value} {xs : List Value} (h : w.ownsRow base e size v n xs) : ∃ A n c, v = .slice A n c := by
 rcases h.2 with ⟨rfl, _⟩ | ⟨g, cap, cur, rfl, _⟩
 · exact ⟨_, _, _, rfl⟩
 · exact ⟨_, _, _, rfl⟩
theorem own_same {w w' : World} {base : Nat} {e : TypeId} {size n : Nat} {v : Value} {xs : List Value} (h : w.ownsRow base e size v n xs) (hb : ∀ g, v.ownBlock = some g → w'.heap[g]? = w.heap[g]?) : w'.ownsRow base e size v n xs := by
 refine ⟨h.1, ?_⟩
 rcases h.2 with h1 | ⟨g, cap, cur, rfl, h1, h2, h3⟩
 · exact .inl h1
 · exact .inr ⟨g, cap, cur, rfl, h1, (hb g rfl).trans h2, h3⟩
theorem ent_step {W4 wr wb w2 : World} {eb i n nB s sB : Nat} {e eB : TypeId} {vA vB v2 : Value} {xs xsB : List Value} (heb : eb < W4.heap.size) (hF : Fr (QX W4.heap.size eb) W4 wr) (hwb : Below wr.heap.size wr wb) (hg : wb.grownBy w2 vA.ownBlock)
 (hA : ∀ g, vA.ownBlock = some g → W4.heap.size ≤ g) (hB : wr.ownsRow W4.heap.size eB sB vB nB xsB) (hN : ∀ g, vA.ownBlock = some g → vB.ownBlock ≠ some g) (hat : v2.ownBlock = vA.ownBlock ∨ v2.ownBlock = some wb.heap.size) (h2 : w2.ownsRow W4.heap.size e s v2 n xs) :
 (w2.setCell ⟨eb, i, none⟩ v2).ownsRow W4.heap.size e s v2 n xs ∧ (w2.setCell ⟨eb, i, none⟩ v2).ownsRow W4.heap.size eB sB vB nB xsB ∧ Fr (QX W4.heap.size eb) W4 (w2.setCell ⟨eb, i, none⟩ v2) ∧ (∀ g, v2.ownBlock = some g → vB.ownBlock ≠ some g) := by
 refine ⟨own_same h2 (fun g hg' => ?_), own_same hB (fun g hg' => ?_), ?_, fun g hg' hb => ?_⟩
 · have := (h2.lt _ hg').1
   exact Below.heap_setCell w2 ⟨eb, i, none⟩ v2 g (by show g ≠ eb; omega)
 · have h3 := hB.lt _ hg'
   have hsz := hwb.size
   rw [Below.heap_setCell w2 ⟨eb, i, none⟩ v2 g (by show g ≠ eb; omega), hg.block g (by omega) (fun e => hN g e.symm hg'), hwb.block g (by omega)]
 · have hsz := hF.size
   refine Fr.setCell (((hF.trans ((Fr.ofBelow hwb).mono (fun k hk => by have := hk.1; omega))).grown hg (fun k hk => hk.1) (fun k hk hq => ?_))) (fun h => h.2 rfl) v2
   have := hA k hk
   have := hq.1
   omega
 · rcases hat with h | h
   · exact hN g (h ▸ hg') hb
   · rw [h] at hg'
     injection hg' with hg'
     have := (hB.lt _ hb).2
     have := hwb.size
     omega
instance (n : Int) : Decidable (intBd n) := by unfold intBd; infer_instance
theorem echart_bd : ∀ x ∈ echartS, accB x := by
 show ∀ x ∈ echartS, intBd x.code ∧ intBd x.kind ∧ intBd x.basis ∧ intBd x.parent
 decide +kernel
theorem elinks_bd : ∀ x ∈ elinksS, linkBd x := by
 show ∀ x ∈ elinksS, intBd x.from_ ∧ intBd x.to_ ∧ intBd x.since
 decide +kernel
theorem accC_of {w : World} {Q : Nat → Prop} {x : XAccount} (h : accB x) : AccountC w Q (accL x) x := ⟨[_], [_], [_], [_], rfl, ⟨rfl, h.1⟩, ⟨rfl, h.2.1⟩, ⟨rfl, h.2.2.1⟩, ⟨rfl, h.2.2.2⟩⟩
theorem linkC_of {w : World} {Q : Nat → Prop} {x : XLink} (h : linkBd x) : LinkC w Q (linkL x) x := ⟨[_], [_], [_], rfl, ⟨rfl, h.1⟩, ⟨rfl, h.2.1⟩, ⟨rfl, h.2.2⟩⟩
theorem take_flat {α : Type} {f : α → List Value} {l : List α} {k : Nat} {x : α} (h : l[k]? = some x) : (l.take (k + 1)).flatMap f = (l.take k).flatMap f ++ f x := by
 rw [List.take_add_one, h, List.flatMap_append]; simp
theorem chartS_bd : ∀ x ∈ chartS, accB x := by
 show ∀ x ∈ chartS, intBd x.code ∧ intBd x.kind ∧ intBd x.basis ∧ intBd x.parent
 decide +kernel
theorem wpList_built {P : Program} {ops : Array Oper} {rest : List Oper} {o : Oper} {a : Act} {w : World} {Q : Exit → Act → World → Prop} (hg : o.guard = none) (t : TypeId) (parts : Array (Nat × Operand)) (ho : o.op = .build t parts) (vals : List (Nat × Value)) (hv : (parts.map fun (i, x) => (i, a.eval x)).toList = vals) (cells : Array Value) (hc : P.built t vals = some cells)
 (h : wpList P ops Q rest (a.put o.dst (.agg cells)) w) : wpList P ops Q (o :: rest) a w :=
 wpList_build hg t parts ho (by rw [hv, hc]; rfl) (by rw [hv, hc]; exact h)
theorem sample_small : smallG sampleG := by
 refine ⟨by decide, by decide, by decide, ?_⟩
 unfold smallE
 decide
theorem wpList_load_mid_g {P : Program} {ops : Array Oper} {rest : List Oper} {op : Oper} {a : Act} {w : World} {Q : Exit → Act → World → Prop} (hw : Region.wanted op (yielded ops a.tmps) = true) (ty : TypeId) (x : Operand) (ho : op.op = .load ty x)
 (b o : Nat) (hx : a.eval x = .pointer (some ⟨b, o, none⟩)) (cs : List Value) (d : TypeDesc) (hc : w.rangeAt b o cs)
 (hu : P.underlying ty = some d) (hd : d.isRow = true) (hi : (P.info? ty).map (·.size) = some cs.length)
 (h : wpList P ops Q rest (a.put op.dst (.agg cs.toArray)) w) : wpList P ops Q (op :: rest) a w :=
 wpList_step fun K hK => by rw [if_pos hw]; exact wp_load_mid ty x ho b o hx cs d hc hu hd hi (hK _ _ h)
end Go.Proofs.YtekelchdbkjjjaaGreat
