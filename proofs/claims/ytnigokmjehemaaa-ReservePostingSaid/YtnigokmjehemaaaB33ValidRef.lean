/- The reference's Valid of groups. Written by gen_b33.py. -/
import Derived.Test.YtnigokmjehemaaaProg
import Derived.Test.YtnigokmjehemaaaB25Books
import Derived.Test.YtnigokmjehemaaaB31EntityRef
import Derived.Test.YtnigokmjehemaaaB32Few
namespace Go.Proofs.Ytnigokmjehemaaa
open Go Go.RowKit
set_option linter.unusedVariables false
set_option linter.unusedSimpArgs false
set_option maxRecDepth 4000
attribute [local go_sem ↓] Go.wp_at_zero Go.wp_at_succ
theorem rentity_n {cur : ByteArray} {y m p : Int} {Ac Ae : Option Addr} {cc ce n ne : Nat} {ch : List XAccount} {es : List XEntity} {r0 r1 r2 r3 r4 r5 r6 r7 r8 r9 r10 r11 r12 r13 r14 : Int} (hN : ch.length = n) (hE : es.length = ne) {w : World} (hg : GroupC w (· < w.heap.size) (grpL cur y m p Ac ch.length cc r0 r1 r2 r3 r4 r5 r6 r7 r8 r9 r10 r11 r12 r13 r14 Ae es.length ce) ⟨cur, ⟨y, m, p⟩, ch, ⟨r0, r1, r2, r3, r4, r5, r6, r7, r8, r9, r10, r11, r12, r13, r14⟩, es⟩) (hn : ch.length ≤ 1000)
    {s cu : ByteArray} {ec : List XAccount} {ls : List XLink} {jo : Bool} {Ec Al : Option Addr} {c2 cl n2 nl : Nat} (h2 : ec.length = n2) (h3 : ls.length = nl) (hx : EntityC w (· < w.heap.size) (entL s cu Ec ec.length c2 Al ls.length cl jo) ⟨s, cu, ec, ls, jo⟩) (hs : smallE ⟨s, cu, ec, ls, jo⟩) :
    Calls Try.prog 77 #[.agg (grpL cur y m p Ac n cc r0 r1 r2 r3 r4 r5 r6 r7 r8 r9 r10 r11 r12 r13 r14 Ae ne ce).toArray, .agg (entL s cu Ec n2 c2 Al nl cl jo).toArray] w (Quiet w (.bool (entityB ch (rolesOf ⟨r0, r1, r2, r3, r4, r5, r6, r7, r8, r9, r10, r11, r12, r13, r14⟩) ⟨s, cu, ec, ls, jo⟩))) := by
  subst hN hE h2 h3
  exact rentity_c _ _ _ _ w hg hx hn hs.1 hs.2.1 hs.2.2.1 hs.2.2.2
theorem rbooks_n {cur : ByteArray} {y m p : Int} {Ac Ae : Option Addr} {cc ce n ne : Nat} {ch : List XAccount} {es : List XEntity} {r0 r1 r2 r3 r4 r5 r6 r7 r8 r9 r10 r11 r12 r13 r14 : Int} (hN : ch.length = n) (hE : es.length = ne) {w : World} (hg : GroupC w (· < w.heap.size) (grpL cur y m p Ac ch.length cc r0 r1 r2 r3 r4 r5 r6 r7 r8 r9 r10 r11 r12 r13 r14 Ae es.length ce) ⟨cur, ⟨y, m, p⟩, ch, ⟨r0, r1, r2, r3, r4, r5, r6, r7, r8, r9, r10, r11, r12, r13, r14⟩, es⟩) (hn : ch.length ≤ 1000) (hc : cur.size ≤ 1000) : Calls Try.prog 75 #[.agg (grpL cur y m p Ac n cc r0 r1 r2 r3 r4 r5 r6 r7 r8 r9 r10 r11 r12 r13 r14 Ae ne ce).toArray] w (Quiet w (.bool (curB cur && calB y m p && accountsB ch ⟨r0, r1, r2, r3, r4, r5, r6, r7, r8, r9, r10, r11, r12, r13, r14⟩))) := by
  subst hN hE
  exact rbooks_c _ _ w hg hn hc
theorem rFindE_n {cur : ByteArray} {y m p : Int} {Ac Ae : Option Addr} {cc ce n ne : Nat} {ch : List XAccount} {es : List XEntity} {r0 r1 r2 r3 r4 r5 r6 r7 r8 r9 r10 r11 r12 r13 r14 : Int} (hN : ch.length = n) (hE : es.length = ne) {w : World} (hg : GroupC w (· < w.heap.size) (grpL cur y m p Ac ch.length cc r0 r1 r2 r3 r4 r5 r6 r7 r8 r9 r10 r11 r12 r13 r14 Ae es.length ce) ⟨cur, ⟨y, m, p⟩, ch, ⟨r0, r1, r2, r3, r4, r5, r6, r7, r8, r9, r10, r11, r12, r13, r14⟩, es⟩) (hn : es.length ≤ 1000) (nm : ByteArray) {q : Int} {qb : Bool} (hq : findE es nm = (q, qb)) : Calls Try.prog 76 #[.agg (grpL cur y m p Ac n cc r0 r1 r2 r3 r4 r5 r6 r7 r8 r9 r10 r11 r12 r13 r14 Ae ne ce).toArray, .string nm] w (Quiet w (.tuple #[.int .i64 q, .bool qb])) := by
  subst hN hE
  have := rFindE_c _ _ nm w hg hn
  simp only [hq] at this
  exact this
theorem entRow_at {ch : List XAccount} {L : List XRole} {es : List XEntity} {i : Nat} {e : XEntity} (h : es[i]? = some e) : entRow ch L es i = (!((es.take i).any fun x => decide (x.name = e.name)) && entityB ch L e) := by unfold entRow; rw [h]
theorem rgroup_books {g : XGroup} (h : (curB g.currency && calB g.calendar.year g.calendar.month g.calendar.periods && accountsB g.chart g.roles) = false) : groupB g = false := by unfold groupB; rw [h]; simp
theorem rgroup_len {g : XGroup} (h : ¬ (1 ≤ g.entities.length ∧ g.entities.length ≤ 12)) : groupB g = false := by unfold groupB; rw [decide_eq_false h]; simp
theorem rgroup_joint {g : XGroup} {e : XEntity} (h : g.entities[0]? = some e) (hj : e.joint = true) : groupB g = false := by unfold groupB; rw [List.getD_eq_getElem?_getD, h, Option.getD_some, hj]; simp
theorem rgroup_row {g : XGroup} {k : Nat} (hk : k < g.entities.length) (h : entRow g.chart (rolesOf g.roles) g.entities k = false) : groupB g = false := by unfold groupB entsB; rw [all_range_false hk h]; simp
theorem rgroup_all {g : XGroup} {e : XEntity} (h1 : (curB g.currency && calB g.calendar.year g.calendar.month g.calendar.periods && accountsB g.chart g.roles) = true) (h4 : 1 ≤ g.entities.length ∧ g.entities.length ≤ 12) (h5 : g.entities[0]? = some e) (hj : e.joint = false) (h : ∀ k, k < g.entities.length → entRow g.chart (rolesOf g.roles) g.entities k = true) : groupB g = true := by
  unfold groupB entsB
  rw [h1, decide_eq_true h4, List.getD_eq_getElem?_getD, h5, Option.getD_some, hj, all_range_true h]; rfl
set_option maxHeartbeats 4000000 in
theorem rgroup_c (g : XGroup) (cs : List Value) (w : World) (hg : GroupC w (· < w.heap.size) cs g) (hsm : smallG g) : Calls Try.prog 25 #[.agg cs.toArray] w (Quiet w (.bool (groupB g))) := by
  obtain ⟨r, hr⟩ : ∃ r, groupB g = r := ⟨_, rfl⟩
  rw [hr]
  have HR := Lib.hid hr
  have HGC := Lib.hid hg
  obtain ⟨hn, hne1, hcs, hse⟩ := hsm
  clear hr
  obtain ⟨Ac, cc, Ae, ce, rfl, hch, hen, hcal, hro⟩ := hg.lit
  clear hg
  obtain ⟨cur, ⟨y, m, p⟩, ch, ⟨r0, r1, r2, r3, r4, r5, r6, r7, r8, r9, r10, r11, r12, r13, r14⟩, es⟩ := g
  simp only at hcs hne1 hse HR hch hen hro hcal hn ⊢
  have HSE := Lib.hid hse
  have HNN := Lib.hid hn
  have HNE1 := Lib.hid hne1
  obtain ⟨L, hL⟩ : ∃ L, rolesL r0 r1 r2 r3 r4 r5 r6 r7 r8 r9 r10 r11 r12 r13 r14 = L := ⟨_, rfl⟩
  have hLl : L.length = 15 := by rw [← hL]; rfl
  have HLQ := Lib.hid hL
  have HLL := Lib.hid hLl
  obtain ⟨n, hnl⟩ : ∃ n, ch.length = n := ⟨_, rfl⟩
  obtain ⟨ne, hne⟩ : ∃ ne, es.length = ne := ⟨_, rfl⟩
  have HL := Lib.hid hch
  have HN := Lib.hid hnl
  have HE := Lib.hid hen
  have HNE := Lib.hid hne
  rw [hnl, hne]
  rw [hnl] at hn
  clear hL hLl hch hen hnl hne hcal
  clear hro hse hne1
  show Calls Try.prog 25 #[.agg #[.string cur, .int .i64 y, .int .i64 m, .int .i64 p, .slice Ac n cc, .int .i64 r0, .int .i64 r1, .int .i64 r2, .int .i64 r3, .int .i64 r4, .int .i64 r5, .int .i64 r6, .int .i64 r7, .int .i64 r8, .int .i64 r9, .int .i64 r10, .int .i64 r11, .int .i64 r12, .int .i64 r13, .int .i64 r14, .slice Ae ne ce]] w (Quiet w (.bool r))
  go_enter Try.func25, Try.ntmps25
  go_upto_region 1 with fail
  have H := heap_alloc_new w (.cells #[.string cur, .int .i64 y, .int .i64 m, .int .i64 p, .slice Ac n cc, .int .i64 r0, .int .i64 r1, .int .i64 r2, .int .i64 r3, .int .i64 r4, .int .i64 r5, .int .i64 r6, .int .i64 r7, .int .i64 r8, .int .i64 r9, .int .i64 r10, .int .i64 r11, .int .i64 r12, .int .i64 r13, .int .i64 r14, .slice Ae ne ce] 29)
  have HB := below1 w (.cells #[.string cur, .int .i64 y, .int .i64 m, .int .i64 p, .slice Ac n cc, .int .i64 r0, .int .i64 r1, .int .i64 r2, .int .i64 r3, .int .i64 r4, .int .i64 r5, .int .i64 r6, .int .i64 r7, .int .i64 r8, .int .i64 r9, .int .i64 r10, .int .i64 r11, .int .i64 r12, .int .i64 r13, .int .i64 r14, .slice Ae ne ce] 29)
  have HS : w.heap.size < (w.alloc (.cells #[.string cur, .int .i64 y, .int .i64 m, .int .i64 p, .slice Ac n cc, .int .i64 r0, .int .i64 r1, .int .i64 r2, .int .i64 r3, .int .i64 r4, .int .i64 r5, .int .i64 r6, .int .i64 r7, .int .i64 r8, .int .i64 r9, .int .i64 r10, .int .i64 r11, .int .i64 r12, .int .i64 r13, .int .i64 r14, .slice Ae ne ce] 29)).heap.size := blk_lt H
  generalize hW : w.alloc (Obj.cells #[.string cur, .int .i64 y, .int .i64 m, .int .i64 p, .slice Ac n cc, .int .i64 r0, .int .i64 r1, .int .i64 r2, .int .i64 r3, .int .i64 r4, .int .i64 r5, .int .i64 r6, .int .i64 r7, .int .i64 r8, .int .i64 r9, .int .i64 r10, .int .i64 r11, .int .i64 r12, .int .i64 r13, .int .i64 r14, .slice Ae ne ce] 29) = W at *
  clear hW
  have HATG := Lib.hid (box_at (cs := grpL cur y m p Ac n cc r0 r1 r2 r3 r4 r5 r6 r7 r8 r9 r10 r11 r12 r13 r14 Ae ne ce) H)
  have HH := Lib.hid H
  have HB0 := Lib.hid (rbooks_n HN.out HNE.out (GroupC.keep HGC.out HB) HNN.out hcs)
  clear H
  obtain ⟨v0, hv0⟩ : ∃ v, (curB cur && calB y m p && accountsB ch ⟨r0, r1, r2, r3, r4, r5, r6, r7, r8, r9, r10, r11, r12, r13, r14⟩) = v := ⟨_, rfl⟩
  rw [hv0] at HB0
  have HV0 := Lib.hid hv0
  clear hv0
  go_wp2_with (show wpList _ _ _ (Oper.mk (some 6) _ _ _ _ _ :: _) _ _; refine wpList_load_row_g rfl 29 (.tmp 1) rfl w.heap.size rfl _ _ _ _ HH.out Try.underlying29 rfl info_group ?_)
  refine HB0.out.mono ?_
  rintro e w4 ⟨rfl, hb4⟩
  have hb04 := HB.trans (hb4.mono HB.size)
  have hs4 := hb4.size
  cases v0 with
  | false =>
    have hf := Lib.hid (show r = false by rw [← HR.out]; exact rgroup_books HV0.out)
    go_wp2_with fail
    go_ret
    exact ⟨by rw [hf.out]; first | done | rfl, hb04⟩
  | true =>
  have G4 := (hb4.block _ HS).trans HH.out
  have f20 := blk_cell G4 20
  by_cases h1 : ne < 1
  case pos =>
    have h1I : (ne : Int) < 1 := by omega
    have hf := Lib.hid (show r = false by rw [← HR.out]; exact rgroup_len (fun h => by have := h.1; have := HNE.out; simp only at *; omega))
    go_wp2_with fail
    go_ret
    exact ⟨by rw [hf.out]; first | done | rfl, hb04⟩
  case neg =>
  have h1I : ¬ (ne : Int) < 1 := by omega
  by_cases h2 : 12 < ne
  case pos =>
    have h2I : 12 < (ne : Int) := by omega
    have hf := Lib.hid (show r = false by rw [← HR.out]; exact rgroup_len (fun h => by have := h.2; have := HNE.out; simp only at *; omega))
    go_wp2_with fail
    go_ret
    exact ⟨by rw [hf.out]; first | done | rfl, hb04⟩
  case neg =>
  have h2I : ¬ 12 < (ne : Int) := by omega
  have h3I : (0 : Int) < (ne : Int) := by omega
  have hl0 : 0 < es.length := by rw [HNE.out]; omega
  obtain ⟨b, o, hAe, hbw, hel⟩ := ListC.base HE.out (by omega)
  subst hAe
  obtain ⟨es0, hes0, hat0⟩ := hel 0 hl0
  have HEL := Lib.hid hel
  obtain ⟨Ec, c2, Al, cl, rfl, _, _⟩ := hes0.lit
  obtain ⟨x0, hx0⟩ : ∃ x0, es[0] = x0 := ⟨_, rfl⟩
  rw [hx0] at hat0
  have HX0 := Lib.hid (show es[0]? = some x0 by rw [List.getElem?_eq_getElem hl0, hx0])
  have j0 := (hat0.fr (Fr.ofBelow hb04)).c (j := 4) rfl
  obtain ⟨J, hJ⟩ : ∃ J, x0.joint = J := ⟨_, rfl⟩
  rw [hJ, Nat.zero_mul, Nat.add_zero] at j0
  have HJ := Lib.hid hJ
  clear hes0 hat0 hel hx0 hJ
  cases J with
  | true =>
    have hf := Lib.hid (show r = false by rw [← HR.out]; exact rgroup_joint HX0.out HJ.out)
    go_wp2_with fail
    go_ret
    exact ⟨by rw [hf.out]; first | done | rfl, hb04⟩
  | false =>
  have HG4 := Lib.hid G4
  have HAT4 := Lib.hid ((HATG.out.fr (Fr.ofBelow hb4)).mono (Q' := (· < w4.heap.size)) (fun k (hk : k < W.heap.size) => by omega))
  clear G4
  go_wp2_with fail
  go_loopw [3] (fun i wr => ∃ k : Nat, k ≤ ne ∧ i = .int .i64 (k : Int) ∧ Below w4.heap.size w4 wr ∧ ∀ j, j < k → entRow ch (rolesOf ⟨r0, r1, r2, r3, r4, r5, r6, r7, r8, r9, r10, r11, r12, r13, r14⟩) es j = true) (fun i _ => ne - (intOf i).toNat)
  case atStart => exact ⟨0, by omega, rfl, Below.refl _ _, fun j hj => by omega⟩
  case round =>
    obtain ⟨k, hk, rfl, hb, hall⟩ := hrel
    have HA := Lib.hid hall
    have hsz := hb.size
    clear hall f20 j0
    have hb0 := hb04.trans (hb.mono hb04.size)
    have GR := (hb.block w.heap.size (by omega)).trans HG4.out
    have d20 := blk_cell GR 20
    clear GR
    by_cases hlt : k < ne
    case pos =>
      have hltI : (k : Int) < (ne : Int) := by omega
      have hkl : k < es.length := by rw [HNE.out]; exact hlt
      obtain ⟨es1, hes, hat⟩ := HEL.out k hkl
      obtain ⟨Ec, c2, Al, cl, rfl, _, _⟩ := hes.lit
      obtain ⟨x, hx⟩ : ∃ x, es[k] = x := ⟨_, rfl⟩
      have hsx := HSE.out _ (List.getElem_mem hkl)
      rw [hx] at hes hat hsx
      have HX := Lib.hid (show es[k]? = some x by rw [List.getElem?_eq_getElem hkl, hx])
      obtain ⟨s, cu, ec, ls, jo⟩ := x
      simp only at hes hat
      have hE := fun (w2 : World) (hb : Below w.heap.size w w2) => fun {n2 nl : Nat} (h2 : ec.length = n2) (h3 : ls.length = nl) => rentity_n HN.out HNE.out (GroupC.keep HGC.out hb) HNN.out h2 h3 (EntityC.keep hes hb) hsx
      have hat2 := hat.fr (Fr.ofBelow hb0)
      obtain ⟨n2, hn2⟩ : ∃ n, ec.length = n := ⟨_, rfl⟩
      obtain ⟨nl, hnl⟩ : ∃ n, ls.length = n := ⟨_, rfl⟩
      rw [hn2, hnl] at hat2
      have K0 := Lib.hid (show wr.cell? ⟨b, o + k * 5, none⟩ = some (.string s) from by have := hat2.c (j := 0) rfl; rwa [Nat.add_zero] at this)
      have HARW := Lib.hid (hat2.mono (Q' := (· < wr.heap.size)) (fun k (hk : k < w.heap.size) => by have := hb0.size; omega))
      have HEN := Lib.hid (fun (w2 : World) (hb : Below w.heap.size w w2) => hE w2 hb hn2 hnl)
      have HBW := Lib.hid hb0
      have LTB := Lib.hid (show b < wr.heap.size by have h : b < w.heap.size := hbw; have := hb0.size; omega)
      have LTG := Lib.hid (show w.heap.size < wr.heap.size by omega)
      have D20 := Lib.hid (show wr.cell? ⟨w.heap.size, 20, none⟩ = some (.slice (some ⟨b, o, none⟩) ne ce) from d20)
      have HATW := Lib.hid ((HAT4.out.fr (Fr.ofBelow hb)).mono (Q' := (· < wr.heap.size)) (fun k (hk : k < w4.heap.size) => by omega))
      obtain ⟨qq, hqq⟩ : ∃ q, findE es s = q := ⟨_, rfl⟩
      obtain ⟨q, qf⟩ := qq
      have HFE := Lib.hid hqq
      have HOWN := Lib.hid (findE_own HX.out)
      clear hes hat hat2 hx hE hsx hn2 hnl hqq
      go_upto_region 6 with fail
      refine wp_region_inv' (Ks wr [.val (.agg (grpL cur y m p Ac n cc r0 r1 r2 r3 r4 r5 r6 r7 r8 r9 r10 r11 r12 r13 r14 (some ⟨b, o, none⟩) ne ce).toArray), .val (.pointer (some ⟨w.heap.size, 20, none⟩)), .val (.slice (some ⟨b, o, none⟩) ne ce), .val (.int .i64 (k : Int)), .val (.pointer (some ⟨b, o + k * 5, none⟩)), .val (.pointer (some ⟨b, o + k * 5, none⟩)), .val (.string s), .val (.tuple #[.int .i64 q, .bool qf]), .val (.tuple #[.int .i64 q, .bool qf]), .val (.int .i64 q), .val (.bool qf), .val (.int .i64 q), .val (.bool qf)])
        (fun w' => Below wr.heap.size wr w') (by kernel_rfl) (by kernel_rfl) (by kernel_rfl) (Below.refl _ _).drew ?_ ?_
      · refine ⟨?_, ?_, ?_, ?_, ?_, ?_, ?_, ?_, ?_, ?_, ?_, ?_, ?_, trivial⟩
        · intro listed A0 w2 hI hd hnd K hK
          have e0 := hI.slot hnd 1 _ rfl (by kernel_rfl)
          have hS := hI.world
          have hrange : w2.rangeAt w.heap.size 0 (grpL cur y m p Ac n cc r0 r1 r2 r3 r4 r5 r6 r7 r8 r9 r10 r11 r12 r13 r14 (some ⟨b, o, none⟩) ne ce) := (HATW.out.fr (Fr.ofBelow hS)).range
          have hisize : (Try.prog.info? 29).map (·.size) = some (grpL cur y m p Ac n cc r0 r1 r2 r3 r4 r5 r6 r7 r8 r9 r10 r11 r12 r13 r14 (some ⟨b, o, none⟩) ne ce).length := info_group
          refine wanted_go rfl ?_
          clear hI hd hnd
          refine wp_load_mid 29 (.tmp 1) rfl _ _ (by simpa [Act.eval, Array.getD_eq_getD_getElem?] using e0) _ _ hrange Try.underlying29 rfl hisize ?_
          exact hK.out _ _ hS (Ks.of rfl rfl) (fun _ _ h => h)
        · intro listed A0 w2 hI hd hnd K hK
          have e0 := hI.slot hnd 1 _ rfl (by kernel_rfl)
          have hS := hI.world
          refine wanted_go rfl ?_
          clear hI hd hnd
          go_simp
          exact hK.out _ _ hS (Ks.of rfl rfl) (fun _ _ h => h)
        · intro listed A0 w2 hI hd hnd K hK
          have e0 := hI.depv hd 1 37 _ rfl rfl rfl (by kernel_rfl)
          have hS := hI.world
          have hcc : w2.cell? ⟨w.heap.size, 20, none⟩ = _ := (hS.cell (p := ⟨w.heap.size, 20, none⟩) LTG.out).trans D20.out
          refine wanted_go rfl ?_
          clear hI hd hnd
          go_simp
          exact hK.out _ _ hS (Ks.of rfl rfl) (fun _ _ h => h)
        · intro listed A0 w2 hI hd hnd K hK
          have e0 := hI.slot hnd 3 _ rfl (by kernel_rfl)
          have hS := hI.world
          refine wanted_go rfl ?_
          clear hI hd hnd
          go_simp
          exact hK.out _ _ hS (Ks.of rfl rfl) (fun _ _ h => h)
        · intro listed A0 w2 hI hd hnd K hK
          have e0 := hI.depv hd 2 38 _ rfl rfl rfl (by kernel_rfl)
          have e1 := hI.depv hd 3 39 _ rfl rfl rfl (by kernel_rfl)
          have hS := hI.world
          refine wanted_go rfl ?_
          clear hI hd hnd
          go_simp
          exact hK.out _ _ hS (Ks.of rfl rfl) (fun _ _ h => h)
        · intro listed A0 w2 hI hd hnd K hK
          have e0 := hI.depv hd 4 40 _ rfl rfl rfl (by kernel_rfl)
          have hS := hI.world
          refine wanted_go rfl ?_
          clear hI hd hnd
          go_simp
          exact hK.out _ _ hS (Ks.of rfl rfl) (fun _ _ h => h)
        · intro listed A0 w2 hI hd hnd K hK
          have e0 := hI.depv hd 5 41 _ rfl rfl rfl (by kernel_rfl)
          have hS := hI.world
          have hcc : w2.cell? ⟨b, o + k * 5, none⟩ = _ := (hS.cell (p := ⟨b, o + k * 5, none⟩) LTB.out).trans K0.out
          refine wanted_go rfl ?_
          clear hI hd hnd
          go_simp
          exact hK.out _ _ hS (Ks.of rfl rfl) (fun _ _ h => h)
        · intro listed A0 w2 hI hd hnd K hK
          have e0 := hI.depv hd 0 36 _ rfl rfl rfl (by kernel_rfl)
          have e1 := hI.depv hd 6 42 _ rfl rfl rfl (by kernel_rfl)
          have hS := hI.world
          refine wanted_go rfl ?_
          clear hI hd hnd
          go_simp
          go_at_call 76
          refine (rFindE_n HN.out HNE.out (GroupC.keep HGC.out (HBW.out.trans (hS.mono HBW.out.size))) HNE1.out s HFE.out).mono ?_
          rintro e w3 ⟨rfl, h3⟩
          exact hK.out _ _ (hS.trans (h3.mono hS.size)) (Ks.of rfl rfl) (Ks.keep h3)
        · intro listed A0 w2 hI hd hnd K hK
          have e0 := hI.depv hd 7 43 _ rfl rfl rfl (by kernel_rfl)
          have hS := hI.world
          refine wanted_go rfl ?_
          clear hI hd hnd
          go_simp
          exact hK.out _ _ hS (Ks.of rfl rfl) (fun _ _ h => h)
        · intro listed A0 w2 hI hd hnd K hK
          have e0 := hI.depv hd 8 35 _ rfl rfl rfl (by kernel_rfl)
          have hS := hI.world
          refine wanted_go rfl ?_
          clear hI hd hnd
          go_simp
          exact hK.out _ _ hS (Ks.of rfl rfl) (fun _ _ h => h)
        · intro listed A0 w2 hI hd hnd K hK
          have e0 := hI.depv hd 8 35 _ rfl rfl rfl (by kernel_rfl)
          have hS := hI.world
          refine wanted_go rfl ?_
          clear hI hd hnd
          go_simp
          exact hK.out _ _ hS (Ks.of rfl rfl) (fun _ _ h => h)
        · intro listed A0 w2 hI hd hnd K hK
          have e0 := hI.depv hd 9 44 _ rfl rfl rfl (by kernel_rfl)
          have hS := hI.world
          refine wanted_go rfl ?_
          clear hI hd hnd
          go_simp
          exact hK.out _ _ hS (Ks.of rfl rfl) (fun _ _ h => h)
        · intro listed A0 w2 hI hd hnd K hK
          have e0 := hI.depv hd 10 45 _ rfl rfl rfl (by kernel_rfl)
          have hS := hI.world
          refine wanted_go rfl ?_
          clear hI hd hnd
          go_simp
          exact hK.out _ _ hS (Ks.of rfl rfl) (fun _ _ h => h)
      · intro listed A0 w2 hI hall
        obtain ⟨x0, g0, h0⟩ := hI.got 0 _ 36 rfl rfl (hall 0 (by decide))
        obtain ⟨x1, g1, h1⟩ := hI.got 1 _ 37 rfl rfl (hall 1 (by decide))
        obtain ⟨x2, g2, h2⟩ := hI.got 2 _ 38 rfl rfl (hall 2 (by decide))
        obtain ⟨x3, g3, h3⟩ := hI.got 3 _ 39 rfl rfl (hall 3 (by decide))
        obtain ⟨x4, g4, h4⟩ := hI.got 4 _ 40 rfl rfl (hall 4 (by decide))
        obtain ⟨x5, g5, h5⟩ := hI.got 5 _ 41 rfl rfl (hall 5 (by decide))
        obtain ⟨x6, g6, h6⟩ := hI.got 6 _ 42 rfl rfl (hall 6 (by decide))
        obtain ⟨x7, g7, h7⟩ := hI.got 7 _ 43 rfl rfl (hall 7 (by decide))
        obtain ⟨x8, g8, h8⟩ := hI.got 8 _ 35 rfl rfl (hall 8 (by decide))
        obtain ⟨x9, g9, h9⟩ := hI.got 9 _ 44 rfl rfl (hall 9 (by decide))
        obtain ⟨x10, g10, h10⟩ := hI.got 10 _ 45 rfl rfl (hall 10 (by decide))
        obtain ⟨x11, g11, h11⟩ := hI.got 11 _ 4 rfl rfl (hall 11 (by decide))
        obtain ⟨x12, g12, h12⟩ := hI.got 12 _ 5 rfl rfl (hall 12 (by decide))
        have hS := hI.world
        have hA : A0 = _ := hI.tmps [(36, x0), (37, x1), (38, x2), (39, x3), (40, x4), (41, x5), (42, x6), (43, x7), (35, x8), (44, x9), (45, x10), (4, x11), (5, x12)] (by simp only [List.mem_cons, List.not_mem_nil, or_false, forall_eq_or_imp, forall_eq]; exact ⟨g0, g1, g2, g3, g4, g5, g6, g7, g8, g9, g10, g11, g12⟩) (by kernel_rfl)
        obtain rfl : x11 = .int .i64 q := h11 _ rfl
        obtain rfl : x12 = .bool qf := h12 _ rfl
        clear h0 g0 h1 g1 h2 g2 h3 g3 h4 g4 h5 g5 h6 g6 h7 g7 h8 g8 h9 g9 h10 g10 h11 g11 h12 g12 hI hall
        simp only [setAll, List.foldl, List.setIfInBounds_toArray, List.set_cons_zero, List.set_cons_succ] at hA
        rw [hA]
        clear hA
        generalize w2 = V at *
        have hSV := hS.size
        have HBV := Lib.hid (HBW.out.trans (hS.mono HBW.out.size))
        have HWV := Lib.hid hS
        have HATV := Lib.hid ((HATW.out.fr (Fr.ofBelow hS)).mono (Q' := (· < V.heap.size)) (fun k (hk : k < wr.heap.size) => by omega))
        have HARV := Lib.hid ((HARW.out.fr (Fr.ofBelow hS)).mono (Q' := (· < V.heap.size)) (fun k (hk : k < wr.heap.size) => by omega))
        have LTGV := Lib.hid (show w.heap.size < V.heap.size by omega)
        have D20V := Lib.hid ((hS.cell (p := ⟨w.heap.size, 20, none⟩) LTG.out).trans D20.out)
        clear hS
        by_cases hq : q = (k : Int)
        case neg =>
          have hf := Lib.hid (show r = false by
            rw [← HR.out]
            refine rgroup_row hkl ?_
            rw [entRow_at HX.out]
            cases hany : (es.take k).any (fun x => decide (x.name = s)) with
            | true => rfl
            | false => exact absurd (by have := HOWN.out.2 hany; rw [HFE.out] at this; exact this) hq)
          have hq' : (q != (k : Int)) = true := by simpa using hq
          go_upto_region 7 with fail
          refine wp_region_inv' (Ks V [.val (.int .i64 q), .val (.int .i64 (k : Int)), .val (.bool true), .val (.bool true), .val (undef), .val (undef), .val (undef), .val (undef), .val (undef), .val (undef), .val (undef), .val (undef), .val (.bool true)])
            (fun w' => Below V.heap.size V w') (by kernel_rfl) (by kernel_rfl) (by kernel_rfl) (Below.refl _ _).drew ?_ ?_
          · refine ⟨?_, ?_, ?_, ?_, ?_, ?_, ?_, ?_, ?_, ?_, ?_, ?_, ?_, trivial⟩
            · intro listed A0 w2 hI hd hnd K hK
              have e0 := hI.slot hnd 4 _ rfl (by kernel_rfl)
              have hS := hI.world
              refine wanted_go rfl ?_
              clear hI hd hnd
              go_simp
              exact hK.out _ _ hS (Ks.of rfl rfl) (fun _ _ h => h)
            · intro listed A0 w2 hI hd hnd K hK
              have e0 := hI.slot hnd 3 _ rfl (by kernel_rfl)
              have hS := hI.world
              refine wanted_go rfl ?_
              clear hI hd hnd
              go_simp
              exact hK.out _ _ hS (Ks.of rfl rfl) (fun _ _ h => h)
            · intro listed A0 w2 hI hd hnd K hK
              have e0 := hI.depv hd 0 46 _ rfl rfl rfl (by kernel_rfl)
              have e1 := hI.depv hd 1 47 _ rfl rfl rfl (by kernel_rfl)
              have hS := hI.world
              refine wanted_go rfl ?_
              clear hI hd hnd
              go_simp
              exact hK.out _ _ hS (Ks.of rfl rfl) (fun _ _ h => h)
            · intro listed A0 w2 hI hd hnd K hK
              have e0 := hI.depv hd 2 48 _ rfl rfl rfl (by kernel_rfl)
              have hS := hI.world
              refine wanted_go rfl ?_
              clear hI hd hnd
              go_simp
              exact hK.out _ _ hS (Ks.of rfl rfl) (fun _ _ h => h)
            · intro listed A0 w2 hI hd hnd K hK
              have hS := hI.world
              refine wanted_no rfl (hI.yield hd 3 49 true rfl rfl rfl (by kernel_rfl)) rfl ?_
              exact hK.out _ _ hS (Ks.of rfl rfl) (fun _ _ h => h)
            · intro listed A0 w2 hI hd hnd K hK
              have hS := hI.world
              refine wanted_no rfl (hI.yield hd 3 49 true rfl rfl rfl (by kernel_rfl)) rfl ?_
              exact hK.out _ _ hS (Ks.of rfl rfl) (fun _ _ h => h)
            · intro listed A0 w2 hI hd hnd K hK
              have hS := hI.world
              refine wanted_no rfl (hI.yield hd 3 49 true rfl rfl rfl (by kernel_rfl)) rfl ?_
              exact hK.out _ _ hS (Ks.of rfl rfl) (fun _ _ h => h)
            · intro listed A0 w2 hI hd hnd K hK
              have hS := hI.world
              refine wanted_no rfl (hI.yield hd 3 49 true rfl rfl rfl (by kernel_rfl)) rfl ?_
              exact hK.out _ _ hS (Ks.of rfl rfl) (fun _ _ h => h)
            · intro listed A0 w2 hI hd hnd K hK
              have hS := hI.world
              refine wanted_no rfl (hI.yield hd 3 49 true rfl rfl rfl (by kernel_rfl)) rfl ?_
              exact hK.out _ _ hS (Ks.of rfl rfl) (fun _ _ h => h)
            · intro listed A0 w2 hI hd hnd K hK
              have hS := hI.world
              refine wanted_no rfl (hI.yield hd 3 49 true rfl rfl rfl (by kernel_rfl)) rfl ?_
              exact hK.out _ _ hS (Ks.of rfl rfl) (fun _ _ h => h)
            · intro listed A0 w2 hI hd hnd K hK
              have hS := hI.world
              refine wanted_no rfl (hI.yield hd 3 49 true rfl rfl rfl (by kernel_rfl)) rfl ?_
              exact hK.out _ _ hS (Ks.of rfl rfl) (fun _ _ h => h)
            · intro listed A0 w2 hI hd hnd K hK
              have hS := hI.world
              refine wanted_no rfl (hI.yield hd 3 49 true rfl rfl rfl (by kernel_rfl)) rfl ?_
              exact hK.out _ _ hS (Ks.of rfl rfl) (fun _ _ h => h)
            · intro listed A0 w2 hI hd hnd K hK
              have e0 := hI.depv hd 3 49 _ rfl rfl rfl (by kernel_rfl)
              have e1 := hI.depv hd 11 57 _ rfl rfl rfl (by kernel_rfl)
              have hS := hI.world
              refine wanted_go rfl ?_
              clear hI hd hnd
              go_simp
              exact hK.out _ _ hS (Ks.of rfl rfl) (fun _ _ h => h)
          · intro listed A0 w2 hI hall
            obtain ⟨x0, g0, h0⟩ := hI.got 0 _ 46 rfl rfl (hall 0 (by decide))
            obtain ⟨x1, g1, h1⟩ := hI.got 1 _ 47 rfl rfl (hall 1 (by decide))
            obtain ⟨x2, g2, h2⟩ := hI.got 2 _ 48 rfl rfl (hall 2 (by decide))
            obtain ⟨x3, g3, h3⟩ := hI.got 3 _ 49 rfl rfl (hall 3 (by decide))
            obtain ⟨x4, g4, h4⟩ := hI.got 4 _ 50 rfl rfl (hall 4 (by decide))
            obtain ⟨x5, g5, h5⟩ := hI.got 5 _ 51 rfl rfl (hall 5 (by decide))
            obtain ⟨x6, g6, h6⟩ := hI.got 6 _ 52 rfl rfl (hall 6 (by decide))
            obtain ⟨x7, g7, h7⟩ := hI.got 7 _ 53 rfl rfl (hall 7 (by decide))
            obtain ⟨x8, g8, h8⟩ := hI.got 8 _ 54 rfl rfl (hall 8 (by decide))
            obtain ⟨x9, g9, h9⟩ := hI.got 9 _ 55 rfl rfl (hall 9 (by decide))
            obtain ⟨x10, g10, h10⟩ := hI.got 10 _ 56 rfl rfl (hall 10 (by decide))
            obtain ⟨x11, g11, h11⟩ := hI.got 11 _ 57 rfl rfl (hall 11 (by decide))
            obtain ⟨x12, g12, h12⟩ := hI.got 12 _ 58 rfl rfl (hall 12 (by decide))
            have hS := hI.world
            have hA : A0 = _ := hI.tmps [(46, x0), (47, x1), (48, x2), (49, x3), (50, x4), (51, x5), (52, x6), (53, x7), (54, x8), (55, x9), (56, x10), (57, x11), (58, x12)] (by simp only [List.mem_cons, List.not_mem_nil, or_false, forall_eq_or_imp, forall_eq]; exact ⟨g0, g1, g2, g3, g4, g5, g6, g7, g8, g9, g10, g11, g12⟩) (by kernel_rfl)
            obtain rfl : x12 = .bool true := h12 _ rfl
            clear h0 g0 h1 g1 h2 g2 h3 g3 h4 g4 h5 g5 h6 g6 h7 g7 h8 g8 h9 g9 h10 g10 h11 g11 h12 g12 hI hall
            simp only [setAll, List.foldl, List.setIfInBounds_toArray, List.set_cons_zero, List.set_cons_succ] at hA
            rw [hA]
            clear hA
            go_wp2_with fail
            go_ret
            exact ⟨by rw [hf.out]; first | done | rfl, HBV.out.trans (hS.mono HBV.out.size)⟩
        case pos =>
          have HAN := Lib.hid (show ((es.take k).any fun x => decide (x.name = s)) = false from HOWN.out.1 (by rw [HFE.out]; exact hq))
          subst hq
          obtain ⟨v, hv⟩ : ∃ v, entityB ch (rolesOf ⟨r0, r1, r2, r3, r4, r5, r6, r7, r8, r9, r10, r11, r12, r13, r14⟩) ⟨s, cu, ec, ls, jo⟩ = v := ⟨_, rfl⟩
          have HROW := Lib.hid (show entRow ch (rolesOf ⟨r0, r1, r2, r3, r4, r5, r6, r7, r8, r9, r10, r11, r12, r13, r14⟩) es k = v by rw [entRow_at HX.out, hv, HAN.out]; rfl)
          have HV := Lib.hid hv
          clear hv
          cases v with
          | false =>
            have hf := Lib.hid (show r = false by rw [← HR.out]; exact rgroup_row hkl HROW.out)
            go_upto_region 7 with fail
            refine wp_region_inv' (Ks V [.val (.int .i64 (k : Int)), .val (.int .i64 (k : Int)), .val (.bool false), .val (.bool false), .val (.agg (grpL cur y m p Ac n cc r0 r1 r2 r3 r4 r5 r6 r7 r8 r9 r10 r11 r12 r13 r14 (some ⟨b, o, none⟩) ne ce).toArray), .val (.pointer (some ⟨w.heap.size, 20, none⟩)), .val (.slice (some ⟨b, o, none⟩) ne ce), .val (.int .i64 (k : Int)), .val (.pointer (some ⟨b, o + k * 5, none⟩)), .val (.agg (entL s cu Ec n2 c2 Al nl cl jo).toArray), .val (.bool false), .val (.bool true), .val (.bool true)])
              (fun w' => Below V.heap.size V w') (by kernel_rfl) (by kernel_rfl) (by kernel_rfl) (Below.refl _ _).drew ?_ ?_
            · refine ⟨?_, ?_, ?_, ?_, ?_, ?_, ?_, ?_, ?_, ?_, ?_, ?_, ?_, trivial⟩
              · intro listed A0 w2 hI hd hnd K hK
                have e0 := hI.slot hnd 4 _ rfl (by kernel_rfl)
                have hS := hI.world
                refine wanted_go rfl ?_
                clear hI hd hnd
                go_simp
                exact hK.out _ _ hS (Ks.of rfl rfl) (fun _ _ h => h)
              · intro listed A0 w2 hI hd hnd K hK
                have e0 := hI.slot hnd 3 _ rfl (by kernel_rfl)
                have hS := hI.world
                refine wanted_go rfl ?_
                clear hI hd hnd
                go_simp
                exact hK.out _ _ hS (Ks.of rfl rfl) (fun _ _ h => h)
              · intro listed A0 w2 hI hd hnd K hK
                have e0 := hI.depv hd 0 46 _ rfl rfl rfl (by kernel_rfl)
                have e1 := hI.depv hd 1 47 _ rfl rfl rfl (by kernel_rfl)
                have hS := hI.world
                refine wanted_go rfl ?_
                clear hI hd hnd
                go_simp
                exact hK.out _ _ hS (Ks.of rfl rfl) (fun _ _ h => h)
              · intro listed A0 w2 hI hd hnd K hK
                have e0 := hI.depv hd 2 48 _ rfl rfl rfl (by kernel_rfl)
                have hS := hI.world
                refine wanted_go rfl ?_
                clear hI hd hnd
                go_simp
                exact hK.out _ _ hS (Ks.of rfl rfl) (fun _ _ h => h)
              · intro listed A0 w2 hI hd hnd K hK
                have e0 := hI.slot hnd 1 _ rfl (by kernel_rfl)
                have hS := hI.world
                have hrange : w2.rangeAt w.heap.size 0 (grpL cur y m p Ac n cc r0 r1 r2 r3 r4 r5 r6 r7 r8 r9 r10 r11 r12 r13 r14 (some ⟨b, o, none⟩) ne ce) := (HATV.out.fr (Fr.ofBelow hS)).range
                have hisize : (Try.prog.info? 29).map (·.size) = some (grpL cur y m p Ac n cc r0 r1 r2 r3 r4 r5 r6 r7 r8 r9 r10 r11 r12 r13 r14 (some ⟨b, o, none⟩) ne ce).length := info_group
                refine wanted_yes rfl (hI.yield hd 3 49 false rfl rfl rfl (by kernel_rfl)) ?_
                clear hI hd hnd
                refine wp_load_mid 29 (.tmp 1) rfl _ _ (by simpa [Act.eval, Array.getD_eq_getD_getElem?] using e0) _ _ hrange Try.underlying29 rfl hisize ?_
                exact hK.out _ _ hS (Ks.of rfl rfl) (fun _ _ h => h)
              · intro listed A0 w2 hI hd hnd K hK
                have e0 := hI.slot hnd 1 _ rfl (by kernel_rfl)
                have hS := hI.world
                refine wanted_yes rfl (hI.yield hd 3 49 false rfl rfl rfl (by kernel_rfl)) ?_
                clear hI hd hnd
                go_simp
                exact hK.out _ _ hS (Ks.of rfl rfl) (fun _ _ h => h)
              · intro listed A0 w2 hI hd hnd K hK
                have e0 := hI.depv hd 5 51 _ rfl rfl rfl (by kernel_rfl)
                have hS := hI.world
                have hcc : w2.cell? ⟨w.heap.size, 20, none⟩ = _ := (hS.cell (p := ⟨w.heap.size, 20, none⟩) LTGV.out).trans D20V.out
                refine wanted_yes rfl (hI.yield hd 3 49 false rfl rfl rfl (by kernel_rfl)) ?_
                clear hI hd hnd
                go_simp
                exact hK.out _ _ hS (Ks.of rfl rfl) (fun _ _ h => h)
              · intro listed A0 w2 hI hd hnd K hK
                have e0 := hI.slot hnd 3 _ rfl (by kernel_rfl)
                have hS := hI.world
                refine wanted_yes rfl (hI.yield hd 3 49 false rfl rfl rfl (by kernel_rfl)) ?_
                clear hI hd hnd
                go_simp
                exact hK.out _ _ hS (Ks.of rfl rfl) (fun _ _ h => h)
              · intro listed A0 w2 hI hd hnd K hK
                have e0 := hI.depv hd 6 52 _ rfl rfl rfl (by kernel_rfl)
                have e1 := hI.depv hd 7 53 _ rfl rfl rfl (by kernel_rfl)
                have hS := hI.world
                refine wanted_yes rfl (hI.yield hd 3 49 false rfl rfl rfl (by kernel_rfl)) ?_
                clear hI hd hnd
                go_simp
                exact hK.out _ _ hS (Ks.of rfl rfl) (fun _ _ h => h)
              · intro listed A0 w2 hI hd hnd K hK
                have e0 := hI.depv hd 8 54 _ rfl rfl rfl (by kernel_rfl)
                have hS := hI.world
                have hrange : w2.rangeAt b (o + k * 5) (entL s cu Ec n2 c2 Al nl cl jo) := (HARV.out.fr (Fr.ofBelow hS)).range
                have hisize : (Try.prog.info? 113).map (·.size) = some (entL s cu Ec n2 c2 Al nl cl jo).length := info_entity
                refine wanted_yes rfl (hI.yield hd 3 49 false rfl rfl rfl (by kernel_rfl)) ?_
                clear hI hd hnd
                refine wp_load_mid 113 (.tmp 54) rfl _ _ (by simpa [Act.eval, Array.getD_eq_getD_getElem?] using e0) _ _ hrange Try.underlying113 rfl hisize ?_
                exact hK.out _ _ hS (Ks.of rfl rfl) (fun _ _ h => h)
              · intro listed A0 w2 hI hd hnd K hK
                have e0 := hI.depv hd 4 50 _ rfl rfl rfl (by kernel_rfl)
                have e1 := hI.depv hd 9 55 _ rfl rfl rfl (by kernel_rfl)
                have hS := hI.world
                refine wanted_yes rfl (hI.yield hd 3 49 false rfl rfl rfl (by kernel_rfl)) ?_
                clear hI hd hnd
                go_simp
                go_at_call 77
                refine (HEN.out w2 (HBV.out.trans (hS.mono HBV.out.size))).mono ?_
                rintro e w3 ⟨rfl, h3⟩
                exact hK.out _ _ (hS.trans (h3.mono hS.size)) (Ks.of rfl (congrArg Value.bool HV.out)) (Ks.keep h3)
              · intro listed A0 w2 hI hd hnd K hK
                have e0 := hI.depv hd 10 56 _ rfl rfl rfl (by kernel_rfl)
                have hS := hI.world
                refine wanted_yes rfl (hI.yield hd 3 49 false rfl rfl rfl (by kernel_rfl)) ?_
                clear hI hd hnd
                go_simp
                exact hK.out _ _ hS (Ks.of rfl rfl) (fun _ _ h => h)
              · intro listed A0 w2 hI hd hnd K hK
                have e0 := hI.depv hd 3 49 _ rfl rfl rfl (by kernel_rfl)
                have e1 := hI.depv hd 11 57 _ rfl rfl rfl (by kernel_rfl)
                have hS := hI.world
                refine wanted_go rfl ?_
                clear hI hd hnd
                go_simp
                exact hK.out _ _ hS (Ks.of rfl rfl) (fun _ _ h => h)
            · intro listed A0 w2 hI hall
              obtain ⟨x0, g0, h0⟩ := hI.got 0 _ 46 rfl rfl (hall 0 (by decide))
              obtain ⟨x1, g1, h1⟩ := hI.got 1 _ 47 rfl rfl (hall 1 (by decide))
              obtain ⟨x2, g2, h2⟩ := hI.got 2 _ 48 rfl rfl (hall 2 (by decide))
              obtain ⟨x3, g3, h3⟩ := hI.got 3 _ 49 rfl rfl (hall 3 (by decide))
              obtain ⟨x4, g4, h4⟩ := hI.got 4 _ 50 rfl rfl (hall 4 (by decide))
              obtain ⟨x5, g5, h5⟩ := hI.got 5 _ 51 rfl rfl (hall 5 (by decide))
              obtain ⟨x6, g6, h6⟩ := hI.got 6 _ 52 rfl rfl (hall 6 (by decide))
              obtain ⟨x7, g7, h7⟩ := hI.got 7 _ 53 rfl rfl (hall 7 (by decide))
              obtain ⟨x8, g8, h8⟩ := hI.got 8 _ 54 rfl rfl (hall 8 (by decide))
              obtain ⟨x9, g9, h9⟩ := hI.got 9 _ 55 rfl rfl (hall 9 (by decide))
              obtain ⟨x10, g10, h10⟩ := hI.got 10 _ 56 rfl rfl (hall 10 (by decide))
              obtain ⟨x11, g11, h11⟩ := hI.got 11 _ 57 rfl rfl (hall 11 (by decide))
              obtain ⟨x12, g12, h12⟩ := hI.got 12 _ 58 rfl rfl (hall 12 (by decide))
              have hS := hI.world
              have hA : A0 = _ := hI.tmps [(46, x0), (47, x1), (48, x2), (49, x3), (50, x4), (51, x5), (52, x6), (53, x7), (54, x8), (55, x9), (56, x10), (57, x11), (58, x12)] (by simp only [List.mem_cons, List.not_mem_nil, or_false, forall_eq_or_imp, forall_eq]; exact ⟨g0, g1, g2, g3, g4, g5, g6, g7, g8, g9, g10, g11, g12⟩) (by kernel_rfl)
              obtain rfl : x12 = .bool true := h12 _ rfl
              clear h0 g0 h1 g1 h2 g2 h3 g3 h4 g4 h5 g5 h6 g6 h7 g7 h8 g8 h9 g9 h10 g10 h11 g11 h12 g12 hI hall
              simp only [setAll, List.foldl, List.setIfInBounds_toArray, List.set_cons_zero, List.set_cons_succ] at hA
              rw [hA]
              clear hA
              go_wp2_with fail
              go_ret
              exact ⟨by rw [hf.out]; first | done | rfl, HBV.out.trans (hS.mono HBV.out.size)⟩
          | true =>
            go_upto_region 7 with fail
            refine wp_region_inv' (Ks V [.val (.int .i64 (k : Int)), .val (.int .i64 (k : Int)), .val (.bool false), .val (.bool false), .val (.agg (grpL cur y m p Ac n cc r0 r1 r2 r3 r4 r5 r6 r7 r8 r9 r10 r11 r12 r13 r14 (some ⟨b, o, none⟩) ne ce).toArray), .val (.pointer (some ⟨w.heap.size, 20, none⟩)), .val (.slice (some ⟨b, o, none⟩) ne ce), .val (.int .i64 (k : Int)), .val (.pointer (some ⟨b, o + k * 5, none⟩)), .val (.agg (entL s cu Ec n2 c2 Al nl cl jo).toArray), .val (.bool true), .val (.bool false), .val (.bool false)])
              (fun w' => Below V.heap.size V w') (by kernel_rfl) (by kernel_rfl) (by kernel_rfl) (Below.refl _ _).drew ?_ ?_
            · refine ⟨?_, ?_, ?_, ?_, ?_, ?_, ?_, ?_, ?_, ?_, ?_, ?_, ?_, trivial⟩
              · intro listed A0 w2 hI hd hnd K hK
                have e0 := hI.slot hnd 4 _ rfl (by kernel_rfl)
                have hS := hI.world
                refine wanted_go rfl ?_
                clear hI hd hnd
                go_simp
                exact hK.out _ _ hS (Ks.of rfl rfl) (fun _ _ h => h)
              · intro listed A0 w2 hI hd hnd K hK
                have e0 := hI.slot hnd 3 _ rfl (by kernel_rfl)
                have hS := hI.world
                refine wanted_go rfl ?_
                clear hI hd hnd
                go_simp
                exact hK.out _ _ hS (Ks.of rfl rfl) (fun _ _ h => h)
              · intro listed A0 w2 hI hd hnd K hK
                have e0 := hI.depv hd 0 46 _ rfl rfl rfl (by kernel_rfl)
                have e1 := hI.depv hd 1 47 _ rfl rfl rfl (by kernel_rfl)
                have hS := hI.world
                refine wanted_go rfl ?_
                clear hI hd hnd
                go_simp
                exact hK.out _ _ hS (Ks.of rfl rfl) (fun _ _ h => h)
              · intro listed A0 w2 hI hd hnd K hK
                have e0 := hI.depv hd 2 48 _ rfl rfl rfl (by kernel_rfl)
                have hS := hI.world
                refine wanted_go rfl ?_
                clear hI hd hnd
                go_simp
                exact hK.out _ _ hS (Ks.of rfl rfl) (fun _ _ h => h)
              · intro listed A0 w2 hI hd hnd K hK
                have e0 := hI.slot hnd 1 _ rfl (by kernel_rfl)
                have hS := hI.world
                have hrange : w2.rangeAt w.heap.size 0 (grpL cur y m p Ac n cc r0 r1 r2 r3 r4 r5 r6 r7 r8 r9 r10 r11 r12 r13 r14 (some ⟨b, o, none⟩) ne ce) := (HATV.out.fr (Fr.ofBelow hS)).range
                have hisize : (Try.prog.info? 29).map (·.size) = some (grpL cur y m p Ac n cc r0 r1 r2 r3 r4 r5 r6 r7 r8 r9 r10 r11 r12 r13 r14 (some ⟨b, o, none⟩) ne ce).length := info_group
                refine wanted_yes rfl (hI.yield hd 3 49 false rfl rfl rfl (by kernel_rfl)) ?_
                clear hI hd hnd
                refine wp_load_mid 29 (.tmp 1) rfl _ _ (by simpa [Act.eval, Array.getD_eq_getD_getElem?] using e0) _ _ hrange Try.underlying29 rfl hisize ?_
                exact hK.out _ _ hS (Ks.of rfl rfl) (fun _ _ h => h)
              · intro listed A0 w2 hI hd hnd K hK
                have e0 := hI.slot hnd 1 _ rfl (by kernel_rfl)
                have hS := hI.world
                refine wanted_yes rfl (hI.yield hd 3 49 false rfl rfl rfl (by kernel_rfl)) ?_
                clear hI hd hnd
                go_simp
                exact hK.out _ _ hS (Ks.of rfl rfl) (fun _ _ h => h)
              · intro listed A0 w2 hI hd hnd K hK
                have e0 := hI.depv hd 5 51 _ rfl rfl rfl (by kernel_rfl)
                have hS := hI.world
                have hcc : w2.cell? ⟨w.heap.size, 20, none⟩ = _ := (hS.cell (p := ⟨w.heap.size, 20, none⟩) LTGV.out).trans D20V.out
                refine wanted_yes rfl (hI.yield hd 3 49 false rfl rfl rfl (by kernel_rfl)) ?_
                clear hI hd hnd
                go_simp
                exact hK.out _ _ hS (Ks.of rfl rfl) (fun _ _ h => h)
              · intro listed A0 w2 hI hd hnd K hK
                have e0 := hI.slot hnd 3 _ rfl (by kernel_rfl)
                have hS := hI.world
                refine wanted_yes rfl (hI.yield hd 3 49 false rfl rfl rfl (by kernel_rfl)) ?_
                clear hI hd hnd
                go_simp
                exact hK.out _ _ hS (Ks.of rfl rfl) (fun _ _ h => h)
              · intro listed A0 w2 hI hd hnd K hK
                have e0 := hI.depv hd 6 52 _ rfl rfl rfl (by kernel_rfl)
                have e1 := hI.depv hd 7 53 _ rfl rfl rfl (by kernel_rfl)
                have hS := hI.world
                refine wanted_yes rfl (hI.yield hd 3 49 false rfl rfl rfl (by kernel_rfl)) ?_
                clear hI hd hnd
                go_simp
                exact hK.out _ _ hS (Ks.of rfl rfl) (fun _ _ h => h)
              · intro listed A0 w2 hI hd hnd K hK
                have e0 := hI.depv hd 8 54 _ rfl rfl rfl (by kernel_rfl)
                have hS := hI.world
                have hrange : w2.rangeAt b (o + k * 5) (entL s cu Ec n2 c2 Al nl cl jo) := (HARV.out.fr (Fr.ofBelow hS)).range
                have hisize : (Try.prog.info? 113).map (·.size) = some (entL s cu Ec n2 c2 Al nl cl jo).length := info_entity
                refine wanted_yes rfl (hI.yield hd 3 49 false rfl rfl rfl (by kernel_rfl)) ?_
                clear hI hd hnd
                refine wp_load_mid 113 (.tmp 54) rfl _ _ (by simpa [Act.eval, Array.getD_eq_getD_getElem?] using e0) _ _ hrange Try.underlying113 rfl hisize ?_
                exact hK.out _ _ hS (Ks.of rfl rfl) (fun _ _ h => h)
              · intro listed A0 w2 hI hd hnd K hK
                have e0 := hI.depv hd 4 50 _ rfl rfl rfl (by kernel_rfl)
                have e1 := hI.depv hd 9 55 _ rfl rfl rfl (by kernel_rfl)
                have hS := hI.world
                refine wanted_yes rfl (hI.yield hd 3 49 false rfl rfl rfl (by kernel_rfl)) ?_
                clear hI hd hnd
                go_simp
                go_at_call 77
                refine (HEN.out w2 (HBV.out.trans (hS.mono HBV.out.size))).mono ?_
                rintro e w3 ⟨rfl, h3⟩
                exact hK.out _ _ (hS.trans (h3.mono hS.size)) (Ks.of rfl (congrArg Value.bool HV.out)) (Ks.keep h3)
              · intro listed A0 w2 hI hd hnd K hK
                have e0 := hI.depv hd 10 56 _ rfl rfl rfl (by kernel_rfl)
                have hS := hI.world
                refine wanted_yes rfl (hI.yield hd 3 49 false rfl rfl rfl (by kernel_rfl)) ?_
                clear hI hd hnd
                go_simp
                exact hK.out _ _ hS (Ks.of rfl rfl) (fun _ _ h => h)
              · intro listed A0 w2 hI hd hnd K hK
                have e0 := hI.depv hd 3 49 _ rfl rfl rfl (by kernel_rfl)
                have e1 := hI.depv hd 11 57 _ rfl rfl rfl (by kernel_rfl)
                have hS := hI.world
                refine wanted_go rfl ?_
                clear hI hd hnd
                go_simp
                exact hK.out _ _ hS (Ks.of rfl rfl) (fun _ _ h => h)
            · intro listed A0 w2 hI hall
              obtain ⟨x0, g0, h0⟩ := hI.got 0 _ 46 rfl rfl (hall 0 (by decide))
              obtain ⟨x1, g1, h1⟩ := hI.got 1 _ 47 rfl rfl (hall 1 (by decide))
              obtain ⟨x2, g2, h2⟩ := hI.got 2 _ 48 rfl rfl (hall 2 (by decide))
              obtain ⟨x3, g3, h3⟩ := hI.got 3 _ 49 rfl rfl (hall 3 (by decide))
              obtain ⟨x4, g4, h4⟩ := hI.got 4 _ 50 rfl rfl (hall 4 (by decide))
              obtain ⟨x5, g5, h5⟩ := hI.got 5 _ 51 rfl rfl (hall 5 (by decide))
              obtain ⟨x6, g6, h6⟩ := hI.got 6 _ 52 rfl rfl (hall 6 (by decide))
              obtain ⟨x7, g7, h7⟩ := hI.got 7 _ 53 rfl rfl (hall 7 (by decide))
              obtain ⟨x8, g8, h8⟩ := hI.got 8 _ 54 rfl rfl (hall 8 (by decide))
              obtain ⟨x9, g9, h9⟩ := hI.got 9 _ 55 rfl rfl (hall 9 (by decide))
              obtain ⟨x10, g10, h10⟩ := hI.got 10 _ 56 rfl rfl (hall 10 (by decide))
              obtain ⟨x11, g11, h11⟩ := hI.got 11 _ 57 rfl rfl (hall 11 (by decide))
              obtain ⟨x12, g12, h12⟩ := hI.got 12 _ 58 rfl rfl (hall 12 (by decide))
              have hS := hI.world
              have hA : A0 = _ := hI.tmps [(46, x0), (47, x1), (48, x2), (49, x3), (50, x4), (51, x5), (52, x6), (53, x7), (54, x8), (55, x9), (56, x10), (57, x11), (58, x12)] (by simp only [List.mem_cons, List.not_mem_nil, or_false, forall_eq_or_imp, forall_eq]; exact ⟨g0, g1, g2, g3, g4, g5, g6, g7, g8, g9, g10, g11, g12⟩) (by kernel_rfl)
              obtain rfl : x12 = .bool false := h12 _ rfl
              clear h0 g0 h1 g1 h2 g2 h3 g3 h4 g4 h5 g5 h6 g6 h7 g7 h8 g8 h9 g9 h10 g10 h11 g11 h12 g12 hI hall
              simp only [setAll, List.foldl, List.setIfInBounds_toArray, List.set_cons_zero, List.set_cons_succ] at hA
              rw [hA]
              clear hA
              go_wp2_with fail
              go_roundw
              case rel => exact ⟨k + 1, by omega, by go_num, hb.trans ((HWV.out.trans (hS.mono hSV)).mono hsz), fun i hi => by
                rcases Nat.lt_or_ge i k with h | h
                · exact HA.out i h
                · have : i = k := by omega
                  subst this
                  exact HROW.out⟩
              case measure => first | exact meas_v hlt | (simp only [intOf]; omega)
    case neg =>
      have hltI : ¬ (k : Int) < (ne : Int) := by omega
      have hf := Lib.hid (show r = true by
        rw [← HR.out]
        exact rgroup_all HV0.out ⟨by have := HNE.out; simp only; omega, by have := HNE.out; simp only; omega⟩ HX0.out HJ.out (fun j hj => HA.out j (by have := HNE.out; simp only at hj; omega)))
      go_wp2_with fail
      go_ret
      exact ⟨by rw [hf.out]; first | done | rfl, hb0⟩
end Go.Proofs.Ytnigokmjehemaaa
