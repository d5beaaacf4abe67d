/- group.Valid. Written by gen_b29.py. -/
import Derived.Test.YtekelchdbkjjjaaGreatG20xB0B2
import Derived.Test.YtekelchdbkjjjaaGreatG20xB3B8
import Derived.Test.YtekelchdbkjjjaaGreatG20xB9B13
import Derived.Test.YtekelchdbkjjjaaGreatG20xB14
import Derived.Test.YtekelchdbkjjjaaGreatG20xB16
import Derived.Test.YtekelchdbkjjjaaGreatG20xB17B24
import Derived.Test.YtekelchdbkjjjaaGreatG20xB25B28
import Derived.Test.YtekelchdbkjjjaaGreatProg
import Derived.Deep.QuietTactic
set_option linter.unusedVariables false
set_option linter.unusedSimpArgs false
set_option maxRecDepth 4000
attribute [local go_sem ↓] Go.wp_at_zero Go.wp_at_succ
namespace Go.Proofs.YtekelchdbkjjjaaGreat
open Go Go.RowKit
open Go.Maps (Keyed)
def smallE (e : XEntity) : Prop := e.chart.length ≤ 1000 ∧ e.links.length ≤ 1000 ∧ e.name.size ≤ 1000 ∧ e.currency.size ≤ 1000
def smallG (g : XGroup) : Prop := g.chart.length ≤ 1000 ∧ g.entities.length ≤ 1000 ∧ g.currency.size ≤ 1000 ∧ ∀ e ∈ g.entities, smallE e
theorem entity_n {cur : ByteArray} {y m p : Int} {Ac Ae : Option Addr} {cc ce n ne : Nat} {ch : List XAccount} {es : List XEntity} {r0 r1 r2 r3 r4 r5 r6 r7 r8 r9 r10 r11 r12 r13 r14 : Int} (hN : ch.length = n) (hE : es.length = ne) {w : World} (hg : GroupC w (· < w.heap.size) (grpL cur y m p Ac ch.length cc r0 r1 r2 r3 r4 r5 r6 r7 r8 r9 r10 r11 r12 r13 r14 Ae es.length ce) ⟨cur, ⟨y, m, p⟩, ch, ⟨r0, r1, r2, r3, r4, r5, r6, r7, r8, r9, r10, r11, r12, r13, r14⟩, es⟩) (hn : ch.length ≤ 1000)
 {s cu : ByteArray} {ec : List XAccount} {ls : List XLink} {jo : Bool} {Ec Al : Option Addr} {c2 cl n2 nl : Nat} (h2 : ec.length = n2) (h3 : ls.length = nl) (hx : EntityC w (· < w.heap.size) (entL s cu Ec ec.length c2 Al ls.length cl jo) ⟨s, cu, ec, ls, jo⟩) (hs : smallE ⟨s, cu, ec, ls, jo⟩) :
 Calls Tryz.prog 66 #[.agg (grpL cur y m p Ac n cc r0 r1 r2 r3 r4 r5 r6 r7 r8 r9 r10 r11 r12 r13 r14 Ae ne ce).toArray, .agg (entL s cu Ec n2 c2 Al nl cl jo).toArray] w (Quiet w (.bool (entP ch (rolesOf ⟨r0, r1, r2, r3, r4, r5, r6, r7, r8, r9, r10, r11, r12, r13, r14⟩) ⟨s, cu, ec, ls, jo⟩))) := by
 subst hN hE h2 h3
 exact entity_c _ _ _ _ w hg hx hn hs.1 hs.2.1 hs.2.2.1 hs.2.2.2
theorem accounts_n {cur : ByteArray} {y m p : Int} {Ac Ae : Option Addr} {cc ce n ne : Nat} {ch : List XAccount} {es : List XEntity} {r0 r1 r2 r3 r4 r5 r6 r7 r8 r9 r10 r11 r12 r13 r14 : Int} (hN : ch.length = n) (hE : es.length = ne) {w : World} (hg : GroupC w (· < w.heap.size) (grpL cur y m p Ac ch.length cc r0 r1 r2 r3 r4 r5 r6 r7 r8 r9 r10 r11 r12 r13 r14 Ae es.length ce) ⟨cur, ⟨y, m, p⟩, ch, ⟨r0, r1, r2, r3, r4, r5, r6, r7, r8, r9, r10, r11, r12, r13, r14⟩, es⟩) (hn : ch.length ≤ 1000) : Calls Tryz.prog 65 #[.agg (grpL cur y m p Ac n cc r0 r1 r2 r3 r4 r5 r6 r7 r8 r9 r10 r11 r12 r13 r14 Ae ne ce).toArray] w (Quiet w (.bool (accountsB ch ⟨r0, r1, r2, r3, r4, r5, r6, r7, r8, r9, r10, r11, r12, r13, r14⟩))) := by
 subst hN hE
 exact accounts_c _ _ w hg hn
def entRowP (ch : List XAccount) (L : List XRole) (es : List XEntity) (i : Nat) : Bool := match es[i]? with
 | none => false
 | some e => !((es.take i).any fun x => decide (x.name = e.name)) && entP ch L e
def groupP (g : XGroup) : Bool := curB g.currency && calB g.calendar.year g.calendar.month g.calendar.periods && accountsB g.chart g.roles && decide (1 ≤ g.entities.length ∧ g.entities.length ≤ 12) && !(g.entities.getD 0 {}).joint && (List.range g.entities.length).all (entRowP g.chart (rolesOf g.roles) g.entities)
theorem entRowP_at {ch : List XAccount} {L : List XRole} {es : List XEntity} {i : Nat} {e : XEntity} (h : es[i]? = some e) : entRowP ch L es i = (!((es.take i).any fun x => decide (x.name = e.name)) && entP ch L e) := by unfold entRowP; rw [h]
theorem entP_eq {ch : List XAccount} {L : List XRole} (h : rolesB ch L = true) (e : XEntity) : entP ch L e = entityB ch L e := by
 unfold entP entityB
 have h1 : (e.links.all fun l => !closedB L l.to_) = !(e.links.any fun l => closedP L l.to_) := by
  rw [List.not_any_eq_all_not]
  congr 1
  funext l
  rw [closed_eq h]
 rw [h1, show mappingB e ch = mapB e.chart ch e.links from rfl, Bool.and_assoc, Bool.and_assoc]
theorem groupP_eq (g : XGroup) : groupP g = groupB g := by
 unfold groupP groupB
 cases ha : accountsB g.chart g.roles with
 | false => simp
 | true =>
  have hr : rolesB g.chart (rolesOf g.roles) = true := by
   unfold accountsB at ha
   simp only [Bool.and_eq_true] at ha
   exact ha.2
  congr 1
  unfold entsB
  congr 1
  funext i
  unfold entRowP entRow
  cases g.entities[i]? with
  | none => rfl
  | some e => simp only [entP_eq hr]
def sKey (s : ByteArray) : Lit := .string s.data.toList
theorem sKey_inj (x y : ByteArray) (h : sKey x = sKey y) : x = y := by
 unfold sKey at h
 injection h with h
 exact ByteArray.ext (Array.ext' h)
theorem sKey_lit (x : ByteArray) : WideAt.IsKeyLit (sKey x) := by unfold sKey; trivial
theorem str_uty : Tryz.prog.underlying 9 = some .string := by kernel_rfl
theorem smap_uty : Tryz.prog.underlying 121 = some (.map 9 4) := by kernel_rfl
theorem str_keyed : Keyed Tryz.prog 9 := Maps.string_keyed str_uty
theorem sKey_of {s : ByteArray} (h : s.size ≤ 1000) : keyOf Tryz.prog 9 (.string s) = some (sKey s) := Go.WideMaps.keyOf_string_mk str_uty (by unfold maxLen; omega)
abbrev SetS (w : World) (b n : Nat) (f : ByteArray → Bool) : Prop := SetK Tryz.prog 9 4 sKey w b n f
theorem names_succ {es : List XEntity} {k : Nat} {e : XEntity} (hk : es[k]? = some e) {F : ByteArray → Bool} (hF : (fun d => (es.take k).any fun x => decide (x.name = d)) = F) (d : ByteArray) : (if d = e.name then true else F d) = (es.take (k + 1)).any fun x => decide (x.name = d) := by
 obtain ⟨hl, rfl⟩ := List.getElem?_eq_some_iff.1 hk
 rw [take_any_succ hl, ← hF]
 by_cases h : d = es[k].name
 · rw [if_pos h, h]; simp
 · rw [if_neg h, decide_eq_false (fun e : es[k].name = d => h e.symm), Bool.or_false]
theorem group_cur {g : XGroup} (h : curB g.currency = false) : groupP g = false := by unfold groupP; rw [h]; simp
theorem group_cal {g : XGroup} (h : calB g.calendar.year g.calendar.month g.calendar.periods = false) : groupP g = false := by unfold groupP; rw [h]; simp
theorem group_acc {g : XGroup} (h : accountsB g.chart g.roles = false) : groupP g = false := by unfold groupP; rw [h]; simp
theorem group_len {g : XGroup} (h : ¬ (1 ≤ g.entities.length ∧ g.entities.length ≤ 12)) : groupP g = false := by unfold groupP; rw [decide_eq_false h]; simp
theorem group_joint {g : XGroup} {e : XEntity} (h : g.entities[0]? = some e) (hj : e.joint = true) : groupP g = false := by unfold groupP; rw [List.getD_eq_getElem?_getD, h, Option.getD_some, hj]; simp
theorem group_row {g : XGroup} {k : Nat} (hk : k < g.entities.length) (h : entRowP g.chart (rolesOf g.roles) g.entities k = false) : groupP g = false := by unfold groupP; rw [all_range_false hk h]; simp
theorem group_all {g : XGroup} {e : XEntity} (h1 : curB g.currency = true) (h2 : calB g.calendar.year g.calendar.month g.calendar.periods = true) (h3 : accountsB g.chart g.roles = true) (h4 : 1 ≤ g.entities.length ∧ g.entities.length ≤ 12) (h5 : g.entities[0]? = some e) (hj : e.joint = false) (h : ∀ k, k < g.entities.length → entRowP g.chart (rolesOf g.roles) g.entities k = true) : groupP g = true := by
 unfold groupP
 rw [h1, h2, h3, decide_eq_true h4, List.getD_eq_getElem?_getD, h5, Option.getD_some, hj, all_range_true h]; rfl
set_option maxHeartbeats 4000000 in
theorem group_c (g : XGroup) (cs : List Value) (w : World) (hg : GroupC w (· < w.heap.size) cs g) (hsm : smallG g) : Calls Tryz.prog 36 #[.agg cs.toArray] w (Quiet w (.bool (groupP g))) := by
 have hmm := @run_makeMap Tryz.prog
 obtain ⟨r, hr⟩ : ∃ r, groupP g = r := ⟨_, rfl⟩
 rw [hr]
 have HR := Lib.hid hr
 have HGC := Lib.hid hg
 obtain ⟨hn, hne1, hcs, hse⟩ := hsm
 clear hr
 obtain ⟨Ac, cc, Ae, ce, rfl, hch, hen, hcal, hro⟩ := hg.lit
 clear hg
 obtain ⟨cur, ⟨y, m, p⟩, ch, ⟨r0, r1, r2, r3, r4, r5, r6, r7, r8, r9, r10, r11, r12, r13, r14⟩, es⟩ := g
 simp only at hcs hne1 hse HR hch hen hro hcal hn ⊢
 have HSE := Lib.hid hse
 have HNN := Lib.hid hn
 obtain ⟨L, hL⟩ : ∃ L, rolesL r0 r1 r2 r3 r4 r5 r6 r7 r8 r9 r10 r11 r12 r13 r14 = L := ⟨_, rfl⟩
 have hLl : L.length = 15 := by rw [← hL]; rfl
 have HLQ := Lib.hid hL
 have HLL := Lib.hid hLl
 obtain ⟨n, hnl⟩ : ∃ n, ch.length = n := ⟨_, rfl⟩
 obtain ⟨ne, hne⟩ : ∃ ne, es.length = ne := ⟨_, rfl⟩
 have HL := Lib.hid hch
 have HN := Lib.hid hnl
 have HE := Lib.hid hen
 have HNE := Lib.hid hne
 rw [hnl, hne]
 rw [hnl] at hn
 clear hL hLl hch hen hnl hne hcal; clear hro hse
 show Calls Tryz.prog 36 #[.agg #[.string cur, .int .i64 y, .int .i64 m, .int .i64 p, .slice Ac n cc, .int .i64 r0, .int .i64 r1, .int .i64 r2, .int .i64 r3, .int .i64 r4, .int .i64 r5, .int .i64 r6, .int .i64 r7, .int .i64 r8, .int .i64 r9, .int .i64 r10, .int .i64 r11, .int .i64 r12, .int .i64 r13, .int .i64 r14, .slice Ae ne ce]] w (Quiet w (.bool r))
 go_enter Tryz.func36, Tryz.ntmps36
 go_upto_region 1 with fail
 have H := heap_alloc_new w (.cells #[.string cur, .int .i64 y, .int .i64 m, .int .i64 p, .slice Ac n cc, .int .i64 r0, .int .i64 r1, .int .i64 r2, .int .i64 r3, .int .i64 r4, .int .i64 r5, .int .i64 r6, .int .i64 r7, .int .i64 r8, .int .i64 r9, .int .i64 r10, .int .i64 r11, .int .i64 r12, .int .i64 r13, .int .i64 r14, .slice Ae ne ce] 29)
 have HB := below1 w (.cells #[.string cur, .int .i64 y, .int .i64 m, .int .i64 p, .slice Ac n cc, .int .i64 r0, .int .i64 r1, .int .i64 r2, .int .i64 r3, .int .i64 r4, .int .i64 r5, .int .i64 r6, .int .i64 r7, .int .i64 r8, .int .i64 r9, .int .i64 r10, .int .i64 r11, .int .i64 r12, .int .i64 r13, .int .i64 r14, .slice Ae ne ce] 29)
 have HS := blk_lt H
 generalize hW : w.alloc (Obj.cells #[.string cur, .int .i64 y, .int .i64 m, .int .i64 p, .slice Ac n cc, .int .i64 r0, .int .i64 r1, .int .i64 r2, .int .i64 r3, .int .i64 r4, .int .i64 r5, .int .i64 r6, .int .i64 r7, .int .i64 r8, .int .i64 r9, .int .i64 r10, .int .i64 r11, .int .i64 r12, .int .i64 r13, .int .i64 r14, .slice Ae ne ce] 29) = W at *
 clear hW
 have f0 := blk_cell H 0
 have HH := Lib.hid H
 clear H
 go_wp2_with fail
 refine (currency_c cur W hcs).mono ?_
 rintro e w2 ⟨rfl, hb2⟩
 have hb02 := HB.trans (hb2.mono HB.size)
 have hs2 := hb2.size
 cases hc1 : curB cur with
 | false =>
  have hf := Lib.hid (show r = false by rw [← HR.out]; exact group_cur hc1)
  go_wp2_with fail
  go_ret
  exact ⟨by rw [hf.out]; first | done | rfl, hb02⟩
 | true =>
 have HC1 := Lib.hid hc1
 have G2 := (hb2.block _ HS).trans HH.out
 have f1 := blk_cell G2 1
 have f2 := blk_cell G2 2
 have f3 := blk_cell G2 3
 clear hc1 f0
 go_wp2_with fail
 refine (calValid_c y m p w2).mono ?_
 rintro e w3 ⟨rfl, hb3⟩
 have hb03 := hb02.trans (hb3.mono hb02.size)
 have hs3 := hb3.size
 cases hc2 : calB y m p with
 | false =>
  have hf := Lib.hid (show r = false by rw [← HR.out]; exact group_cal hc2)
  go_wp2_with fail
  go_ret
  exact ⟨by rw [hf.out]; first | done | rfl, hb03⟩
 | true =>
 have HC2 := Lib.hid hc2
 have HG3 := Lib.hid ((hb3.block _ (by omega)).trans G2)
 have HCA := Lib.hid (accounts_n HN.out HNE.out (GroupC.keep HGC.out hb03) HNN.out)
 clear hc2 f1 f2 f3 G2
 go_wp2_with (show wpList _ _ _ (Oper.mk (some 17) _ _ _ _ _ :: _) _ _; refine wpList_load_row_g rfl 29 (.tmp 1) rfl w.heap.size rfl _ _ _ _ HG3.out Tryz.underlying29 rfl info_group ?_)
 refine HCA.out.mono ?_
 rintro e w4 ⟨rfl, hb4⟩
 have hb04 := hb03.trans (hb4.mono hb03.size)
 have hs4 := hb4.size
 cases hc3 : accountsB ch ⟨r0, r1, r2, r3, r4, r5, r6, r7, r8, r9, r10, r11, r12, r13, r14⟩ with
 | false =>
  have hf := Lib.hid (show r = false by rw [← HR.out]; exact group_acc hc3)
  go_wp2_with fail
  go_ret
  exact ⟨by rw [hf.out]; first | done | rfl, hb04⟩
 | true =>
 have HC3 := Lib.hid hc3
 have G4 := (hb4.block _ (by omega)).trans HG3.out
 have f20 := blk_cell G4 20
 clear hc3
 by_cases h1 : ne < 1
 case pos =>
  have h1I : (ne : Int) < 1 := by omega
  have hf := Lib.hid (show r = false by rw [← HR.out]; exact group_len (fun h => by have := h.1; have := HNE.out; simp only at *; omega))
  go_wp2_with fail
  go_ret
  exact ⟨by rw [hf.out]; first | done | rfl, hb04⟩
 case neg =>
 have h1I : ¬ (ne : Int) < 1 := by omega
 by_cases h2 : 12 < ne
 case pos =>
  have h2I : 12 < (ne : Int) := by omega
  have hf := Lib.hid (show r = false by rw [← HR.out]; exact group_len (fun h => by have := h.2; have := HNE.out; simp only at *; omega))
  go_wp2_with fail
  go_ret
  exact ⟨by rw [hf.out]; first | done | rfl, hb04⟩
 case neg =>
 have h2I : ¬ 12 < (ne : Int) := by omega
 have h3I : (0 : Int) < (ne : Int) := by omega
 have hl0 : 0 < es.length := by rw [HNE.out]; omega
 obtain ⟨b, o, hAe, hbw, hel⟩ := ListC.base HE.out (by omega)
 subst hAe
 obtain ⟨es0, hes0, hat0⟩ := hel 0 hl0
 have HEL := Lib.hid hel
 obtain ⟨Ec, c2, Al, cl, rfl, _, _⟩ := hes0.lit
 obtain ⟨x0, hx0⟩ : ∃ x0, es[0] = x0 := ⟨_, rfl⟩
 rw [hx0] at hat0
 have HX0 := Lib.hid (show es[0]? = some x0 by rw [List.getElem?_eq_getElem hl0, hx0])
 have j0 := (hat0.fr (Fr.ofBelow hb04)).c (j := 4) rfl
 obtain ⟨J, hJ⟩ : ∃ J, x0.joint = J := ⟨_, rfl⟩
 rw [hJ, Nat.zero_mul, Nat.add_zero] at j0
 have HJ := Lib.hid hJ
 clear hes0 hat0 hel hx0 hJ
 cases J with
 | true =>
  have hf := Lib.hid (show r = false by rw [← HR.out]; exact group_joint HX0.out HJ.out)
  go_wp2_with fail
  go_ret
  exact ⟨by rw [hf.out]; first | done | rfl, hb04⟩
 | false =>
 have HG4 := Lib.hid G4
 clear G4
 go_upto_region 4 with fail
 have hs0 := SetK.made Tryz.prog 9 4 sKey w4
 have HB5 := below1 w4 (.map #[] 0)
 have HS5 : w4.heap.size + 1 = (w4.alloc (.map #[] 0)).heap.size := by simp
 have G5 := alloc_keep HG4.out (.map #[] 0)
 generalize hW5 : w4.alloc (Obj.map #[] 0) = W5 at *
 clear hW5 f20 j0
 have f20 := blk_cell G5 20
 have HG5 := Lib.hid G5
 have hb05 := hb04.trans (HB5.mono hb04.size)
 clear G5
 go_wp2_with fail
 go_loopw [44] (fun i wr => ∃ k : Nat, k ≤ ne ∧ i = .int .i64 (k : Int) ∧ Fr (QX W5.heap.size w4.heap.size) W5 wr ∧ SetS wr w4.heap.size k (fun d => (es.take k).any fun x => decide (x.name = d)) ∧ ∀ j, j < k → entRowP ch (rolesOf ⟨r0, r1, r2, r3, r4, r5, r6, r7, r8, r9, r10, r11, r12, r13, r14⟩) es j = true) (fun i _ => ne - (intOf i).toNat)
 case atStart => exact ⟨0, by omega, rfl, Fr.refl _ _, hs0.eqv (fun _ => rfl), fun j hj => by omega⟩
 case round =>
  obtain ⟨k, hk, rfl, hfr, hset, hall⟩ := hrel
  have HA := Lib.hid hall
  have HF := Lib.hid hfr
  have hsz := hfr.size
  clear hall hfr
  have hb0 : Below w.heap.size w wr := ((Fr.ofBelow hb05).trans (HF.out.mono (fun k (hk : k < w.heap.size) => ⟨by omega, by omega⟩))).below
  have hs0' := hb0.size
  by_cases hlt : k < ne
  case pos =>
   have hltI : (k : Int) < (ne : Int) := by omega
   have hkl : k < es.length := by rw [HNE.out]; exact hlt
   obtain ⟨es1, hes, hat⟩ := HEL.out k hkl
   obtain ⟨Ec, c2, Al, cl, rfl, _, _⟩ := hes.lit
   obtain ⟨x, hx⟩ : ∃ x, es[k] = x := ⟨_, rfl⟩
   have hsx := HSE.out _ (List.getElem_mem hkl)
   rw [hx] at hes hat hsx
   have HX := Lib.hid (show es[k]? = some x by rw [List.getElem?_eq_getElem hkl, hx])
   obtain ⟨s, cu, ec, ls, jo⟩ := x
   simp only at hes hat
   have HKEY := Lib.hid (sKey_of (s := s) hsx.2.2.1)
   have hE := fun (w2 : World) (hb : Below w.heap.size w w2) => fun {n2 nl : Nat} (h2 : ec.length = n2) (h3 : ls.length = nl) => entity_n HN.out HNE.out (GroupC.keep HGC.out hb) HNN.out h2 h3 (EntityC.keep hes hb) hsx
   have HAR0 := (hat.fr (Fr.ofBelow hb0)).range
   obtain ⟨n2, hn2⟩ : ∃ n, ec.length = n := ⟨_, rfl⟩
   obtain ⟨nl, hnl⟩ : ∃ n, ls.length = n := ⟨_, rfl⟩
   rw [hn2, hnl] at HAR0
   have HAR := Lib.hid HAR0
   have HEN := Lib.hid (fun (w2 : World) (hb : Below w.heap.size w w2) => hE w2 hb hn2 hnl)
   have E6 := (HF.out.block w.heap.size ⟨by omega, by omega⟩).trans HG5.out
   obtain ⟨F, hF⟩ : ∃ F : ByteArray → Bool, (fun d => (es.take k).any fun x => decide (x.name = d)) = F := ⟨_, rfl⟩
   rw [hF] at hset
   have HF2 := Lib.hid hF
   clear hes hat hx hE HAR0 hF hsx hn2 hnl
   go_upto_region 7 with (show wpList _ _ _ (Oper.mk (some 47) _ _ _ _ _ :: _) _ _; refine wpList_load_mid rfl 92 (.tmp 46) rfl b (o + k * 5) rfl [.string s, .string cu, .slice Ec n2 c2, .slice Al nl cl, .bool jo] _ HAR.out Tryz.underlying92 rfl info_entity ?_)
   have H6 := heap_alloc_new wr (.cells #[.string s, .string cu, .slice Ec n2 c2, .slice Al nl cl, .bool jo] 92)
   have HB6 := below1 wr (.cells #[.string s, .string cu, .slice Ec n2 c2, .slice Al nl cl, .bool jo] 92)
   have HS6 := blk_lt H6
   replace E6 := alloc_keep E6 (Obj.cells #[.string s, .string cu, .slice Ec n2 c2, .slice Al nl cl, .bool jo] 92)
   generalize hW6 : wr.alloc (Obj.cells #[.string s, .string cu, .slice Ec n2 c2, .slice Al nl cl, .bool jo] 92) = W6 at *
   clear hW6
   have hset6 := hset.below HB6
   have hs6 := HB6.size
   have hb06 := hb0.trans (HB6.mono hb0.size)
   have k0 := blk_cell H6 0
   have HE6 := Lib.hid E6
   have HX6 := Lib.hid H6
   clear hset H6 E6
   cases hcont : F s with
   | true =>
    have hf := Lib.hid (show r = false by rw [← HR.out]; exact group_row hkl (by rw [entRowP_at HX.out, show ((es.take k).any fun x => decide (x.name = s)) = true from (congrFun HF2.out s).trans hcont]; rfl))
    go_wp2_with (at_lookup; refine wpList_look_set rfl _ _ 121 rfl 9 4 str_keyed smap_uty bool_uty (bool_zero _) w4.heap.size k F rfl hset6 (.string s) s rfl HKEY.out ?_)
    go_ret
    exact ⟨by rw [hf.out]; first | done | rfl, hb06⟩
   | false =>
    have hcall := HEN.out W6 hb06
    obtain ⟨v, hv⟩ : ∃ v, entP ch (rolesOf ⟨r0, r1, r2, r3, r4, r5, r6, r7, r8, r9, r10, r11, r12, r13, r14⟩) ⟨s, cu, ec, ls, jo⟩ = v := ⟨_, rfl⟩
    rw [hv] at hcall
    have HROW := Lib.hid (show entRowP ch (rolesOf ⟨r0, r1, r2, r3, r4, r5, r6, r7, r8, r9, r10, r11, r12, r13, r14⟩) es k = v by rw [entRowP_at HX.out, hv, show ((es.take k).any fun x => decide (x.name = s)) = false from (congrFun HF2.out s).trans hcont]; rfl)
    have HCALL := Lib.hid hcall
    clear hv hcall
    go_wp2_with (first | (at_lookup; refine wpList_look_set rfl _ _ 121 rfl 9 4 str_keyed smap_uty bool_uty (bool_zero _) w4.heap.size k F rfl hset6 (.string s) s rfl HKEY.out ?_) | (show wpList _ _ _ (Oper.mk (some 53) _ _ _ _ _ :: _) _ _; refine wpList_load_row_g rfl 29 (.tmp 1) rfl w.heap.size rfl _ _ _ _ HE6.out Tryz.underlying29 rfl info_group ?_) | (show wpList _ _ _ (Oper.mk (some 54) _ _ _ _ _ :: _) _ _; refine wpList_load_row_g rfl 92 (.tmp 5) rfl wr.heap.size rfl _ _ _ _ HX6.out Tryz.underlying92 rfl info_entity ?_))
    refine HCALL.out.mono ?_
    rintro e wA ⟨rfl, hbA⟩
    have hsetA := hset6.below hbA
    have hsA := hbA.size
    have hb0A := hb06.trans (hbA.mono hb06.size)
    cases v with
    | false =>
     have hf := Lib.hid (show r = false by rw [← HR.out]; exact group_row hkl HROW.out)
     go_wp2_with fail
     go_ret
     exact ⟨by rw [hf.out]; first | done | rfl, hb0A⟩
    | true =>
     have KA := (hbA.block _ HS6).trans HX6.out
     have k0 := blk_cell KA 0
     clear KA
     go_wp2_with (at_mapUpdate; refine wpList_store_set rfl _ _ _ 121 rfl 9 4 str_keyed smap_uty bool_uty w4.heap.size k F rfl hsetA (by simp only [maxLen]; omega) sKey_inj sKey_lit (.string s) s rfl true rfl HKEY.out ?_; intro wB hsetB hgB; replace hsetB := Lib.hid hsetB)
     go_roundw
     case rel =>
      refine ⟨k + 1, by omega, by go_num, ?_, ?_, ?_⟩
      · exact (HF.out.trans ((Fr.ofBelow (HB6.trans (hbA.mono HB6.size))).mono (fun k hk => by have := hk.1; omega))).grown hgB (fun k hk => hk.1) (fun j hj => by injection hj with hj; exact fun h => h.2 hj.symm)
      · exact hsetB.out.eqv (fun d => names_succ HX.out HF2.out d)
      · intro j hj
        rcases Nat.lt_or_ge j k with h | h
        · exact HA.out j h
        · have : j = k := by omega
          subst this
          exact HROW.out
     case measure => first | exact meas_v hlt | (simp only [intOf]; omega)
  case neg =>
   have hltI : ¬ (k : Int) < (ne : Int) := by omega
   have hf := Lib.hid (show r = true by
    rw [← HR.out]
    exact group_all HC1.out HC2.out HC3.out ⟨by have := HNE.out; simp only; omega, by have := HNE.out; simp only; omega⟩ HX0.out HJ.out (fun j hj => HA.out j (by have := HNE.out; simp only at hj; omega)))
   go_wp2_with fail
   go_ret
   exact ⟨by rw [hf.out]; first | done | rfl, hb0⟩
end Go.Proofs.YtekelchdbkjjjaaGreat
namespace Go.Proofs.YtekelchdbkjjjaaGreat
open Go Go.RowKit
theorem link_twice {ec ch : List XAccount} {ls : List XLink} {k j : Nat} {l : XLink} (hk : ls[k]? = some l) (hj : j < k) (hl : j < ls.length) (h1 : ls[j].from_ = l.from_) (h3 : ls[j].since = l.since) : linkRow ec ch ls k = false := by
 rw [linkRow_at hk]
 have : ((ls.take k).any fun k => k.from_ == l.from_ && k.since == l.since) = true := by
  rw [List.any_eq_true]
  exact ⟨ls[j], by rw [List.mem_take_iff_getElem]; exact ⟨j, by omega, rfl⟩, by simp [h1, h3]⟩
 rw [this]; simp
theorem link_once {ec ch : List XAccount} {ls : List XLink} {k : Nat} {l : XLink} (hk : ls[k]? = some l) (hb : linkB ec ch l = true) (h : ∀ j (hl : j < ls.length), j < k → ¬ (ls[j].from_ = l.from_ ∧ ls[j].since = l.since)) : linkRow ec ch ls k = true := by
 rw [linkRow_at hk, hb]
 have : ((ls.take k).any fun k => k.from_ == l.from_ && k.since == l.since) = false := by
  rw [List.any_eq_false]
  intro x hx
  rw [List.mem_take_iff_getElem] at hx
  obtain ⟨j, hj, rfl⟩ := hx
  simpa using h j (by omega) (by omega)
 rw [this]; rfl
theorem link_bad {ec ch : List XAccount} {ls : List XLink} {k : Nat} {l : XLink} (hk : ls[k]? = some l) (hb : linkB ec ch l = false) : linkRow ec ch ls k = false := by rw [linkRow_at hk, hb]; rfl
set_option maxHeartbeats 4000000 in
theorem rmapValid_c (s cu : ByteArray) (Ac Al Ah : Option Addr) (n m nl cc cl hc : Nat) (jo : Bool) (ec ch : List XAccount) (ls : List XLink) (w : World) (hN : ec.length = n) (hM : ch.length = m) (hNL : ls.length = nl) (hec : ListC AccountC 4 w (· < w.heap.size) [.slice Ac ec.length cc] ec) (hls : ListC LinkC 3 w (· < w.heap.size) [.slice Al ls.length cl] ls) (hch : ListC AccountC 4 w (· < w.heap.size) [.slice Ah ch.length hc] ch) (hn : ec.length ≤ 1000) (hm : ch.length ≤ 1000) (hnl : ls.length ≤ 1000) :
 Calls Tryz.prog 102 #[.agg (entL s cu Ac n cc Al nl cl jo).toArray, .slice Ah m hc] w (Quiet w (.bool (mapB ec ch ls))) := by
 obtain ⟨r, hr⟩ : ∃ r, mapB ec ch ls = r := ⟨_, rfl⟩
 rw [hr]
 have HR := Lib.hid hr
 have HV1 := Lib.hid (fun (w2 : World) (hb : Below w.heap.size w w2) => rvalid_n hM (chart_keep hch hb) hm true)
 have HV2 := Lib.hid (fun (w2 : World) (hb : Below w.heap.size w w2) => rvalid_n hN (chart_keep hec hb) hn false)
 have HF1 := Lib.hid (fun (w2 : World) (hb : Below w.heap.size w w2) (c : Int) (hc : intBd c) {o : XAccount} {s : Bool} (ho : accO (findA ec c) = o) (hs : (findA ec c).isSome = s) => rfind_n hN (chart_keep hec hb) hn c hc ho hs)
 have HF2 := Lib.hid (fun (w2 : World) (hb : Below w.heap.size w w2) (c : Int) (hc : intBd c) {o : XAccount} {s : Bool} (ho : accO (findA ch c) = o) (hs : (findA ch c).isSome = s) => rfind_n hM (chart_keep hch hb) hm c hc ho hs)
 have HLS := Lib.hid hls
 have HNL := Lib.hid hNL
 rw [hNL] at hnl
 clear hr hec hch hN hM hls hNL hn hm
 show Calls Tryz.prog 102 #[.agg #[.string s, .string cu, .slice Ac n cc, .slice Al nl cl, .bool jo], .slice Ah m hc] w (Quiet w (.bool r))
 go_enter Tryz.func102, Tryz.ntmps102
 go_upto_region 1 with fail
 have H := heap_alloc_new w (.cells #[.string s, .string cu, .slice Ac n cc, .slice Al nl cl, .bool jo] 92)
 have HB := below1 w (.cells #[.string s, .string cu, .slice Ac n cc, .slice Al nl cl, .bool jo] 92)
 have HS := blk_lt H
 generalize hW : w.alloc (Obj.cells #[.string s, .string cu, .slice Ac n cc, .slice Al nl cl, .bool jo] 92) = W at *
 clear hW
 have HH := Lib.hid H
 clear H
 go_wp2_with fail
 refine (HV1.out W HB).mono ?_
 rintro e w2 ⟨rfl, hb2⟩
 have hb02 := HB.trans (hb2.mono HB.size)
 cases hc1 : chartB ch true with
 | false =>
  have hf := Lib.hid (show r = false by rw [← HR.out]; unfold mapB; rw [hc1]; rfl)
  go_wp2_with fail
  go_ret
  exact ⟨by rw [hf.out]; first | done | rfl, hb02⟩
 | true =>
 have HC1 := Lib.hid hc1
 have G2 := (hb2.block _ HS).trans HH.out
 have e2 := blk_cell G2 2
 have hs2 := hb2.size
 clear hc1
 go_wp2_with fail
 refine (HV2.out w2 hb02).mono ?_
 rintro e w3 ⟨rfl, hb3⟩
 have hb03 := hb02.trans (hb3.mono hb02.size)
 have hs3 := hb3.size
 have G3 := (hb3.block _ (by omega)).trans G2
 have e3 := blk_cell G3 3
 clear e2 G2
 cases hc2 : chartB ec false with
 | false =>
  have hf := Lib.hid (show r = false by rw [← HR.out]; unfold mapB; rw [hc2, Bool.and_false]; rfl)
  go_wp2_with fail
  go_ret
  exact ⟨by rw [hf.out]; first | done | rfl, hb03⟩
 | true =>
 have HC2 := Lib.hid hc2
 clear hc2
 by_cases hle : nl ≤ 400
 case neg =>
  have hleI : (400 : Int) < (nl : Int) := by omega
  have hf := Lib.hid (show r = false by rw [← HR.out]; unfold mapB; rw [HNL.out, decide_eq_false hle, Bool.and_false]; rfl)
  go_wp2_with fail
  go_ret
  exact ⟨by rw [hf.out]; first | done | rfl, hb03⟩
 case pos =>
 have hleI : ¬ (400 : Int) < (nl : Int) := by omega
 have HG3 := Lib.hid G3
 clear G3
 go_wp2_with fail
 go_loopw [5] (fun i wr => ∃ k : Nat, k ≤ nl ∧ i = .int .i64 (k : Int) ∧ Below w3.heap.size w3 wr ∧ ∀ j, j < k → linkRow ec ch ls j = true) (fun i _ => nl - (intOf i).toNat)
 case atStart => exact ⟨0, by omega, rfl, Below.refl _ _, fun j hj => by omega⟩
 case round =>
  obtain ⟨k, hk, rfl, hb, hall⟩ := hrel
  have HA := Lib.hid hall
  have hsz := hb.size
  clear hall e3
  have hb0 := hb03.trans (hb.mono hb03.size)
  have ER := (hb.block w.heap.size (by omega)).trans HG3.out
  have e3 := blk_cell ER 3
  by_cases hlt : k < nl
  case pos =>
   have hltI : (k : Int) < (nl : Int) := by omega
   have hkl : k < ls.length := by rw [HNL.out]; exact hlt
   obtain ⟨b, o, hAe, hbw, hel⟩ := ListC.base HLS.out (by omega)
   subst hAe
   obtain ⟨es1, hes, hat⟩ := hel k hkl
   have HEL := Lib.hid hel
   obtain ⟨hes1, hlb⟩ := LinkC.lit hes
   obtain ⟨l, hl⟩ : ∃ l, ls[k] = l := ⟨_, rfl⟩
   rw [hl] at hes1 hlb
   have HL := Lib.hid (show ls[k]? = some l by rw [List.getElem?_eq_getElem hkl, hl])
   obtain ⟨o1, ho1⟩ : ∃ o, accO (findA ec l.from_) = o := ⟨_, rfl⟩
   obtain ⟨s1, hs1⟩ : ∃ s, (findA ec l.from_).isSome = s := ⟨_, rfl⟩
   obtain ⟨o2, ho2⟩ : ∃ o, accO (findA ch l.to_) = o := ⟨_, rfl⟩
   obtain ⟨s2, hs2⟩ : ∃ s, (findA ch l.to_).isSome = s := ⟨_, rfl⟩
   have HLB := Lib.hid (linkB_eq ho1 hs1 ho2 hs2)
   obtain ⟨l1, l2, l3⟩ := l
   subst hes1
   obtain ⟨b1, b2, b3⟩ := hlb
   simp only at b1 b2 b3 ho1 hs1 ho2 hs2
   have HFA := Lib.hid (fun (w2 : World) (hb : Below w.heap.size w w2) => HF1.out w2 hb l1 b1 ho1 hs1)
   have HFB := Lib.hid (fun (w2 : World) (hb : Below w.heap.size w w2) => HF2.out w2 hb l2 b2 ho2 hs2)
   have HAR := Lib.hid ((hat.fr (Fr.ofBelow hb0)).range)
   clear hes hat hl hel b1 b2 ho1 hs1 ho2 hs2
   go_upto_region 7 with (show wpList _ _ _ (Oper.mk (some 38) _ _ _ _ _ :: _) _ _; refine wpList_load_mid rfl 135 (.tmp 37) rfl b (o + k * 3) rfl [.int .i64 l1, .int .i64 l2, .int .i64 l3] _ HAR.out Tryz.underlying135 rfl info_link ?_)
   have H6 := heap_alloc_new wr (.cells #[.int .i64 l1, .int .i64 l2, .int .i64 l3] 135)
   have HB6 := below1 wr (.cells #[.int .i64 l1, .int .i64 l2, .int .i64 l3] 135)
   have HS6 := blk_lt H6
   replace ER := alloc_keep ER (Obj.cells #[.int .i64 l1, .int .i64 l2, .int .i64 l3] 135)
   generalize hW6 : wr.alloc (Obj.cells #[.int .i64 l1, .int .i64 l2, .int .i64 l3] 135) = W6 at *
   clear hW6
   have hs6 := HB6.size
   have hb06 := hb0.trans (HB6.mono hb0.size)
   have e2 := blk_cell ER 2
   have f0 := blk_cell H6 0
   have HX6 := Lib.hid H6
   have HE6 := Lib.hid ER
   clear H6 ER e3
   go_wp2_with fail
   refine (HFA.out W6 hb06).mono ?_
   rintro e w7 ⟨rfl, hb7⟩
   have hs7 := hb7.size
   have hb67 := HB6.trans (hb7.mono HB6.size)
   have K7 := (hb7.block _ HS6).trans HX6.out
   obtain ⟨p1, p2, p3, p4⟩ := o1
   go_upto_region 8 with fail
   have H8 := heap_alloc_new w7 (.cells #[.int .i64 p1, .int .i64 p2, .int .i64 p3, .int .i64 p4] 87)
   have HB8 := below1 w7 (.cells #[.int .i64 p1, .int .i64 p2, .int .i64 p3, .int .i64 p4] 87)
   have HS8 := blk_lt H8
   replace K7 := alloc_keep K7 (Obj.cells #[.int .i64 p1, .int .i64 p2, .int .i64 p3, .int .i64 p4] 87)
   generalize hW8 : w7.alloc (Obj.cells #[.int .i64 p1, .int .i64 p2, .int .i64 p3, .int .i64 p4] 87) = W8 at *
   clear hW8
   have hs8 := HB8.size
   have hb68 := hb67.trans (HB8.mono hb67.size)
   have hb08 := hb0.trans (hb68.mono hb0.size)
   have f1 := blk_cell K7 1
   have HK8 := Lib.hid K7
   have HP8 := Lib.hid H8
   clear K7 H8 e2 f0
   go_wp2_with fail
   refine (HFB.out W8 hb08).mono ?_
   rintro e w9 ⟨rfl, hb9⟩
   have hs9 := hb9.size
   have hb69 := hb68.trans (hb9.mono hb68.size)
   have K9 := (hb9.block _ (by omega)).trans HK8.out
   have P9 := (hb9.block _ (by omega)).trans HP8.out
   obtain ⟨q1, q2, q3, q4⟩ := o2
   go_upto_region 9 with fail
   have H10 := heap_alloc_new w9 (.cells #[.int .i64 q1, .int .i64 q2, .int .i64 q3, .int .i64 q4] 87)
   have HB10 := below1 w9 (.cells #[.int .i64 q1, .int .i64 q2, .int .i64 q3, .int .i64 q4] 87)
   have HS10 := blk_lt H10
   replace K9 := alloc_keep K9 (Obj.cells #[.int .i64 q1, .int .i64 q2, .int .i64 q3, .int .i64 q4] 87)
   replace P9 := alloc_keep P9 (Obj.cells #[.int .i64 q1, .int .i64 q2, .int .i64 q3, .int .i64 q4] 87)
   generalize hW10 : w9.alloc (Obj.cells #[.int .i64 q1, .int .i64 q2, .int .i64 q3, .int .i64 q4] 87) = W10 at *
   clear hW10
   have hs10 := HB10.size
   have hb610 := hb69.trans (HB10.mono hb69.size)
   have hb010 := hb0.trans (hb610.mono hb0.size)
   have f2 := blk_cell K9 2
   have g1 := blk_cell P9 1
   have k1 := blk_cell H10 1
   have HK10 := Lib.hid K9
   clear K9 P9 H10 f1
   cases s1 with
   | false =>
    have hf := Lib.hid (show r = false by rw [← HR.out]; exact mapB_row hkl (link_bad HL.out (by rw [HLB.out]; rfl)))
    go_wp2_with fail
    go_ret
    exact ⟨by rw [hf.out]; first | done | rfl, hb010⟩
   | true =>
   cases s2 with
   | false =>
    have hf := Lib.hid (show r = false by rw [← HR.out]; exact mapB_row hkl (link_bad HL.out (by rw [HLB.out]; rfl)))
    go_wp2_with fail
    go_ret
    exact ⟨by rw [hf.out]; first | done | rfl, hb010⟩
   | true =>
   by_cases h1 : p2 = q2
   case neg =>
    have h1' : (p2 != q2) = true := by simpa using h1
    have hf := Lib.hid (show r = false by rw [← HR.out]; exact mapB_row hkl (link_bad HL.out (by rw [HLB.out]; simp [h1])))
    go_wp2_with fail
    go_ret
    exact ⟨by rw [hf.out]; first | done | rfl, hb010⟩
   case pos =>
   have h1' : (p2 != q2) = false := by simpa using h1
   have HLD := Lib.hid (show linkB ec ch ⟨l1, l2, l3⟩ = decide (inD l3) by rw [HLB.out, h1]; simp)
   obtain ⟨d, hd⟩ : ∃ d, decide (inD l3) = d := ⟨_, rfl⟩
   have hcall := rdvalid_c l3 W10
   rw [hd] at hcall
   have HD := Lib.hid hd
   clear hd
   go_wp2_with fail
   refine hcall.mono ?_
   clear hcall
   rintro e w11 ⟨rfl, hb11⟩
   have hs11 := hb11.size
   have hb611 := hb610.trans (hb11.mono hb610.size)
   have hb011 := hb010.trans (hb11.mono hb010.size)
   cases d with
   | false =>
    have hf := Lib.hid (show r = false by rw [← HR.out]; exact mapB_row hkl (link_bad HL.out (HLD.out.trans HD.out)))
    go_wp2_with fail
    go_ret
    exact ⟨by rw [hf.out]; first | done | rfl, hb011⟩
   | true =>
   have K11 := Lib.hid ((hb11.block _ (by omega)).trans HK10.out)
   have E11 := Lib.hid (((hb7.trans ((HB8.mono hs7).trans ((hb9.mono (by omega)).trans ((HB10.mono (by omega)).trans (hb11.mono (by omega)))))).block _ (by omega)).trans HE6.out)
   clear f2 g1 k1
   go_wp2_with fail
   go_loopw [11] (fun i wi => ∃ j : Nat, j ≤ k ∧ i = .int .i64 (j : Int) ∧ Below w11.heap.size w11 wi ∧ ∀ j' (hl : j' < ls.length), j' < j → ¬ (ls[j'].from_ = l1 ∧ ls[j'].since = l3)) (fun i _ => k - (intOf i).toNat)
   case atStart => exact ⟨0, by omega, rfl, Below.refl _ _, fun j hj h => by omega⟩
   case round =>
    obtain ⟨j, hj, rfl, hbi, halli⟩ := hrel
    have HAI := Lib.hid halli
    have hsi := hbi.size
    clear halli
    have hb0i := hb011.trans (hbi.mono hb011.size)
    by_cases hjk : j < k
    case pos =>
     have hjkI : (j : Int) < (k : Int) := by omega
     have hjnI : (j : Int) < (nl : Int) := by omega
     have hjl : j < ls.length := by rw [HNL.out]; omega
     obtain ⟨es2, hes2, hat2⟩ := HEL.out j hjl
     obtain ⟨hes3, _⟩ := LinkC.lit hes2
     obtain ⟨x2, hx2⟩ : ∃ x2, ls[j] = x2 := ⟨_, rfl⟩
     rw [hx2] at hes3
     have HX2 := Lib.hid hx2
     obtain ⟨j1, j2, j3⟩ := x2
     subst hes3
     have hat3 := hat2.fr (Fr.ofBelow hb0i)
     have c0 := hat3.c (j := 0) rfl
     have c2 := hat3.c (j := 2) rfl
     rw [Nat.add_zero] at c0
     have KI := (hbi.block _ (by omega)).trans K11.out
     have EI := (hbi.block _ (by omega)).trans E11.out
     have f0 := blk_cell KI 0
     have f2 := blk_cell KI 2
     have e3 := blk_cell EI 3
     clear hes2 hat2 hat3 hx2 KI EI
     by_cases ha : j1 = l1
     case neg =>
      have ha' : (j1 == l1) = false := by simpa using ha
      have HN2 := Lib.hid (show ¬ (j1 = l1 ∧ j3 = l3) from fun h => ha h.1)
      clear ha
      go_wp2_with fail
      go_quiet (fail)
      go_wp2_with fail
      go_roundw
      case rel => exact ⟨j + 1, by omega, by go_num, ((Fr.ofBelow hbi).drewN _).below, fun j' hj' hjj => by
       rcases Nat.lt_or_ge j' j with h | h
       · exact HAI.out j' hj' h
       · have : j' = j := by omega
         subst this
         rw [HX2.out]
         exact HN2.out⟩
      case measure => first | exact meas_v hjk | (simp only [intOf]; omega)
     case pos =>
     have ha' : (j1 == l1) = true := by simpa using ha
     by_cases hc3 : j3 = l3
     case neg =>
      have hc' : (j3 == l3) = false := by simpa using hc3
      have HN2 := Lib.hid (show ¬ (j1 = l1 ∧ j3 = l3) from fun h => hc3 h.2)
      clear ha hc3
      go_wp2_with fail
      go_quiet (fail)
      go_wp2_with fail
      go_roundw
      case rel => exact ⟨j + 1, by omega, by go_num, ((Fr.ofBelow hbi).drewN _).below, fun j' hj' hjj => by
       rcases Nat.lt_or_ge j' j with h | h
       · exact HAI.out j' hj' h
       · have : j' = j := by omega
         subst this
         rw [HX2.out]
         exact HN2.out⟩
      case measure => first | exact meas_v hjk | (simp only [intOf]; omega)
     case pos =>
      have hc' : (j3 == l3) = true := by simpa using hc3
      have hf := Lib.hid (show r = false by rw [← HR.out]; exact mapB_row hkl (link_twice HL.out hjk hjl (by rw [HX2.out]; exact ha) (by rw [HX2.out]; exact hc3)))
      clear ha hc3
      go_wp2_with fail
      go_quiet (fail)
      go_wp2_with fail
      go_ret
      exact ⟨by rw [hf.out]; first | done | rfl, ((Fr.ofBelow hb0i).drewN _).below⟩
    case neg =>
     have hjkI : ¬ (j : Int) < (k : Int) := by omega
     have HRW := Lib.hid (show linkRow ec ch ls k = true from link_once HL.out (HLD.out.trans HD.out) (fun j' hl' hjk' => HAI.out j' hl' (by omega)))
     go_wp2_with fail
     go_roundw
     case rel => exact ⟨k + 1, by omega, by go_num, hb.trans ((hb611.trans (hbi.mono hb611.size)).mono hsz), fun i hi => by
      rcases Nat.lt_or_ge i k with h | h
      · exact HA.out i h
      · have : i = k := by omega
        subst this
        exact HRW.out⟩
     case measure => first | exact meas_v hlt | (simp only [intOf]; omega)
  case neg =>
   have hltI : ¬ (k : Int) < (nl : Int) := by omega
   have hf := Lib.hid (show r = true by
    rw [← HR.out]; unfold mapB linksB
    rw [HC1.out, HC2.out, HNL.out, decide_eq_true hle, all_range_true (fun j hj => HA.out j (by omega))]; rfl)
   go_wp2_with fail
   go_ret
   exact ⟨by rw [hf.out]; first | done | rfl, hb0⟩
theorem rmapValid_n {e : XEntity} {ch : List XAccount} {Ac Al Ah : Option Addr} {n m nl cc cl hc : Nat} {w : World} (hN : e.chart.length = n) (hM : ch.length = m) (hNL : e.links.length = nl) (hec : ListC AccountC 4 w (· < w.heap.size) [.slice Ac e.chart.length cc] e.chart) (hls : ListC LinkC 3 w (· < w.heap.size) [.slice Al e.links.length cl] e.links) (hch : ListC AccountC 4 w (· < w.heap.size) [.slice Ah ch.length hc] ch) (hn : e.chart.length ≤ 1000) (hm : ch.length ≤ 1000) (hnl : e.links.length ≤ 1000) (w2 : World) (hb : Below w.heap.size w w2) :
 Calls Tryz.prog 102 #[.agg (entL e.name e.currency Ac n cc Al nl cl e.joint).toArray, .slice Ah m hc] w2 (Quiet w2 (.bool (mapB e.chart ch e.links))) :=
 rmapValid_c e.name e.currency Ac Al Ah n m nl cc cl hc e.joint e.chart ch e.links w2 hN hM hNL (chart_keep hec hb) (links_keep hls hb) (chart_keep hch hb) hn hm hnl
theorem ent_name {ch : List XAccount} {L : List XRole} {e : XEntity} (h : nameB e.name = false) : entityB ch L e = false := by unfold entityB; rw [h]; simp
theorem ent_cur {ch : List XAccount} {L : List XRole} {e : XEntity} (h : curB e.currency = false) : entityB ch L e = false := by unfold entityB; rw [h]; simp
theorem ent_map {ch : List XAccount} {L : List XRole} {e : XEntity} (h : mapB e.chart ch e.links = false) : entityB ch L e = false := by unfold entityB; rw [show mappingB e ch = mapB e.chart ch e.links from rfl, h]; simp
theorem ent_link {ch : List XAccount} {L : List XRole} {e : XEntity} {k : Nat} {l : XLink} (hk : e.links[k]? = some l) (h : closedB L l.to_ = true) : entityB ch L e = false := by
 unfold entityB
 obtain ⟨hl, rfl⟩ := List.getElem?_eq_some_iff.1 hk
 rw [List.all_eq_false.2 ⟨e.links[k], List.getElem_mem hl, by rw [h]; decide⟩, Bool.and_false]
theorem ent_all {ch : List XAccount} {L : List XRole} {e : XEntity} (h1 : nameB e.name = true) (h2 : curB e.currency = true) (h3 : mapB e.chart ch e.links = true) (h : ∀ k (hk : k < e.links.length), closedB L e.links[k].to_ = false) : entityB ch L e = true := by
 unfold entityB
 rw [h1, h2, show mappingB e ch = mapB e.chart ch e.links from rfl, h3, List.all_eq_true.2 (fun x hx => by
  obtain ⟨k, hk, rfl⟩ := List.getElem_of_mem hx
  rw [h k hk]; rfl)]
 rfl
theorem closed_at {L : List XRole} {c : Int} {j : Nat} (hj : j < L.length) (h1 : L[j].code = c) (h2 : L[j].mapped = false) : closedB L c = true := by
 unfold closedB
 rw [List.any_eq_true]
 exact ⟨L[j], List.getElem_mem hj, by simp [h1, h2]⟩
theorem closed_no {L : List XRole} {c : Int} (h : ∀ j (hj : j < L.length), ¬ (L[j].code = c ∧ L[j].mapped = false)) : closedB L c = false := by
 unfold closedB
 rw [List.any_eq_false]
 intro x hx
 obtain ⟨j, hj, rfl⟩ := List.getElem_of_mem hx
 have := h j hj
 simp only [Bool.and_eq_true, beq_iff_eq, Bool.not_eq_true']
 exact this
set_option maxHeartbeats 4000000 in
theorem rentity_c (g : XGroup) (cs : List Value) (x : XEntity) (xs : List Value) (w : World) (hg : GroupC w (· < w.heap.size) cs g) (hx : EntityC w (· < w.heap.size) xs x) (hn : g.chart.length ≤ 1000) (hn2 : x.chart.length ≤ 1000) (hnl : x.links.length ≤ 1000) (hs1 : x.name.size ≤ 1000) (hs2 : x.currency.size ≤ 1000) : Calls Tryz.prog 69 #[.agg cs.toArray, .agg xs.toArray] w (Quiet w (.bool (entityB g.chart (rolesOf g.roles) x))) := by
 obtain ⟨r, hr⟩ : ∃ r, entityB g.chart (rolesOf g.roles) x = r := ⟨_, rfl⟩
 rw [hr]
 have HR := Lib.hid hr
 clear hr
 obtain ⟨Ac, cc, Ae, ce, rfl, hch, hen, hcal, hro⟩ := hg.lit
 clear hg
 obtain ⟨cur, ⟨y, m, p⟩, ch, ⟨r0, r1, r2, r3, r4, r5, r6, r7, r8, r9, r10, r11, r12, r13, r14⟩, es⟩ := g
 simp only at hch hen hro hcal hn ⊢
 obtain ⟨Ec, c2, Al, cl, rfl, hec, hel⟩ := hx.lit
 clear hx
 obtain ⟨L, hL⟩ : ∃ L, rolesL r0 r1 r2 r3 r4 r5 r6 r7 r8 r9 r10 r11 r12 r13 r14 = L := ⟨_, rfl⟩
 have hLl : L.length = 15 := by rw [← hL]; rfl
 have HLQ := Lib.hid hL
 have HLL := Lib.hid hLl
 obtain ⟨n, hnn⟩ : ∃ n, ch.length = n := ⟨_, rfl⟩
 obtain ⟨ne, hne⟩ : ∃ ne, es.length = ne := ⟨_, rfl⟩
 have HL := Lib.hid hch
 have HN := Lib.hid hnn
 have HE := Lib.hid hen
 have HNE := Lib.hid hne
 rw [hnn, hne]
 rw [hnn] at hn
 clear hL hLl hch hen hnn hne hcal; clear hro
 rw [show rolesOf ⟨r0, r1, r2, r3, r4, r5, r6, r7, r8, r9, r10, r11, r12, r13, r14⟩ = L from HLQ.out] at HR
 obtain ⟨n2, hn2e⟩ : ∃ n, x.chart.length = n := ⟨_, rfl⟩
 obtain ⟨nl, hnle⟩ : ∃ n, x.links.length = n := ⟨_, rfl⟩
 have HMV := Lib.hid (rmapValid_n hn2e HN.out hnle hec hel HL.out hn2 (by rw [HN.out]; exact hn) hnl)
 have HLK := Lib.hid hel
 have HNL := Lib.hid hnle
 rw [hn2e, hnle]
 obtain ⟨s, cu, ec, ls, jo⟩ := x
 simp only at HR HMV HLK HNL hs1 hs2 hnl ⊢
 have hnlb : nl ≤ 1000 := by rw [← HNL.out]; exact hnl
 clear hec hel hn2e hnle hn2 hnl
 show Calls Tryz.prog 69 #[.agg #[.string cur, .int .i64 y, .int .i64 m, .int .i64 p, .slice Ac n cc, .int .i64 r0, .int .i64 r1, .int .i64 r2, .int .i64 r3, .int .i64 r4, .int .i64 r5, .int .i64 r6, .int .i64 r7, .int .i64 r8, .int .i64 r9, .int .i64 r10, .int .i64 r11, .int .i64 r12, .int .i64 r13, .int .i64 r14, .slice Ae ne ce], .agg #[.string s, .string cu, .slice Ec n2 c2, .slice Al nl cl, .bool jo]] w (Quiet w (.bool r))
 go_enter Tryz.func69, Tryz.ntmps69
 go_upto_region 1 with fail
 have H := heap_alloc_new w (.cells #[.string cur, .int .i64 y, .int .i64 m, .int .i64 p, .slice Ac n cc, .int .i64 r0, .int .i64 r1, .int .i64 r2, .int .i64 r3, .int .i64 r4, .int .i64 r5, .int .i64 r6, .int .i64 r7, .int .i64 r8, .int .i64 r9, .int .i64 r10, .int .i64 r11, .int .i64 r12, .int .i64 r13, .int .i64 r14, .slice Ae ne ce] 29)
 have HB := below1 w (.cells #[.string cur, .int .i64 y, .int .i64 m, .int .i64 p, .slice Ac n cc, .int .i64 r0, .int .i64 r1, .int .i64 r2, .int .i64 r3, .int .i64 r4, .int .i64 r5, .int .i64 r6, .int .i64 r7, .int .i64 r8, .int .i64 r9, .int .i64 r10, .int .i64 r11, .int .i64 r12, .int .i64 r13, .int .i64 r14, .slice Ae ne ce] 29)
 have HS := blk_lt H
 generalize hW : w.alloc (Obj.cells #[.string cur, .int .i64 y, .int .i64 m, .int .i64 p, .slice Ac n cc, .int .i64 r0, .int .i64 r1, .int .i64 r2, .int .i64 r3, .int .i64 r4, .int .i64 r5, .int .i64 r6, .int .i64 r7, .int .i64 r8, .int .i64 r9, .int .i64 r10, .int .i64 r11, .int .i64 r12, .int .i64 r13, .int .i64 r14, .slice Ae ne ce] 29) = W at *
 have H2 := heap_alloc_new W (.cells #[.string s, .string cu, .slice Ec n2 c2, .slice Al nl cl, .bool jo] 92)
 have HB2 := below1 W (.cells #[.string s, .string cu, .slice Ec n2 c2, .slice Al nl cl, .bool jo] 92)
 have HS2 := blk_lt H2
 replace H := alloc_keep H (Obj.cells #[.string s, .string cu, .slice Ec n2 c2, .slice Al nl cl, .bool jo] 92)
 generalize hW2 : W.alloc (Obj.cells #[.string s, .string cu, .slice Ec n2 c2, .slice Al nl cl, .bool jo] 92) = W2 at *
 clear hW2
 have eW : W.heap.size = w.heap.size + 1 := by rw [← hW]; simp
 rw [eW] at H2
 clear hW
 have hb2 := HB.trans (HB2.mono HB.size)
 have hs2' := HB2.size
 have f0 := blk_cell H2 0
 have HAT := Lib.hid ((box_at (cs := [.string cur, .int .i64 y, .int .i64 m, .int .i64 p, .slice Ac n cc] ++ ([.int .i64 r0, .int .i64 r1, .int .i64 r2, .int .i64 r3, .int .i64 r4, .int .i64 r5, .int .i64 r6, .int .i64 r7, .int .i64 r8, .int .i64 r9, .int .i64 r10, .int .i64 r11, .int .i64 r12, .int .i64 r13, .int .i64 r14] ++ [.slice Ae ne ce])) H).split.2.split.1)
 have HH := Lib.hid H
 have HH2 := Lib.hid H2
 have LT1 := blk_lt H2
 clear H H2
 go_wp2_with fail
 refine (rName_c s W2 hs1).mono ?_
 rintro e w3 ⟨rfl, hb3⟩
 have hb03 := hb2.trans (hb3.mono hb2.size)
 have hs3 := hb3.size
 cases hc1 : nameB s with
 | false =>
  have hf := Lib.hid (show r = false by rw [← HR.out]; exact ent_name hc1)
  go_wp2_with fail
  go_ret
  exact ⟨by rw [hf.out]; first | done | rfl, hb03⟩
 | true =>
 have HC1 := Lib.hid hc1
 have E3 := (hb3.block _ LT1).trans HH2.out
 have f1 := blk_cell E3 1
 clear hc1 f0
 go_wp2_with fail
 refine (rCurrency_c cu w3 hs2).mono ?_
 rintro e wC ⟨rfl, hbC⟩
 have hb0C := hb03.trans (hbC.mono hb03.size)
 have hsC := hbC.size
 cases hc2 : curB cu with
 | false =>
  have hf := Lib.hid (show r = false by rw [← HR.out]; exact ent_cur hc2)
  go_wp2_with fail
  go_ret
  exact ⟨by rw [hf.out]; first | done | rfl, hb0C⟩
 | true =>
 have HC2 := Lib.hid hc2
 have HE3 := Lib.hid ((hbC.block _ (by omega)).trans E3)
 have GC := (hbC.block _ (by omega)).trans ((hb3.block _ (by omega)).trans HH.out)
 have d4 := blk_cell GC 4
 have HCALL := Lib.hid (HMV.out wC hb0C)
 clear hc2 f1 E3 GC
 go_wp2_with (show wpList _ _ _ (Oper.mk (some 19) _ _ _ _ _ :: _) _ _; refine wpList_load_row_g rfl 92 (.tmp 3) rfl (w.heap.size + 1) rfl _ _ _ _ HE3.out Tryz.underlying92 rfl info_entity ?_)
 refine HCALL.out.mono ?_
 rintro e w4 ⟨rfl, hb4⟩
 have hb04 := hb0C.trans (hb4.mono hb0C.size)
 have hs4 := hb4.size
 clear d4
 cases hc3 : mapB ec ch ls with
 | false =>
  have hf := Lib.hid (show r = false by rw [← HR.out]; exact ent_map hc3)
  go_wp2_with fail
  go_ret
  exact ⟨by rw [hf.out]; first | done | rfl, hb04⟩
 | true =>
 have HC3 := Lib.hid hc3
 have HE4 := Lib.hid ((hb4.block _ (by omega)).trans HE3.out)
 have HAT4 := Lib.hid ((HAT.out.fr (Fr.ofBelow (hb3.trans ((hbC.mono hs3).trans (hb4.mono (by omega)))))).range)
 clear hc3
 go_wp2_with (show wpList _ _ _ (Oper.mk (some 26) _ _ _ _ _ :: _) _ _; refine wpList_load_mid rfl 26 (.tmp 25) rfl w.heap.size 5 rfl [.int .i64 r0, .int .i64 r1, .int .i64 r2, .int .i64 r3, .int .i64 r4, .int .i64 r5, .int .i64 r6, .int .i64 r7, .int .i64 r8, .int .i64 r9, .int .i64 r10, .int .i64 r11, .int .i64 r12, .int .i64 r13, .int .i64 r14] _ HAT4.out Tryz.underlying26 rfl info_roles ?_)
 refine (rRoles_c r0 r1 r2 r3 r4 r5 r6 r7 r8 r9 r10 r11 r12 r13 r14 w4).mono ?_
 rintro e w5 ⟨v, rfl, ⟨A, c, rfl⟩, hrl, hb5⟩
 rw [HLQ.out] at hrl
 have HROL := Lib.hid (show ListC RoleC 5 w5 (fun k => w4.heap.size ≤ k ∧ k < w5.heap.size) [.slice A L.length c] L by rw [HLL.out]; exact hrl)
 have hs5 := hb5.size
 have hbd := hb04.trans (hb5.mono hb04.size)
 have HE5 := Lib.hid ((hb5.block _ (by omega)).trans HE4.out)
 clear hrl
 obtain ⟨b, o, hAe, hbw, helr⟩ := ListC.base HROL.out (by rw [HLL.out]; omega)
 subst hAe
 have HELR := Lib.hid helr
 clear helr
 go_wp2_with fail
 go_loopw [6] (fun i wr => ∃ k : Nat, k ≤ nl ∧ i = .int .i64 (k : Int) ∧ Below w5.heap.size w5 wr ∧ ∀ i (hi : i < ls.length), i < k → closedB L ls[i].to_ = false) (fun i _ => nl - (intOf i).toNat)
 case atStart => exact ⟨0, by omega, rfl, Below.refl _ _, fun j hj h => by omega⟩
 case round =>
  obtain ⟨k, hk, rfl, hb, hall⟩ := hrel
  have HA := Lib.hid hall
  have hsz := hb.size
  clear hall
  have hb0 := hbd.trans (hb.mono hbd.size)
  have ER := (hb.block (w.heap.size + 1) (by omega)).trans HE5.out
  have e3 := blk_cell ER 3
  by_cases hlt : k < nl
  case pos =>
   have hltI : (k : Int) < (nl : Int) := by omega
   have hkl : k < ls.length := by rw [HNL.out]; exact hlt
   obtain ⟨bl, ol, es1, hAe, hbl, hes, hat⟩ := ListC.get HLK.out k hkl
   subst hAe
   obtain ⟨hes1, _⟩ := LinkC.lit hes
   obtain ⟨l, hl⟩ : ∃ l, ls[k] = l := ⟨_, rfl⟩
   rw [hl] at hes1
   have HLL2 := Lib.hid (show ls[k]? = some l by rw [List.getElem?_eq_getElem hkl, hl])
   have HLG := Lib.hid hl
   obtain ⟨l1, l2, l3⟩ := l
   subst hes1
   have HLC := Lib.hid ((hat.fr (Fr.ofBelow hb0)).c (j := 1) rfl)
   have HER := Lib.hid ER
   have LT := Lib.hid (show bl < w.heap.size from hbl)
   clear hes hat hl hbl ER
   go_wp2_with fail
   go_loopw [7] (fun i wi => ∃ j : Nat, j ≤ 15 ∧ i = .int .i64 (j : Int) ∧ Below wr.heap.size wr wi ∧ ∀ j' (hl : j' < L.length), j' < j → ¬ (L[j'].code = l2 ∧ L[j'].mapped = false)) (fun i _ => 15 - (intOf i).toNat)
   case atStart => exact ⟨0, by omega, rfl, Below.refl _ _, fun j hj h => by omega⟩
   case round =>
    obtain ⟨j, hj, rfl, hbi, halli⟩ := hrel
    have HAI := Lib.hid halli
    have hsi := hbi.size
    clear halli
    have hb0i := hb0.trans (hbi.mono hb0.size)
    by_cases hjk : j < 15
    case pos =>
     have hjkI : (j : Int) < 15 := by omega
     have hjl : j < L.length := by rw [HLL.out]; exact hjk
     obtain ⟨es2, hes2, hat2⟩ := HELR.out j hjl
     obtain ⟨q, hq⟩ : ∃ q, L[j] = q := ⟨_, rfl⟩
     rw [hq] at hes2
     have HQ := Lib.hid hq
     obtain ⟨qn, qc, qk, qb, qm⟩ := q
     have hes3 : es2 = [.string qn, .int .i64 qc, .int .i64 qk, .int .i64 qb, .bool qm] := hes2
     subst hes3
     have hat3 := (hat2.fr ((Fr.ofBelow (hb.trans (hbi.mono hsz))).mono (fun k hk => hk.2)))
     have c1 := hat3.c (j := 1) rfl
     have c4 := hat3.c (j := 4) rfl
     have cl1 := (hbi.cell (p := ⟨bl, ol + k * 3 + 1, none⟩) (by have := LT.out; have := hb0.size; show bl < _; omega)).trans HLC.out
     have EI := (hbi.block _ (by omega)).trans HER.out
     have e3 := blk_cell EI 3
     clear hes2 hat2 hat3 hq EI
     by_cases ha : qc = l2
     case neg =>
      have ha' : (l2 == qc) = false := by simpa using fun e : l2 = qc => ha e.symm
      have HN2 := Lib.hid (show ¬ (qc = l2 ∧ qm = false) from fun h => ha h.1)
      clear ha
      go_wp2_with fail
      go_quiet (fail)
      go_wp2_with fail
      go_roundw
      case rel => exact ⟨j + 1, by omega, by go_num, ((Fr.ofBelow hbi).drewN _).below, fun j' hj' hjj => by
       rcases Nat.lt_or_ge j' j with h | h
       · exact HAI.out j' hj' h
       · have : j' = j := by omega
         subst this
         rw [HQ.out]
         exact HN2.out⟩
      case measure => first | exact meas_v hjk | (simp only [intOf]; omega)
     case pos =>
     have ha' : (l2 == qc) = true := by simpa using ha.symm
     cases qm with
     | true =>
      have HN2 := Lib.hid (show ¬ (qc = l2 ∧ true = false) from fun h => by cases h.2)
      clear ha
      go_wp2_with fail
      go_quiet (fail)
      go_wp2_with fail
      go_roundw
      case rel => exact ⟨j + 1, by omega, by go_num, ((Fr.ofBelow hbi).drewN _).below, fun j' hj' hjj => by
       rcases Nat.lt_or_ge j' j with h | h
       · exact HAI.out j' hj' h
       · have : j' = j := by omega
         subst this
         rw [HQ.out]
         exact HN2.out⟩
      case measure => first | exact meas_v hjk | (simp only [intOf]; omega)
     | false =>
      have hf := Lib.hid (show r = false by rw [← HR.out]; exact ent_link HLL2.out (closed_at hjl (by rw [HQ.out]; exact ha) (by rw [HQ.out])))
      clear ha
      go_wp2_with fail
      go_quiet (fail)
      go_wp2_with fail
      go_ret
      exact ⟨by rw [hf.out]; first | done | rfl, ((Fr.ofBelow hb0i).drewN _).below⟩
    case neg =>
     have hjkI : ¬ (j : Int) < 15 := by omega
     have HRW := Lib.hid (show closedB L l2 = false from closed_no (fun j' hl' => HAI.out j' hl' (by have := HLL.out; omega)))
     go_wp2_with fail
     go_roundw
     case rel => exact ⟨k + 1, by omega, by go_num, hb.trans (hbi.mono hsz), fun i hi hik => by
      rcases Nat.lt_or_ge i k with h | h
      · exact HA.out i hi h
      · have : i = k := by omega
        subst this
        rw [HLG.out]
        exact HRW.out⟩
     case measure => first | exact meas_v hlt | (simp only [intOf]; omega)
  case neg =>
   have hltI : ¬ (k : Int) < (nl : Int) := by omega
   have hf := Lib.hid (show r = true by rw [← HR.out]; exact ent_all HC1.out HC2.out HC3.out (fun j hj => HA.out j hj (by have := HNL.out; simp only at hj; omega)))
   go_wp2_with fail
   go_ret
   exact ⟨by rw [hf.out]; first | done | rfl, hb0⟩
theorem ba_beq (a b : ByteArray) : (a.toList == b.toList) = decide (a = b) := by
 by_cases h : a = b
 · subst h; simp
 · rw [decide_eq_false h]
   have : a.toList ≠ b.toList := fun e => h (by
    rw [ByteArray.toList_eq, ByteArray.toList_eq] at e
    exact ByteArray.ext (Array.ext' e))
   simpa using this
def If (P : Prop) (w : World) (e : Ending) (w' : World) : Prop := ∃ b, e = .returned (.bool b) ∧ (b = true → P) ∧ Below w.heap.size w w'
theorem If.no {P : Prop} {w w' : World} (h : Below w.heap.size w w') : If P w (.returned (.bool false)) w' := ⟨false, rfl, (fun h => by cases h), h⟩
theorem If.yes {P : Prop} {w w' : World} (hp : P) (h : Below w.heap.size w w') : If P w (.returned (.bool true)) w' := ⟨true, rfl, fun _ => hp, h⟩
def szE (e : XEntity) : Prop := e.name.size ≤ 140737488355327 ∧ e.currency.size ≤ 140737488355327
def szG (g : XGroup) : Prop := g.currency.size ≤ 140737488355327 ∧ ∀ e ∈ g.entities, szE e
def fewE (e : XEntity) : Prop := e.chart.length ≤ 40 ∧ e.links.length ≤ 60 ∧ e.name.size ≤ 60 ∧ e.currency.size ≤ 60
def fewG (g : XGroup) : Prop := g.chart.length ≤ 60 ∧ g.entities.length ≤ 14 ∧ g.currency.size ≤ 20 ∧ ∀ e ∈ g.entities, fewE e
theorem fewG.small {g : XGroup} (h : fewG g) : smallG g := by
 obtain ⟨h1, h2, h3, h4⟩ := h
 refine ⟨by omega, by omega, by omega, fun e he => ?_⟩
 obtain ⟨a, b, c, d⟩ := h4 e he
 exact ⟨by omega, by omega, by omega, by omega⟩
def findE (es : List XEntity) (s : ByteArray) : Int × Bool := match es.findIdx? (fun x => decide (x.name = s)) with
 | some k => ((k : Int), true)
 | none => (0, false)
theorem findE_some {es : List XEntity} {s : ByteArray} {k : Nat} (hk : k < es.length) (h : es[k].name = s) (hb : ∀ j (hj : j < es.length), j < k → ¬ es[j].name = s) : findE es s = ((k : Int), true) := by
 unfold findE
 have : es.findIdx? (fun x => decide (x.name = s)) = some k := by
  rw [List.findIdx?_eq_some_iff_getElem]
  exact ⟨hk, decide_eq_true h, fun j hj => by simpa using hb j (by omega) hj⟩
 rw [this]
theorem findE_none {es : List XEntity} {s : ByteArray} (hb : ∀ j (hj : j < es.length), ¬ es[j].name = s) : findE es s = (0, false) := by
 unfold findE
 have : es.findIdx? (fun x => decide (x.name = s)) = none := by
  rw [List.findIdx?_eq_none_iff]
  intro x hx
  obtain ⟨j, hj, rfl⟩ := List.getElem_of_mem hx
  exact decide_eq_false (hb j hj)
 rw [this]
theorem findE_own {es : List XEntity} {k : Nat} {e : XEntity} (hk : es[k]? = some e) : ((findE es e.name).1 = (k : Int)) ↔ ((es.take k).any fun x => decide (x.name = e.name)) = false := by
 obtain ⟨hl, rfl⟩ := List.getElem?_eq_some_iff.1 hk
 constructor
 · intro h
   rw [List.any_eq_false]
   intro x hx
   rw [List.mem_take_iff_getElem] at hx
   obtain ⟨j, hj, rfl⟩ := hx
   simp only [decide_eq_true_eq]
   intro hn
   unfold findE at h
   cases hf : es.findIdx? (fun x => decide (x.name = es[k].name)) with
   | none =>
    rw [List.findIdx?_eq_none_iff] at hf
    have := hf _ (List.getElem_mem hl)
    simp at this
   | some q =>
    rw [hf] at h
    simp only at h
    rw [List.findIdx?_eq_some_iff_getElem] at hf
    obtain ⟨_, _, h2⟩ := hf
    have := h2 j (by omega)
    simp [hn] at this
 · intro h
   rw [List.any_eq_false] at h
   rw [findE_some hl rfl (fun j hj hjk => by
    have := h es[j] (by rw [List.mem_take_iff_getElem]; exact ⟨j, by omega, rfl⟩)
    simpa using this)]
set_option maxHeartbeats 2000000 in
theorem rFindE_c (g : XGroup) (cs : List Value) (nm : ByteArray) (w : World) (hg : GroupC w (· < w.heap.size) cs g) (hne1 : g.entities.length ≤ 1000) : Calls Tryz.prog 68 #[.agg cs.toArray, .string nm] w (Quiet w (.tuple #[.int .i64 (findE g.entities nm).1, .bool (findE g.entities nm).2])) := by
 obtain ⟨Ac, cc, Ae, ce, rfl, hch, hen, hcal, hro⟩ := hg.lit
 clear hg hro hcal hch
 obtain ⟨cur, ⟨y, m, p⟩, ch, ⟨r0, r1, r2, r3, r4, r5, r6, r7, r8, r9, r10, r11, r12, r13, r14⟩, es⟩ := g
 simp only at hen hne1 ⊢
 obtain ⟨r, hr⟩ : ∃ r, findE es nm = r := ⟨_, rfl⟩
 rw [hr]
 have HR := Lib.hid hr
 obtain ⟨n, hnl⟩ : ∃ n, ch.length = n := ⟨_, rfl⟩
 obtain ⟨ne, hne⟩ : ∃ ne, es.length = ne := ⟨_, rfl⟩
 have HE := Lib.hid hen
 have HNE := Lib.hid hne
 rw [hnl, hne]
 rw [hne] at hne1
 clear hr hen hnl hne
 show Calls Tryz.prog 68 #[.agg #[.string cur, .int .i64 y, .int .i64 m, .int .i64 p, .slice Ac n cc, .int .i64 r0, .int .i64 r1, .int .i64 r2, .int .i64 r3, .int .i64 r4, .int .i64 r5, .int .i64 r6, .int .i64 r7, .int .i64 r8, .int .i64 r9, .int .i64 r10, .int .i64 r11, .int .i64 r12, .int .i64 r13, .int .i64 r14, .slice Ae ne ce], .string nm] w (Quiet w _)
 go_enter Tryz.func68, Tryz.ntmps68
 go_upto_region 1 with fail
 have H := heap_alloc_new w (.cells #[.string cur, .int .i64 y, .int .i64 m, .int .i64 p, .slice Ac n cc, .int .i64 r0, .int .i64 r1, .int .i64 r2, .int .i64 r3, .int .i64 r4, .int .i64 r5, .int .i64 r6, .int .i64 r7, .int .i64 r8, .int .i64 r9, .int .i64 r10, .int .i64 r11, .int .i64 r12, .int .i64 r13, .int .i64 r14, .slice Ae ne ce] 29)
 have HB := below1 w (.cells #[.string cur, .int .i64 y, .int .i64 m, .int .i64 p, .slice Ac n cc, .int .i64 r0, .int .i64 r1, .int .i64 r2, .int .i64 r3, .int .i64 r4, .int .i64 r5, .int .i64 r6, .int .i64 r7, .int .i64 r8, .int .i64 r9, .int .i64 r10, .int .i64 r11, .int .i64 r12, .int .i64 r13, .int .i64 r14, .slice Ae ne ce] 29)
 have HS := blk_lt H
 generalize hW : w.alloc (Obj.cells #[.string cur, .int .i64 y, .int .i64 m, .int .i64 p, .slice Ac n cc, .int .i64 r0, .int .i64 r1, .int .i64 r2, .int .i64 r3, .int .i64 r4, .int .i64 r5, .int .i64 r6, .int .i64 r7, .int .i64 r8, .int .i64 r9, .int .i64 r10, .int .i64 r11, .int .i64 r12, .int .i64 r13, .int .i64 r14, .slice Ae ne ce] 29) = W at *
 clear hW
 have HH := Lib.hid H
 clear H
 go_wp2_with fail
 go_loopw [6] (fun i wr => ∃ k : Nat, k ≤ ne ∧ i = .int .i64 (k : Int) ∧ Below W.heap.size W wr ∧ ∀ j (hj : j < es.length), j < k → ¬ es[j].name = nm) (fun i _ => ne - (intOf i).toNat)
 case atStart => exact ⟨0, by omega, rfl, Below.refl _ _, fun j hj h => by omega⟩
 case round =>
  obtain ⟨k, hk, rfl, hb, hall⟩ := hrel
  have HA := Lib.hid hall
  have hsz := hb.size
  clear hall
  have hb0 := HB.trans (hb.mono HB.size)
  have GR := (hb.block w.heap.size HS).trans HH.out
  have d20 := blk_cell GR 20
  clear GR
  by_cases hlt : k < ne
  case pos =>
   have hltI : (k : Int) < (ne : Int) := by omega
   have hkl : k < es.length := by rw [HNE.out]; exact hlt
   obtain ⟨b, o, es1, hAe, hbw, hes, hat⟩ := ListC.get HE.out k hkl
   subst hAe
   obtain ⟨Ec, c2, Al, cl, rfl, _, _⟩ := hes.lit
   have k0 := (hat.fr (Fr.ofBelow hb0)).c (j := 0) rfl
   rw [Nat.add_zero] at k0
   obtain ⟨s, hs⟩ : ∃ s, es[k].name = s := ⟨_, rfl⟩
   rw [hs] at k0
   have HSN := Lib.hid hs
   clear hes hat hbw hs
   by_cases he : s = nm
   case pos =>
    have he' : (s.toList == nm.toList) = true := by rw [ba_beq, decide_eq_true he]
    have hf := Lib.hid (show r = ((k : Int), true) by rw [← HR.out]; exact findE_some hkl (HSN.out.trans he) HA.out)
    go_wp2_with fail
    go_ret2
    exact ⟨by rw [hf.out]; first | done | rfl, hb0⟩
   case neg =>
    have he' : (s.toList == nm.toList) = false := by rw [ba_beq, decide_eq_false he]
    have HNE2 := Lib.hid he
    go_wp2_with fail
    go_roundw
    case rel => exact ⟨k + 1, by omega, by go_num, hb, fun j hj hjk => by
     rcases Nat.lt_or_ge j k with h | h
     · exact HA.out j hj h
     · have : j = k := by omega
       subst this
       rw [HSN.out]
       exact HNE2.out⟩
    case measure => first | exact meas_v hlt | (simp only [intOf]; omega)
  case neg =>
   have hltI : ¬ (k : Int) < (ne : Int) := by omega
   have hf := Lib.hid (show r = (0, false) by rw [← HR.out]; exact findE_none (fun j hj => HA.out j hj (by have h := HNE.out; omega)))
   go_wp2_with fail
   go_ret2
   exact ⟨by rw [hf.out]; first | done | rfl, hb0⟩
set_option maxHeartbeats 2000000 in
theorem few_c (g : XGroup) (cs : List Value) (w : World) (hg : GroupC w (· < w.heap.size) cs g) (hsz : szG g) : Calls Tryz.prog 11 #[.agg cs.toArray] w (If (fewG g) w) := by
 obtain ⟨Ac, cc, Ae, ce, rfl, hch, hen, hcal, hro⟩ := hg.lit
 clear hg hro hcal
 have hbn := hch.cap.2
 have hbe := hen.cap.2
 clear hch
 obtain ⟨P, hP⟩ : ∃ P, fewG g = P := ⟨_, rfl⟩
 rw [hP]
 have HP := Lib.hid (show (g.chart.length ≤ 60 ∧ g.entities.length ≤ 14 ∧ g.currency.size ≤ 20 ∧ ∀ e ∈ g.entities, fewE e) → P from fun h => hP ▸ h)
 obtain ⟨cur, ⟨y, m, p⟩, ch, ⟨r0, r1, r2, r3, r4, r5, r6, r7, r8, r9, r10, r11, r12, r13, r14⟩, es⟩ := g
 obtain ⟨hsc, hse⟩ := hsz
 simp only at hen hbn hbe HP hsc hse ⊢
 have HSE := Lib.hid hse
 obtain ⟨n, hnl⟩ : ∃ n, ch.length = n := ⟨_, rfl⟩
 obtain ⟨ne, hne⟩ : ∃ ne, es.length = ne := ⟨_, rfl⟩
 have HE := Lib.hid hen
 have HNE := Lib.hid hne
 have HN := Lib.hid hnl
 rw [hnl, hne]
 rw [hne] at hbe
 rw [hnl] at hbn
 unfold maxLen at hbe hbn
 clear hen hnl hne hP hse
 show Calls Tryz.prog 11 #[.agg #[.string cur, .int .i64 y, .int .i64 m, .int .i64 p, .slice Ac n cc, .int .i64 r0, .int .i64 r1, .int .i64 r2, .int .i64 r3, .int .i64 r4, .int .i64 r5, .int .i64 r6, .int .i64 r7, .int .i64 r8, .int .i64 r9, .int .i64 r10, .int .i64 r11, .int .i64 r12, .int .i64 r13, .int .i64 r14, .slice Ae ne ce]] w (If P w)
 go_enter Tryz.func11, Tryz.ntmps11
 go_upto_region 1 with fail
 have H := heap_alloc_new w (.cells #[.string cur, .int .i64 y, .int .i64 m, .int .i64 p, .slice Ac n cc, .int .i64 r0, .int .i64 r1, .int .i64 r2, .int .i64 r3, .int .i64 r4, .int .i64 r5, .int .i64 r6, .int .i64 r7, .int .i64 r8, .int .i64 r9, .int .i64 r10, .int .i64 r11, .int .i64 r12, .int .i64 r13, .int .i64 r14, .slice Ae ne ce] 29)
 have HB := below1 w (.cells #[.string cur, .int .i64 y, .int .i64 m, .int .i64 p, .slice Ac n cc, .int .i64 r0, .int .i64 r1, .int .i64 r2, .int .i64 r3, .int .i64 r4, .int .i64 r5, .int .i64 r6, .int .i64 r7, .int .i64 r8, .int .i64 r9, .int .i64 r10, .int .i64 r11, .int .i64 r12, .int .i64 r13, .int .i64 r14, .slice Ae ne ce] 29)
 have HS := blk_lt H
 generalize hW : w.alloc (Obj.cells #[.string cur, .int .i64 y, .int .i64 m, .int .i64 p, .slice Ac n cc, .int .i64 r0, .int .i64 r1, .int .i64 r2, .int .i64 r3, .int .i64 r4, .int .i64 r5, .int .i64 r6, .int .i64 r7, .int .i64 r8, .int .i64 r9, .int .i64 r10, .int .i64 r11, .int .i64 r12, .int .i64 r13, .int .i64 r14, .slice Ae ne ce] 29) = W at *
 clear hW
 have HH := Lib.hid H
 clear H
 go_wp2_with fail
 go_loopw [3] (fun i wr => ∃ k : Nat, k ≤ ne ∧ i = .int .i64 (k : Int) ∧ Below W.heap.size W wr ∧ ∀ j (hj : j < es.length), j < k → fewE es[j]) (fun i _ => ne - (intOf i).toNat)
 case atStart => exact ⟨0, by omega, rfl, Below.refl _ _, fun j hj h => by omega⟩
 case round =>
  obtain ⟨k, hk, rfl, hb, hall⟩ := hrel
  have HA := Lib.hid hall
  have hszr := hb.size
  clear hall
  have hb0 := HB.trans (hb.mono HB.size)
  have GR := (hb.block w.heap.size HS).trans HH.out
  have d20 := blk_cell GR 20
  by_cases hlt : k < ne
  case pos =>
   have hltI : (k : Int) < (ne : Int) := by omega
   have hkl : k < es.length := by rw [HNE.out]; exact hlt
   obtain ⟨b, o, es1, hAe, hbw, hes, hat⟩ := ListC.get HE.out k hkl
   subst hAe
   obtain ⟨Ec, c2, Al, cl, rfl, _, _⟩ := hes.lit
   obtain ⟨x, hx⟩ : ∃ x, es[k] = x := ⟨_, rfl⟩
   have hsx := HSE.out _ (List.getElem_mem hkl)
   rw [hx] at hat hsx
   have HX := Lib.hid hx
   obtain ⟨s, cu, ec, ls, jo⟩ := x
   obtain ⟨hx1, hx2⟩ := hsx
   simp only at hx1 hx2
   have HAR0 := (hat.fr (Fr.ofBelow hb0)).range
   obtain ⟨n2, hn2⟩ : ∃ n, ec.length = n := ⟨_, rfl⟩
   obtain ⟨nl, hnl⟩ : ∃ n, ls.length = n := ⟨_, rfl⟩
   rw [hn2, hnl] at HAR0
   have HAR := Lib.hid HAR0
   have HN2 := Lib.hid hn2
   have HNL := Lib.hid hnl
   obtain ⟨z1, hz1⟩ : ∃ z, s.size = z := ⟨_, rfl⟩
   obtain ⟨z2, hz2⟩ : ∃ z, cu.size = z := ⟨_, rfl⟩
   clear hes hat hx HAR0 hn2 hnl hbw GR
   go_upto_region 5 with (show wpList _ _ _ (Oper.mk (some 16) _ _ _ _ _ :: _) _ _; refine wpList_load_mid rfl 92 (.tmp 15) rfl b (o + k * 5) rfl [.string s, .string cu, .slice Ec n2 c2, .slice Al nl cl, .bool jo] _ HAR.out Tryz.underlying92 rfl info_entity ?_)
   have H6 := heap_alloc_new wr (.cells #[.string s, .string cu, .slice Ec n2 c2, .slice Al nl cl, .bool jo] 92)
   have HB6 := below1 wr (.cells #[.string s, .string cu, .slice Ec n2 c2, .slice Al nl cl, .bool jo] 92)
   have HS6 := blk_lt H6
   generalize hW6 : wr.alloc (Obj.cells #[.string s, .string cu, .slice Ec n2 c2, .slice Al nl cl, .bool jo] 92) = W6 at *
   clear hW6
   have hb06 := hb0.trans (HB6.mono hb0.size)
   have f0 := blk_cell H6 0
   have f1 := blk_cell H6 1
   have f2 := blk_cell H6 2
   have f3 := blk_cell H6 3
   clear H6 d20
   by_cases h1 : 40 < n2
   case pos =>
    have h1I : 40 < (n2 : Int) := by omega
    go_wp2_with fail
    go_ret
    exact If.no hb06
   case neg =>
   have h1I : ¬ 40 < (n2 : Int) := by omega
   by_cases h2 : 60 < nl
   case pos =>
    have h2I : 60 < (nl : Int) := by omega
    go_wp2_with fail
    go_ret
    exact If.no hb06
   case neg =>
   have h2I : ¬ 60 < (nl : Int) := by omega
   by_cases h3 : 60 < s.size + cu.size
   case pos =>
    have h3I : 60 < (s.size : Int) + (cu.size : Int) := by omega
    go_wp2_with fail
    go_ret
    exact If.no hb06
   case neg =>
   have h3I : ¬ 60 < (s.size : Int) + (cu.size : Int) := by omega
   have HROW := Lib.hid (show fewE ⟨s, cu, ec, ls, jo⟩ from ⟨by have := HN2.out; simp only; omega, by have := HNL.out; simp only; omega, by simp only; omega, by simp only; omega⟩)
   go_wp2_with fail
   go_roundw
   case rel => exact ⟨k + 1, by omega, by go_num, hb.trans (HB6.mono hszr), fun j hj hjk => by
    rcases Nat.lt_or_ge j k with h | h
    · exact HA.out j hj h
    · have : j = k := by omega
      subst this
      rw [HX.out]
      exact HROW.out⟩
   case measure => first | exact meas_v hlt | (simp only [intOf]; omega)
  case neg =>
   have hltI : ¬ (k : Int) < (ne : Int) := by omega
   have d4 := blk_cell GR 4
   have d0 := blk_cell GR 0
   clear GR
   have HALL := Lib.hid (show ∀ e ∈ es, fewE e by
    intro e he
    obtain ⟨j, hj, rfl⟩ := List.getElem_of_mem he
    exact HA.out j hj (by have := HNE.out; omega))
   by_cases h1 : n ≤ 60
   case neg =>
    have h1I : ¬ (n : Int) ≤ 60 := by omega
    go_wp2_with fail
    go_ret
    exact If.no hb0
   case pos =>
   have h1I : (n : Int) ≤ 60 := by omega
   by_cases h2 : ne ≤ 14
   case neg =>
    have h2I : ¬ (ne : Int) ≤ 14 := by omega
    go_wp2_with fail
    go_ret
    exact If.no hb0
   case pos =>
   have h2I : (ne : Int) ≤ 14 := by omega
   by_cases h3 : cur.size ≤ 20
   case neg =>
    have h3I : ¬ (cur.size : Int) ≤ 20 := by omega
    go_wp2_with fail
    go_ret
    exact If.no hb0
   case pos =>
    have h3I : (cur.size : Int) ≤ 20 := by omega
    have HY := Lib.hid (show P from HP.out ⟨by have := HN.out; omega, by have := HNE.out; omega, h3, HALL.out⟩)
    go_wp2_with fail
    go_ret
    exact If.yes HY.out hb0
end Go.Proofs.YtekelchdbkjjjaaGreat
