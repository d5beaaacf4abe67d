/- group.Valid. Written by gen_b29.py. -/
import Derived.Test.YtnigokmjehemaaaProg
import Derived.Test.YtnigokmjehemaaaB28Entity
namespace Go.Proofs.Ytnigokmjehemaaa
open Go Go.RowKit
open Go.Maps (Keyed)
set_option linter.unusedVariables false
set_option linter.unusedSimpArgs false
set_option maxRecDepth 4000
attribute [local go_sem ↓] Go.wp_at_zero Go.wp_at_succ
/-- Sizes that the walks ask for. -/
def smallE (e : XEntity) : Prop := e.chart.length ≤ 1000 ∧ e.links.length ≤ 1000 ∧ e.name.size ≤ 1000 ∧ e.currency.size ≤ 1000
def smallG (g : XGroup) : Prop := g.chart.length ≤ 1000 ∧ g.entities.length ≤ 1000 ∧ g.currency.size ≤ 1000 ∧ ∀ e ∈ g.entities, smallE e
theorem entity_n {cur : ByteArray} {y m p : Int} {Ac Ae : Option Addr} {cc ce n ne : Nat} {ch : List XAccount} {es : List XEntity} {r0 r1 r2 r3 r4 r5 r6 r7 r8 r9 r10 r11 r12 r13 r14 : Int} (hN : ch.length = n) (hE : es.length = ne) {w : World} (hg : GroupC w (· < w.heap.size) (grpL cur y m p Ac ch.length cc r0 r1 r2 r3 r4 r5 r6 r7 r8 r9 r10 r11 r12 r13 r14 Ae es.length ce) ⟨cur, ⟨y, m, p⟩, ch, ⟨r0, r1, r2, r3, r4, r5, r6, r7, r8, r9, r10, r11, r12, r13, r14⟩, es⟩) (hn : ch.length ≤ 1000)
    {s cu : ByteArray} {ec : List XAccount} {ls : List XLink} {jo : Bool} {Ec Al : Option Addr} {c2 cl n2 nl : Nat} (h2 : ec.length = n2) (h3 : ls.length = nl) (hx : EntityC w (· < w.heap.size) (entL s cu Ec ec.length c2 Al ls.length cl jo) ⟨s, cu, ec, ls, jo⟩) (hs : smallE ⟨s, cu, ec, ls, jo⟩) :
    Calls Try.prog 121 #[.agg (grpL cur y m p Ac n cc r0 r1 r2 r3 r4 r5 r6 r7 r8 r9 r10 r11 r12 r13 r14 Ae ne ce).toArray, .agg (entL s cu Ec n2 c2 Al nl cl jo).toArray] w (Quiet w (.bool (entP ch (rolesOf ⟨r0, r1, r2, r3, r4, r5, r6, r7, r8, r9, r10, r11, r12, r13, r14⟩) ⟨s, cu, ec, ls, jo⟩))) := by
  subst hN hE h2 h3
  exact entity_c _ _ _ _ w hg hx hn hs.1 hs.2.1 hs.2.2.1 hs.2.2.2
theorem accounts_n {cur : ByteArray} {y m p : Int} {Ac Ae : Option Addr} {cc ce n ne : Nat} {ch : List XAccount} {es : List XEntity} {r0 r1 r2 r3 r4 r5 r6 r7 r8 r9 r10 r11 r12 r13 r14 : Int} (hN : ch.length = n) (hE : es.length = ne) {w : World} (hg : GroupC w (· < w.heap.size) (grpL cur y m p Ac ch.length cc r0 r1 r2 r3 r4 r5 r6 r7 r8 r9 r10 r11 r12 r13 r14 Ae es.length ce) ⟨cur, ⟨y, m, p⟩, ch, ⟨r0, r1, r2, r3, r4, r5, r6, r7, r8, r9, r10, r11, r12, r13, r14⟩, es⟩) (hn : ch.length ≤ 1000) : Calls Try.prog 120 #[.agg (grpL cur y m p Ac n cc r0 r1 r2 r3 r4 r5 r6 r7 r8 r9 r10 r11 r12 r13 r14 Ae ne ce).toArray] w (Quiet w (.bool (accountsB ch ⟨r0, r1, r2, r3, r4, r5, r6, r7, r8, r9, r10, r11, r12, r13, r14⟩))) := by
  subst hN hE
  exact accounts_c _ _ w hg hn
def entRowP (ch : List XAccount) (L : List XRole) (es : List XEntity) (i : Nat) : Bool := match es[i]? with
  | none => false
  | some e => !((es.take i).any fun x => decide (x.name = e.name)) && entP ch L e
def groupP (g : XGroup) : Bool := curB g.currency && calB g.calendar.year g.calendar.month g.calendar.periods && accountsB g.chart g.roles && decide (1 ≤ g.entities.length ∧ g.entities.length ≤ 12) && !(g.entities.getD 0 {}).joint && (List.range g.entities.length).all (entRowP g.chart (rolesOf g.roles) g.entities)
theorem entRowP_at {ch : List XAccount} {L : List XRole} {es : List XEntity} {i : Nat} {e : XEntity} (h : es[i]? = some e) : entRowP ch L es i = (!((es.take i).any fun x => decide (x.name = e.name)) && entP ch L e) := by unfold entRowP; rw [h]
theorem entP_eq {ch : List XAccount} {L : List XRole} (h : rolesB ch L = true) (e : XEntity) : entP ch L e = entityB ch L e := by
  unfold entP entityB
  have h1 : (e.links.all fun l => !closedB L l.to_) = !(e.links.any fun l => closedP L l.to_) := by
    rw [List.not_any_eq_all_not]
    congr 1
    funext l
    rw [closed_eq h]
  rw [h1, show mappingB e ch = mapB e.chart ch e.links from rfl, Bool.and_assoc, Bool.and_assoc]
theorem groupP_eq (g : XGroup) : groupP g = groupB g := by
  unfold groupP groupB
  cases ha : accountsB g.chart g.roles with
  | false => simp
  | true =>
    have hr : rolesB g.chart (rolesOf g.roles) = true := by
      unfold accountsB at ha
      simp only [Bool.and_eq_true] at ha
      exact ha.2
    congr 1
    unfold entsB
    congr 1
    funext i
    unfold entRowP entRow
    cases g.entities[i]? with
    | none => rfl
    | some e => simp only [entP_eq hr]
/-- Keys that are texts. -/
def sKey (s : ByteArray) : Lit := .string s.data.toList
theorem sKey_inj (x y : ByteArray) (h : sKey x = sKey y) : x = y := by
  unfold sKey at h
  injection h with h
  exact ByteArray.ext (Array.ext' h)
theorem sKey_lit (x : ByteArray) : WideAt.IsKeyLit (sKey x) := by unfold sKey; trivial
theorem str_uty : Try.prog.underlying 9 = some .string := by kernel_rfl
theorem smap_uty : Try.prog.underlying 171 = some (.map 9 4) := by kernel_rfl
theorem str_keyed : Keyed Try.prog 9 := Maps.string_keyed str_uty
theorem sKey_of {s : ByteArray} (h : s.size ≤ 1000) : keyOf Try.prog 9 (.string s) = some (sKey s) := Go.WideMaps.keyOf_string_mk str_uty (by unfold maxLen; omega)
abbrev SetS (w : World) (b n : Nat) (f : ByteArray → Bool) : Prop := SetK Try.prog 9 4 sKey w b n f
theorem names_succ {es : List XEntity} {k : Nat} {e : XEntity} (hk : es[k]? = some e) {F : ByteArray → Bool} (hF : (fun d => (es.take k).any fun x => decide (x.name = d)) = F) (d : ByteArray) : (if d = e.name then true else F d) = (es.take (k + 1)).any fun x => decide (x.name = d) := by
  obtain ⟨hl, rfl⟩ := List.getElem?_eq_some_iff.1 hk
  rw [take_any_succ hl, ← hF]
  by_cases h : d = es[k].name
  · rw [if_pos h, h]; simp
  · rw [if_neg h, decide_eq_false (fun e : es[k].name = d => h e.symm), Bool.or_false]
theorem group_cur {g : XGroup} (h : curB g.currency = false) : groupP g = false := by unfold groupP; rw [h]; simp
theorem group_cal {g : XGroup} (h : calB g.calendar.year g.calendar.month g.calendar.periods = false) : groupP g = false := by unfold groupP; rw [h]; simp
theorem group_acc {g : XGroup} (h : accountsB g.chart g.roles = false) : groupP g = false := by unfold groupP; rw [h]; simp
theorem group_len {g : XGroup} (h : ¬ (1 ≤ g.entities.length ∧ g.entities.length ≤ 12)) : groupP g = false := by unfold groupP; rw [decide_eq_false h]; simp
theorem group_joint {g : XGroup} {e : XEntity} (h : g.entities[0]? = some e) (hj : e.joint = true) : groupP g = false := by unfold groupP; rw [List.getD_eq_getElem?_getD, h, Option.getD_some, hj]; simp
theorem group_row {g : XGroup} {k : Nat} (hk : k < g.entities.length) (h : entRowP g.chart (rolesOf g.roles) g.entities k = false) : groupP g = false := by unfold groupP; rw [all_range_false hk h]; simp
theorem group_all {g : XGroup} {e : XEntity} (h1 : curB g.currency = true) (h2 : calB g.calendar.year g.calendar.month g.calendar.periods = true) (h3 : accountsB g.chart g.roles = true) (h4 : 1 ≤ g.entities.length ∧ g.entities.length ≤ 12) (h5 : g.entities[0]? = some e) (hj : e.joint = false) (h : ∀ k, k < g.entities.length → entRowP g.chart (rolesOf g.roles) g.entities k = true) : groupP g = true := by
  unfold groupP
  rw [h1, h2, h3, decide_eq_true h4, List.getD_eq_getElem?_getD, h5, Option.getD_some, hj, all_range_true h]; rfl
set_option maxHeartbeats 4000000 in
theorem group_c (g : XGroup) (cs : List Value) (w : World) (hg : GroupC w (· < w.heap.size) cs g) (hsm : smallG g) : Calls Try.prog 70 #[.agg cs.toArray] w (Quiet w (.bool (groupP g))) := by
  have hmm := @run_makeMap Try.prog
  obtain ⟨r, hr⟩ : ∃ r, groupP g = r := ⟨_, rfl⟩
  rw [hr]
  have HR := Lib.hid hr
  have HGC := Lib.hid hg
  obtain ⟨hn, hne1, hcs, hse⟩ := hsm
  clear hr
  obtain ⟨Ac, cc, Ae, ce, rfl, hch, hen, hcal, hro⟩ := hg.lit
  clear hg
  obtain ⟨cur, ⟨y, m, p⟩, ch, ⟨r0, r1, r2, r3, r4, r5, r6, r7, r8, r9, r10, r11, r12, r13, r14⟩, es⟩ := g
  simp only at hcs hne1 hse HR hch hen hro hcal hn ⊢
  have HSE := Lib.hid hse
  have HNN := Lib.hid hn
  obtain ⟨L, hL⟩ : ∃ L, rolesL r0 r1 r2 r3 r4 r5 r6 r7 r8 r9 r10 r11 r12 r13 r14 = L := ⟨_, rfl⟩
  have hLl : L.length = 15 := by rw [← hL]; rfl
  have HLQ := Lib.hid hL
  have HLL := Lib.hid hLl
  obtain ⟨n, hnl⟩ : ∃ n, ch.length = n := ⟨_, rfl⟩
  obtain ⟨ne, hne⟩ : ∃ ne, es.length = ne := ⟨_, rfl⟩
  have HL := Lib.hid hch
  have HN := Lib.hid hnl
  have HE := Lib.hid hen
  have HNE := Lib.hid hne
  rw [hnl, hne]
  rw [hnl] at hn
  clear hL hLl hch hen hnl hne hcal
  clear hro hse
  show Calls Try.prog 70 #[.agg #[.string cur, .int .i64 y, .int .i64 m, .int .i64 p, .slice Ac n cc, .int .i64 r0, .int .i64 r1, .int .i64 r2, .int .i64 r3, .int .i64 r4, .int .i64 r5, .int .i64 r6, .int .i64 r7, .int .i64 r8, .int .i64 r9, .int .i64 r10, .int .i64 r11, .int .i64 r12, .int .i64 r13, .int .i64 r14, .slice Ae ne ce]] w (Quiet w (.bool r))
  go_enter Try.func70, Try.ntmps70
  go_upto_region 1 with fail
  have H := heap_alloc_new w (.cells #[.string cur, .int .i64 y, .int .i64 m, .int .i64 p, .slice Ac n cc, .int .i64 r0, .int .i64 r1, .int .i64 r2, .int .i64 r3, .int .i64 r4, .int .i64 r5, .int .i64 r6, .int .i64 r7, .int .i64 r8, .int .i64 r9, .int .i64 r10, .int .i64 r11, .int .i64 r12, .int .i64 r13, .int .i64 r14, .slice Ae ne ce] 29)
  have HB := below1 w (.cells #[.string cur, .int .i64 y, .int .i64 m, .int .i64 p, .slice Ac n cc, .int .i64 r0, .int .i64 r1, .int .i64 r2, .int .i64 r3, .int .i64 r4, .int .i64 r5, .int .i64 r6, .int .i64 r7, .int .i64 r8, .int .i64 r9, .int .i64 r10, .int .i64 r11, .int .i64 r12, .int .i64 r13, .int .i64 r14, .slice Ae ne ce] 29)
  have HS : w.heap.size < (w.alloc (.cells #[.string cur, .int .i64 y, .int .i64 m, .int .i64 p, .slice Ac n cc, .int .i64 r0, .int .i64 r1, .int .i64 r2, .int .i64 r3, .int .i64 r4, .int .i64 r5, .int .i64 r6, .int .i64 r7, .int .i64 r8, .int .i64 r9, .int .i64 r10, .int .i64 r11, .int .i64 r12, .int .i64 r13, .int .i64 r14, .slice Ae ne ce] 29)).heap.size := blk_lt H
  generalize hW : w.alloc (Obj.cells #[.string cur, .int .i64 y, .int .i64 m, .int .i64 p, .slice Ac n cc, .int .i64 r0, .int .i64 r1, .int .i64 r2, .int .i64 r3, .int .i64 r4, .int .i64 r5, .int .i64 r6, .int .i64 r7, .int .i64 r8, .int .i64 r9, .int .i64 r10, .int .i64 r11, .int .i64 r12, .int .i64 r13, .int .i64 r14, .slice Ae ne ce] 29) = W at *
  clear hW
  have f0 := blk_cell H 0
  have HH := Lib.hid H
  clear H
  go_wp2_with fail
  refine (currency_c cur W hcs).mono ?_
  rintro e w2 ⟨rfl, hb2⟩
  have hb02 := HB.trans (hb2.mono HB.size)
  have hs2 := hb2.size
  cases hc1 : curB cur with
  | false =>
    have hf := Lib.hid (show r = false by rw [← HR.out]; exact group_cur hc1)
    go_wp2_with fail
    go_ret
    exact ⟨by rw [hf.out]; first | done | rfl, hb02⟩
  | true =>
  have HC1 := Lib.hid hc1
  have G2 := (hb2.block _ HS).trans HH.out
  have f1 := blk_cell G2 1
  have f2 := blk_cell G2 2
  have f3 := blk_cell G2 3
  clear hc1 f0
  go_wp2_with fail
  refine (calValid_c y m p w2).mono ?_
  rintro e w3 ⟨rfl, hb3⟩
  have hb03 := hb02.trans (hb3.mono hb02.size)
  have hs3 := hb3.size
  cases hc2 : calB y m p with
  | false =>
    have hf := Lib.hid (show r = false by rw [← HR.out]; exact group_cal hc2)
    go_wp2_with fail
    go_ret
    exact ⟨by rw [hf.out]; first | done | rfl, hb03⟩
  | true =>
  have HC2 := Lib.hid hc2
  have HG3 := Lib.hid ((hb3.block _ (by omega)).trans G2)
  have HCA := Lib.hid (accounts_n HN.out HNE.out (GroupC.keep HGC.out hb03) HNN.out)
  clear hc2 f1 f2 f3 G2
  go_wp2_with (show wpList _ _ _ (Oper.mk (some 17) _ _ _ _ _ :: _) _ _; refine wpList_load_row_g rfl 29 (.tmp 1) rfl w.heap.size rfl _ _ _ _ HG3.out Try.underlying29 rfl info_group ?_)
  refine HCA.out.mono ?_
  rintro e w4 ⟨rfl, hb4⟩
  have hb04 := hb03.trans (hb4.mono hb03.size)
  have hs4 := hb4.size
  cases hc3 : accountsB ch ⟨r0, r1, r2, r3, r4, r5, r6, r7, r8, r9, r10, r11, r12, r13, r14⟩ with
  | false =>
    have hf := Lib.hid (show r = false by rw [← HR.out]; exact group_acc hc3)
    go_wp2_with fail
    go_ret
    exact ⟨by rw [hf.out]; first | done | rfl, hb04⟩
  | true =>
  have HC3 := Lib.hid hc3
  have G4 := (hb4.block _ (by omega)).trans HG3.out
  have f20 := blk_cell G4 20
  clear hc3
  by_cases h1 : ne < 1
  case pos =>
    have h1I : (ne : Int) < 1 := by omega
    have hf := Lib.hid (show r = false by rw [← HR.out]; exact group_len (fun h => by have := h.1; have := HNE.out; simp only at *; omega))
    go_wp2_with fail
    go_ret
    exact ⟨by rw [hf.out]; first | done | rfl, hb04⟩
  case neg =>
  have h1I : ¬ (ne : Int) < 1 := by omega
  by_cases h2 : 12 < ne
  case pos =>
    have h2I : 12 < (ne : Int) := by omega
    have hf := Lib.hid (show r = false by rw [← HR.out]; exact group_len (fun h => by have := h.2; have := HNE.out; simp only at *; omega))
    go_wp2_with fail
    go_ret
    exact ⟨by rw [hf.out]; first | done | rfl, hb04⟩
  case neg =>
  have h2I : ¬ 12 < (ne : Int) := by omega
  have h3I : (0 : Int) < (ne : Int) := by omega
  have hl0 : 0 < es.length := by rw [HNE.out]; omega
  obtain ⟨b, o, hAe, hbw, hel⟩ := ListC.base HE.out (by omega)
  subst hAe
  obtain ⟨es0, hes0, hat0⟩ := hel 0 hl0
  have HEL := Lib.hid hel
  obtain ⟨Ec, c2, Al, cl, rfl, _, _⟩ := hes0.lit
  obtain ⟨x0, hx0⟩ : ∃ x0, es[0] = x0 := ⟨_, rfl⟩
  rw [hx0] at hat0
  have HX0 := Lib.hid (show es[0]? = some x0 by rw [List.getElem?_eq_getElem hl0, hx0])
  have j0 := (hat0.fr (Fr.ofBelow hb04)).c (j := 4) rfl
  obtain ⟨J, hJ⟩ : ∃ J, x0.joint = J := ⟨_, rfl⟩
  rw [hJ, Nat.zero_mul, Nat.add_zero] at j0
  have HJ := Lib.hid hJ
  clear hes0 hat0 hel hx0 hJ
  cases J with
  | true =>
    have hf := Lib.hid (show r = false by rw [← HR.out]; exact group_joint HX0.out HJ.out)
    go_wp2_with fail
    go_ret
    exact ⟨by rw [hf.out]; first | done | rfl, hb04⟩
  | false =>
  have HG4 := Lib.hid G4
  clear G4
  go_upto_region 4 with fail
  have hs0 := SetK.made Try.prog 9 4 sKey w4
  have HB5 := below1 w4 (.map #[] 0)
  have HS5 : w4.heap.size + 1 = (w4.alloc (.map #[] 0)).heap.size := by simp
  have G5 := alloc_keep HG4.out (.map #[] 0)
  generalize hW5 : w4.alloc (Obj.map #[] 0) = W5 at *
  clear hW5 f20 j0
  have f20 := blk_cell G5 20
  have HG5 := Lib.hid G5
  have hb05 := hb04.trans (HB5.mono hb04.size)
  clear G5
  go_wp2_with fail
  go_loopw [44] (fun i wr => ∃ k : Nat, k ≤ ne ∧ i = .int .i64 (k : Int) ∧ Fr (QX W5.heap.size w4.heap.size) W5 wr ∧ SetS wr w4.heap.size k (fun d => (es.take k).any fun x => decide (x.name = d)) ∧ ∀ j, j < k → entRowP ch (rolesOf ⟨r0, r1, r2, r3, r4, r5, r6, r7, r8, r9, r10, r11, r12, r13, r14⟩) es j = true) (fun i _ => ne - (intOf i).toNat)
  case atStart => exact ⟨0, by omega, rfl, Fr.refl _ _, hs0.eqv (fun _ => rfl), fun j hj => by omega⟩
  case round =>
    obtain ⟨k, hk, rfl, hfr, hset, hall⟩ := hrel
    have HA := Lib.hid hall
    have HF := Lib.hid hfr
    have hsz := hfr.size
    clear hall hfr
    have hb0 : Below w.heap.size w wr := ((Fr.ofBelow hb05).trans (HF.out.mono (fun k (hk : k < w.heap.size) => ⟨by omega, by omega⟩))).below
    have hs0' := hb0.size
    by_cases hlt : k < ne
    case pos =>
      have hltI : (k : Int) < (ne : Int) := by omega
      have hkl : k < es.length := by rw [HNE.out]; exact hlt
      obtain ⟨es1, hes, hat⟩ := HEL.out k hkl
      obtain ⟨Ec, c2, Al, cl, rfl, _, _⟩ := hes.lit
      obtain ⟨x, hx⟩ : ∃ x, es[k] = x := ⟨_, rfl⟩
      have hsx := HSE.out _ (List.getElem_mem hkl)
      rw [hx] at hes hat hsx
      have HX := Lib.hid (show es[k]? = some x by rw [List.getElem?_eq_getElem hkl, hx])
      obtain ⟨s, cu, ec, ls, jo⟩ := x
      simp only at hes hat
      have HKEY := Lib.hid (sKey_of (s := s) hsx.2.2.1)
      have hE := fun (w2 : World) (hb : Below w.heap.size w w2) => fun {n2 nl : Nat} (h2 : ec.length = n2) (h3 : ls.length = nl) => entity_n HN.out HNE.out (GroupC.keep HGC.out hb) HNN.out h2 h3 (EntityC.keep hes hb) hsx
      have HAR0 := (hat.fr (Fr.ofBelow hb0)).range
      obtain ⟨n2, hn2⟩ : ∃ n, ec.length = n := ⟨_, rfl⟩
      obtain ⟨nl, hnl⟩ : ∃ n, ls.length = n := ⟨_, rfl⟩
      rw [hn2, hnl] at HAR0
      have HAR := Lib.hid HAR0
      have HEN := Lib.hid (fun (w2 : World) (hb : Below w.heap.size w w2) => hE w2 hb hn2 hnl)
      have E6 := (HF.out.block w.heap.size ⟨by omega, by omega⟩).trans HG5.out
      obtain ⟨F, hF⟩ : ∃ F : ByteArray → Bool, (fun d => (es.take k).any fun x => decide (x.name = d)) = F := ⟨_, rfl⟩
      rw [hF] at hset
      have HF2 := Lib.hid hF
      clear hes hat hx hE HAR0 hF hsx hn2 hnl
      go_upto_region 7 with (show wpList _ _ _ (Oper.mk (some 47) _ _ _ _ _ :: _) _ _; refine wpList_load_mid rfl 113 (.tmp 46) rfl b (o + k * 5) rfl [.string s, .string cu, .slice Ec n2 c2, .slice Al nl cl, .bool jo] _ HAR.out Try.underlying113 rfl info_entity ?_)
      have H6 := heap_alloc_new wr (.cells #[.string s, .string cu, .slice Ec n2 c2, .slice Al nl cl, .bool jo] 113)
      have HB6 := below1 wr (.cells #[.string s, .string cu, .slice Ec n2 c2, .slice Al nl cl, .bool jo] 113)
      have HS6 : wr.heap.size < (wr.alloc (.cells #[.string s, .string cu, .slice Ec n2 c2, .slice Al nl cl, .bool jo] 113)).heap.size := blk_lt H6
      replace E6 := alloc_keep E6 (Obj.cells #[.string s, .string cu, .slice Ec n2 c2, .slice Al nl cl, .bool jo] 113)
      generalize hW6 : wr.alloc (Obj.cells #[.string s, .string cu, .slice Ec n2 c2, .slice Al nl cl, .bool jo] 113) = W6 at *
      clear hW6
      have hset6 := hset.below HB6
      have hs6 := HB6.size
      have hb06 := hb0.trans (HB6.mono hb0.size)
      have k0 := blk_cell H6 0
      have HE6 := Lib.hid E6
      have HX6 := Lib.hid H6
      clear hset H6 E6
      cases hcont : F s with
      | true =>
        have hf := Lib.hid (show r = false by rw [← HR.out]; exact group_row hkl (by rw [entRowP_at HX.out, show ((es.take k).any fun x => decide (x.name = s)) = true from (congrFun HF2.out s).trans hcont]; rfl))
        go_wp2_with (at_lookup; refine wpList_look_set rfl _ _ 171 rfl 9 4 str_keyed smap_uty bool_uty (bool_zero _) w4.heap.size k F rfl hset6 (.string s) s rfl HKEY.out ?_)
        go_ret
        exact ⟨by rw [hf.out]; first | done | rfl, hb06⟩
      | false =>
        have hcall := HEN.out W6 hb06
        obtain ⟨v, hv⟩ : ∃ v, entP ch (rolesOf ⟨r0, r1, r2, r3, r4, r5, r6, r7, r8, r9, r10, r11, r12, r13, r14⟩) ⟨s, cu, ec, ls, jo⟩ = v := ⟨_, rfl⟩
        rw [hv] at hcall
        have HROW := Lib.hid (show entRowP ch (rolesOf ⟨r0, r1, r2, r3, r4, r5, r6, r7, r8, r9, r10, r11, r12, r13, r14⟩) es k = v by rw [entRowP_at HX.out, hv, show ((es.take k).any fun x => decide (x.name = s)) = false from (congrFun HF2.out s).trans hcont]; rfl)
        have HCALL := Lib.hid hcall
        clear hv hcall
        go_wp2_with (first | (at_lookup; refine wpList_look_set rfl _ _ 171 rfl 9 4 str_keyed smap_uty bool_uty (bool_zero _) w4.heap.size k F rfl hset6 (.string s) s rfl HKEY.out ?_) | (show wpList _ _ _ (Oper.mk (some 53) _ _ _ _ _ :: _) _ _; refine wpList_load_row_g rfl 29 (.tmp 1) rfl w.heap.size rfl _ _ _ _ HE6.out Try.underlying29 rfl info_group ?_) | (show wpList _ _ _ (Oper.mk (some 54) _ _ _ _ _ :: _) _ _; refine wpList_load_row_g rfl 113 (.tmp 5) rfl wr.heap.size rfl _ _ _ _ HX6.out Try.underlying113 rfl info_entity ?_))
        refine HCALL.out.mono ?_
        rintro e wA ⟨rfl, hbA⟩
        have hsetA := hset6.below hbA
        have hsA := hbA.size
        have hb0A := hb06.trans (hbA.mono hb06.size)
        cases v with
        | false =>
          have hf := Lib.hid (show r = false by rw [← HR.out]; exact group_row hkl HROW.out)
          go_wp2_with fail
          go_ret
          exact ⟨by rw [hf.out]; first | done | rfl, hb0A⟩
        | true =>
          have KA := (hbA.block _ HS6).trans HX6.out
          have k0 := blk_cell KA 0
          clear KA
          go_wp2_with (at_mapUpdate; refine wpList_store_set rfl _ _ _ 171 rfl 9 4 str_keyed smap_uty bool_uty w4.heap.size k F rfl hsetA (by simp only [maxLen]; omega) sKey_inj sKey_lit (.string s) s rfl true rfl HKEY.out ?_; intro wB hsetB hgB; replace hsetB := Lib.hid hsetB)
          go_roundw
          case rel =>
            refine ⟨k + 1, by omega, by go_num, ?_, ?_, ?_⟩
            · exact (HF.out.trans ((Fr.ofBelow (HB6.trans (hbA.mono HB6.size))).mono (fun k hk => by have := hk.1; omega))).grown hgB (fun k hk => hk.1) (fun j hj => by injection hj with hj; exact fun h => h.2 hj.symm)
            · exact hsetB.out.eqv (fun d => names_succ HX.out HF2.out d)
            · intro j hj
              rcases Nat.lt_or_ge j k with h | h
              · exact HA.out j h
              · have : j = k := by omega
                subst this
                exact HROW.out
          case measure => first | exact meas_v hlt | (simp only [intOf]; omega)
    case neg =>
      have hltI : ¬ (k : Int) < (ne : Int) := by omega
      have hf := Lib.hid (show r = true by
        rw [← HR.out]
        exact group_all HC1.out HC2.out HC3.out ⟨by have := HNE.out; simp only; omega, by have := HNE.out; simp only; omega⟩ HX0.out HJ.out (fun j hj => HA.out j (by have := HNE.out; simp only at hj; omega)))
      go_wp2_with fail
      go_ret
      exact ⟨by rw [hf.out]; first | done | rfl, hb0⟩
end Go.Proofs.Ytnigokmjehemaaa
