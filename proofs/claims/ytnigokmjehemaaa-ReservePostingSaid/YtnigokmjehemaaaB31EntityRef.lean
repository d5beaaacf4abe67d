/- The reference's entity. Written by gen_b31.py. -/
import Derived.Test.YtnigokmjehemaaaProg
import Derived.Test.YtnigokmjehemaaaB30MapRef
namespace Go.Proofs.Ytnigokmjehemaaa
open Go Go.RowKit
set_option linter.unusedVariables false
set_option linter.unusedSimpArgs false
set_option maxRecDepth 4000
attribute [local go_sem ↓] Go.wp_at_zero Go.wp_at_succ
theorem rmapValid_n {e : XEntity} {ch : List XAccount} {Ac Al Ah : Option Addr} {n m nl cc cl hc : Nat} {w : World} (hN : e.chart.length = n) (hM : ch.length = m) (hNL : e.links.length = nl) (hec : ListC AccountC 4 w (· < w.heap.size) [.slice Ac e.chart.length cc] e.chart) (hls : ListC LinkC 3 w (· < w.heap.size) [.slice Al e.links.length cl] e.links) (hch : ListC AccountC 4 w (· < w.heap.size) [.slice Ah ch.length hc] ch) (hn : e.chart.length ≤ 1000) (hm : ch.length ≤ 1000) (hnl : e.links.length ≤ 1000) (w2 : World) (hb : Below w.heap.size w w2) :
    Calls Try.prog 131 #[.agg (entL e.name e.currency Ac n cc Al nl cl e.joint).toArray, .slice Ah m hc] w2 (Quiet w2 (.bool (mapB e.chart ch e.links))) :=
  rmapValid_c e.name e.currency Ac Al Ah n m nl cc cl hc e.joint e.chart ch e.links w2 hN hM hNL (chart_keep hec hb) (links_keep hls hb) (chart_keep hch hb) hn hm hnl
theorem ent_name {ch : List XAccount} {L : List XRole} {e : XEntity} (h : nameB e.name = false) : entityB ch L e = false := by unfold entityB; rw [h]; simp
theorem ent_cur {ch : List XAccount} {L : List XRole} {e : XEntity} (h : curB e.currency = false) : entityB ch L e = false := by unfold entityB; rw [h]; simp
theorem ent_map {ch : List XAccount} {L : List XRole} {e : XEntity} (h : mapB e.chart ch e.links = false) : entityB ch L e = false := by unfold entityB; rw [show mappingB e ch = mapB e.chart ch e.links from rfl, h]; simp
theorem ent_link {ch : List XAccount} {L : List XRole} {e : XEntity} {k : Nat} {l : XLink} (hk : e.links[k]? = some l) (h : closedB L l.to_ = true) : entityB ch L e = false := by
  unfold entityB
  obtain ⟨hl, rfl⟩ := List.getElem?_eq_some_iff.1 hk
  rw [List.all_eq_false.2 ⟨e.links[k], List.getElem_mem hl, by rw [h]; decide⟩, Bool.and_false]
theorem ent_all {ch : List XAccount} {L : List XRole} {e : XEntity} (h1 : nameB e.name = true) (h2 : curB e.currency = true) (h3 : mapB e.chart ch e.links = true) (h : ∀ k (hk : k < e.links.length), closedB L e.links[k].to_ = false) : entityB ch L e = true := by
  unfold entityB
  rw [h1, h2, show mappingB e ch = mapB e.chart ch e.links from rfl, h3, List.all_eq_true.2 (fun x hx => by
    obtain ⟨k, hk, rfl⟩ := List.getElem_of_mem hx
    rw [h k hk]; rfl)]
  rfl
theorem closed_at {L : List XRole} {c : Int} {j : Nat} (hj : j < L.length) (h1 : L[j].code = c) (h2 : L[j].mapped = false) : closedB L c = true := by
  unfold closedB
  rw [List.any_eq_true]
  exact ⟨L[j], List.getElem_mem hj, by simp [h1, h2]⟩
theorem closed_no {L : List XRole} {c : Int} (h : ∀ j (hj : j < L.length), ¬ (L[j].code = c ∧ L[j].mapped = false)) : closedB L c = false := by
  unfold closedB
  rw [List.any_eq_false]
  intro x hx
  obtain ⟨j, hj, rfl⟩ := List.getElem_of_mem hx
  have := h j hj
  simp only [Bool.and_eq_true, beq_iff_eq, Bool.not_eq_true']
  exact this
set_option maxHeartbeats 4000000 in
theorem rentity_c (g : XGroup) (cs : List Value) (x : XEntity) (xs : List Value) (w : World) (hg : GroupC w (· < w.heap.size) cs g) (hx : EntityC w (· < w.heap.size) xs x) (hn : g.chart.length ≤ 1000) (hn2 : x.chart.length ≤ 1000) (hnl : x.links.length ≤ 1000) (hs1 : x.name.size ≤ 1000) (hs2 : x.currency.size ≤ 1000) : Calls Try.prog 77 #[.agg cs.toArray, .agg xs.toArray] w (Quiet w (.bool (entityB g.chart (rolesOf g.roles) x))) := by
  obtain ⟨r, hr⟩ : ∃ r, entityB g.chart (rolesOf g.roles) x = r := ⟨_, rfl⟩
  rw [hr]
  have HR := Lib.hid hr
  clear hr
  obtain ⟨Ac, cc, Ae, ce, rfl, hch, hen, hcal, hro⟩ := hg.lit
  clear hg
  obtain ⟨cur, ⟨y, m, p⟩, ch, ⟨r0, r1, r2, r3, r4, r5, r6, r7, r8, r9, r10, r11, r12, r13, r14⟩, es⟩ := g
  simp only at hch hen hro hcal hn ⊢
  obtain ⟨Ec, c2, Al, cl, rfl, hec, hel⟩ := hx.lit
  clear hx
  obtain ⟨L, hL⟩ : ∃ L, rolesL r0 r1 r2 r3 r4 r5 r6 r7 r8 r9 r10 r11 r12 r13 r14 = L := ⟨_, rfl⟩
  have hLl : L.length = 15 := by rw [← hL]; rfl
  have HLQ := Lib.hid hL
  have HLL := Lib.hid hLl
  obtain ⟨n, hnn⟩ : ∃ n, ch.length = n := ⟨_, rfl⟩
  obtain ⟨ne, hne⟩ : ∃ ne, es.length = ne := ⟨_, rfl⟩
  have HL := Lib.hid hch
  have HN := Lib.hid hnn
  have HE := Lib.hid hen
  have HNE := Lib.hid hne
  rw [hnn, hne]
  rw [hnn] at hn
  clear hL hLl hch hen hnn hne hcal
  clear hro
  rw [show rolesOf ⟨r0, r1, r2, r3, r4, r5, r6, r7, r8, r9, r10, r11, r12, r13, r14⟩ = L from HLQ.out] at HR
  obtain ⟨n2, hn2e⟩ : ∃ n, x.chart.length = n := ⟨_, rfl⟩
  obtain ⟨nl, hnle⟩ : ∃ n, x.links.length = n := ⟨_, rfl⟩
  have HMV := Lib.hid (rmapValid_n hn2e HN.out hnle hec hel HL.out hn2 (by rw [HN.out]; exact hn) hnl)
  have HLK := Lib.hid hel
  have HNL := Lib.hid hnle
  rw [hn2e, hnle]
  obtain ⟨s, cu, ec, ls, jo⟩ := x
  simp only at HR HMV HLK HNL hs1 hs2 hnl ⊢
  have hnlb : nl ≤ 1000 := by rw [← HNL.out]; exact hnl
  clear hec hel hn2e hnle hn2 hnl
  show Calls Try.prog 77 #[.agg #[.string cur, .int .i64 y, .int .i64 m, .int .i64 p, .slice Ac n cc, .int .i64 r0, .int .i64 r1, .int .i64 r2, .int .i64 r3, .int .i64 r4, .int .i64 r5, .int .i64 r6, .int .i64 r7, .int .i64 r8, .int .i64 r9, .int .i64 r10, .int .i64 r11, .int .i64 r12, .int .i64 r13, .int .i64 r14, .slice Ae ne ce], .agg #[.string s, .string cu, .slice Ec n2 c2, .slice Al nl cl, .bool jo]] w (Quiet w (.bool r))
  go_enter Try.func77, Try.ntmps77
  go_upto_region 1 with fail
  have H := heap_alloc_new w (.cells #[.string cur, .int .i64 y, .int .i64 m, .int .i64 p, .slice Ac n cc, .int .i64 r0, .int .i64 r1, .int .i64 r2, .int .i64 r3, .int .i64 r4, .int .i64 r5, .int .i64 r6, .int .i64 r7, .int .i64 r8, .int .i64 r9, .int .i64 r10, .int .i64 r11, .int .i64 r12, .int .i64 r13, .int .i64 r14, .slice Ae ne ce] 29)
  have HB := below1 w (.cells #[.string cur, .int .i64 y, .int .i64 m, .int .i64 p, .slice Ac n cc, .int .i64 r0, .int .i64 r1, .int .i64 r2, .int .i64 r3, .int .i64 r4, .int .i64 r5, .int .i64 r6, .int .i64 r7, .int .i64 r8, .int .i64 r9, .int .i64 r10, .int .i64 r11, .int .i64 r12, .int .i64 r13, .int .i64 r14, .slice Ae ne ce] 29)
  have HS : w.heap.size < (w.alloc (.cells #[.string cur, .int .i64 y, .int .i64 m, .int .i64 p, .slice Ac n cc, .int .i64 r0, .int .i64 r1, .int .i64 r2, .int .i64 r3, .int .i64 r4, .int .i64 r5, .int .i64 r6, .int .i64 r7, .int .i64 r8, .int .i64 r9, .int .i64 r10, .int .i64 r11, .int .i64 r12, .int .i64 r13, .int .i64 r14, .slice Ae ne ce] 29)).heap.size := blk_lt H
  generalize hW : w.alloc (Obj.cells #[.string cur, .int .i64 y, .int .i64 m, .int .i64 p, .slice Ac n cc, .int .i64 r0, .int .i64 r1, .int .i64 r2, .int .i64 r3, .int .i64 r4, .int .i64 r5, .int .i64 r6, .int .i64 r7, .int .i64 r8, .int .i64 r9, .int .i64 r10, .int .i64 r11, .int .i64 r12, .int .i64 r13, .int .i64 r14, .slice Ae ne ce] 29) = W at *
  have H2 := heap_alloc_new W (.cells #[.string s, .string cu, .slice Ec n2 c2, .slice Al nl cl, .bool jo] 113)
  have HB2 := below1 W (.cells #[.string s, .string cu, .slice Ec n2 c2, .slice Al nl cl, .bool jo] 113)
  have HS2 : W.heap.size < (W.alloc (.cells #[.string s, .string cu, .slice Ec n2 c2, .slice Al nl cl, .bool jo] 113)).heap.size := blk_lt H2
  replace H := alloc_keep H (Obj.cells #[.string s, .string cu, .slice Ec n2 c2, .slice Al nl cl, .bool jo] 113)
  generalize hW2 : W.alloc (Obj.cells #[.string s, .string cu, .slice Ec n2 c2, .slice Al nl cl, .bool jo] 113) = W2 at *
  clear hW2
  have eW : W.heap.size = w.heap.size + 1 := by rw [← hW]; simp
  rw [eW] at H2
  clear hW
  have hb2 := HB.trans (HB2.mono HB.size)
  have hs2' := HB2.size
  have f0 := blk_cell H2 0
  have HAT := Lib.hid ((box_at (cs := [.string cur, .int .i64 y, .int .i64 m, .int .i64 p, .slice Ac n cc] ++ ([.int .i64 r0, .int .i64 r1, .int .i64 r2, .int .i64 r3, .int .i64 r4, .int .i64 r5, .int .i64 r6, .int .i64 r7, .int .i64 r8, .int .i64 r9, .int .i64 r10, .int .i64 r11, .int .i64 r12, .int .i64 r13, .int .i64 r14] ++ [.slice Ae ne ce])) H).split.2.split.1)
  have HH := Lib.hid H
  have HH2 := Lib.hid H2
  have LT1 := blk_lt H2
  clear H H2
  go_wp2_with fail
  refine (rName_c s W2 hs1).mono ?_
  rintro e w3 ⟨rfl, hb3⟩
  have hb03 := hb2.trans (hb3.mono hb2.size)
  have hs3 := hb3.size
  cases hc1 : nameB s with
  | false =>
    have hf := Lib.hid (show r = false by rw [← HR.out]; exact ent_name hc1)
    go_wp2_with fail
    go_ret
    exact ⟨by rw [hf.out]; first | done | rfl, hb03⟩
  | true =>
  have HC1 := Lib.hid hc1
  have E3 := (hb3.block _ LT1).trans HH2.out
  have f1 := blk_cell E3 1
  clear hc1 f0
  go_wp2_with fail
  refine (rCurrency_c cu w3 hs2).mono ?_
  rintro e wC ⟨rfl, hbC⟩
  have hb0C := hb03.trans (hbC.mono hb03.size)
  have hsC := hbC.size
  cases hc2 : curB cu with
  | false =>
    have hf := Lib.hid (show r = false by rw [← HR.out]; exact ent_cur hc2)
    go_wp2_with fail
    go_ret
    exact ⟨by rw [hf.out]; first | done | rfl, hb0C⟩
  | true =>
  have HC2 := Lib.hid hc2
  have HE3 := Lib.hid ((hbC.block _ (by omega)).trans E3)
  have GC := (hbC.block _ (by omega)).trans ((hb3.block _ (by omega)).trans HH.out)
  have d4 := blk_cell GC 4
  have HCALL := Lib.hid (HMV.out wC hb0C)
  clear hc2 f1 E3 GC
  go_wp2_with (show wpList _ _ _ (Oper.mk (some 19) _ _ _ _ _ :: _) _ _; refine wpList_load_row_g rfl 113 (.tmp 3) rfl (w.heap.size + 1) rfl _ _ _ _ HE3.out Try.underlying113 rfl info_entity ?_)
  refine HCALL.out.mono ?_
  rintro e w4 ⟨rfl, hb4⟩
  have hb04 := hb0C.trans (hb4.mono hb0C.size)
  have hs4 := hb4.size
  clear d4
  cases hc3 : mapB ec ch ls with
  | false =>
    have hf := Lib.hid (show r = false by rw [← HR.out]; exact ent_map hc3)
    go_wp2_with fail
    go_ret
    exact ⟨by rw [hf.out]; first | done | rfl, hb04⟩
  | true =>
  have HC3 := Lib.hid hc3
  have HE4 := Lib.hid ((hb4.block _ (by omega)).trans HE3.out)
  have HAT4 := Lib.hid ((HAT.out.fr (Fr.ofBelow (hb3.trans ((hbC.mono hs3).trans (hb4.mono (by omega)))))).range)
  clear hc3
  go_wp2_with (show wpList _ _ _ (Oper.mk (some 26) _ _ _ _ _ :: _) _ _; refine wpList_load_mid rfl 26 (.tmp 25) rfl w.heap.size 5 rfl [.int .i64 r0, .int .i64 r1, .int .i64 r2, .int .i64 r3, .int .i64 r4, .int .i64 r5, .int .i64 r6, .int .i64 r7, .int .i64 r8, .int .i64 r9, .int .i64 r10, .int .i64 r11, .int .i64 r12, .int .i64 r13, .int .i64 r14] _ HAT4.out Try.underlying26 rfl info_roles ?_)
  refine (rRoles_c r0 r1 r2 r3 r4 r5 r6 r7 r8 r9 r10 r11 r12 r13 r14 w4).mono ?_
  rintro e w5 ⟨v, rfl, ⟨A, c, rfl⟩, hrl, hb5⟩
  rw [HLQ.out] at hrl
  have HROL := Lib.hid (show ListC RoleC 5 w5 (fun k => w4.heap.size ≤ k ∧ k < w5.heap.size) [.slice A L.length c] L by rw [HLL.out]; exact hrl)
  have hs5 := hb5.size
  have hbd := hb04.trans (hb5.mono hb04.size)
  have HE5 := Lib.hid ((hb5.block _ (by omega)).trans HE4.out)
  clear hrl
  obtain ⟨b, o, hAe, hbw, helr⟩ := ListC.base HROL.out (by rw [HLL.out]; omega)
  subst hAe
  have HELR := Lib.hid helr
  clear helr
  go_wp2_with fail
  go_loopw [6] (fun i wr => ∃ k : Nat, k ≤ nl ∧ i = .int .i64 (k : Int) ∧ Below w5.heap.size w5 wr ∧ ∀ i (hi : i < ls.length), i < k → closedB L ls[i].to_ = false) (fun i _ => nl - (intOf i).toNat)
  case atStart => exact ⟨0, by omega, rfl, Below.refl _ _, fun j hj h => by omega⟩
  case round =>
    obtain ⟨k, hk, rfl, hb, hall⟩ := hrel
    have HA := Lib.hid hall
    have hsz := hb.size
    clear hall
    have hb0 := hbd.trans (hb.mono hbd.size)
    have ER := (hb.block (w.heap.size + 1) (by omega)).trans HE5.out
    have e3 := blk_cell ER 3
    by_cases hlt : k < nl
    case pos =>
      have hltI : (k : Int) < (nl : Int) := by omega
      have hkl : k < ls.length := by rw [HNL.out]; exact hlt
      obtain ⟨bl, ol, es1, hAe, hbl, hes, hat⟩ := ListC.get HLK.out k hkl
      subst hAe
      obtain ⟨hes1, _⟩ := LinkC.lit hes
      obtain ⟨l, hl⟩ : ∃ l, ls[k] = l := ⟨_, rfl⟩
      rw [hl] at hes1
      have HLL2 := Lib.hid (show ls[k]? = some l by rw [List.getElem?_eq_getElem hkl, hl])
      have HLG := Lib.hid hl
      obtain ⟨l1, l2, l3⟩ := l
      subst hes1
      have HLC := Lib.hid ((hat.fr (Fr.ofBelow hb0)).c (j := 1) rfl)
      have HER := Lib.hid ER
      have LT := Lib.hid (show bl < w.heap.size from hbl)
      clear hes hat hl hbl ER
      go_wp2_with fail
      go_loopw [7] (fun i wi => ∃ j : Nat, j ≤ 15 ∧ i = .int .i64 (j : Int) ∧ Below wr.heap.size wr wi ∧ ∀ j' (hl : j' < L.length), j' < j → ¬ (L[j'].code = l2 ∧ L[j'].mapped = false)) (fun i _ => 15 - (intOf i).toNat)
      case atStart => exact ⟨0, by omega, rfl, Below.refl _ _, fun j hj h => by omega⟩
      case round =>
        obtain ⟨j, hj, rfl, hbi, halli⟩ := hrel
        have HAI := Lib.hid halli
        have hsi := hbi.size
        clear halli
        have hb0i := hb0.trans (hbi.mono hb0.size)
        by_cases hjk : j < 15
        case pos =>
          have hjkI : (j : Int) < 15 := by omega
          have hjl : j < L.length := by rw [HLL.out]; exact hjk
          obtain ⟨es2, hes2, hat2⟩ := HELR.out j hjl
          obtain ⟨q, hq⟩ : ∃ q, L[j] = q := ⟨_, rfl⟩
          rw [hq] at hes2
          have HQ := Lib.hid hq
          obtain ⟨qn, qc, qk, qb, qm⟩ := q
          have hes3 : es2 = [.string qn, .int .i64 qc, .int .i64 qk, .int .i64 qb, .bool qm] := hes2
          subst hes3
          have hat3 := (hat2.fr ((Fr.ofBelow (hb.trans (hbi.mono hsz))).mono (fun k hk => hk.2)))
          have c1 := hat3.c (j := 1) rfl
          have c4 := hat3.c (j := 4) rfl
          have cl1 := (hbi.cell (p := ⟨bl, ol + k * 3 + 1, none⟩) (by have := LT.out; have := hb0.size; show bl < _; omega)).trans HLC.out
          have EI := (hbi.block _ (by omega)).trans HER.out
          have e3 := blk_cell EI 3
          clear hes2 hat2 hat3 hq EI
          by_cases ha : qc = l2
          case neg =>
            have ha' : (l2 == qc) = false := by simpa using fun e : l2 = qc => ha e.symm
            have HN2 := Lib.hid (show ¬ (qc = l2 ∧ qm = false) from fun h => ha h.1)
            clear ha
            go_wp2_with fail
            go_quiet (fail)
            go_wp2_with fail
            go_roundw
            case rel => exact ⟨j + 1, by omega, by go_num, ((Fr.ofBelow hbi).drewN _).below, fun j' hj' hjj => by
              rcases Nat.lt_or_ge j' j with h | h
              · exact HAI.out j' hj' h
              · have : j' = j := by omega
                subst this
                rw [HQ.out]
                exact HN2.out⟩
            case measure => first | exact meas_v hjk | (simp only [intOf]; omega)
          case pos =>
          have ha' : (l2 == qc) = true := by simpa using ha.symm
          cases qm with
          | true =>
            have HN2 := Lib.hid (show ¬ (qc = l2 ∧ true = false) from fun h => by cases h.2)
            clear ha
            go_wp2_with fail
            go_quiet (fail)
            go_wp2_with fail
            go_roundw
            case rel => exact ⟨j + 1, by omega, by go_num, ((Fr.ofBelow hbi).drewN _).below, fun j' hj' hjj => by
              rcases Nat.lt_or_ge j' j with h | h
              · exact HAI.out j' hj' h
              · have : j' = j := by omega
                subst this
                rw [HQ.out]
                exact HN2.out⟩
            case measure => first | exact meas_v hjk | (simp only [intOf]; omega)
          | false =>
            have hf := Lib.hid (show r = false by rw [← HR.out]; exact ent_link HLL2.out (closed_at hjl (by rw [HQ.out]; exact ha) (by rw [HQ.out])))
            clear ha
            go_wp2_with fail
            go_quiet (fail)
            go_wp2_with fail
            go_ret
            exact ⟨by rw [hf.out]; first | done | rfl, ((Fr.ofBelow hb0i).drewN _).below⟩
        case neg =>
          have hjkI : ¬ (j : Int) < 15 := by omega
          have HRW := Lib.hid (show closedB L l2 = false from closed_no (fun j' hl' => HAI.out j' hl' (by have := HLL.out; omega)))
          go_wp2_with fail
          go_roundw
          case rel => exact ⟨k + 1, by omega, by go_num, hb.trans (hbi.mono hsz), fun i hi hik => by
            rcases Nat.lt_or_ge i k with h | h
            · exact HA.out i hi h
            · have : i = k := by omega
              subst this
              rw [HLG.out]
              exact HRW.out⟩
          case measure => first | exact meas_v hlt | (simp only [intOf]; omega)
    case neg =>
      have hltI : ¬ (k : Int) < (nl : Int) := by omega
      have hf := Lib.hid (show r = true by rw [← HR.out]; exact ent_all HC1.out HC2.out HC3.out (fun j hj => HA.out j hj (by have := HNL.out; simp only at hj; omega)))
      go_wp2_with fail
      go_ret
      exact ⟨by rw [hf.out]; first | done | rfl, hb0⟩
end Go.Proofs.Ytnigokmjehemaaa
