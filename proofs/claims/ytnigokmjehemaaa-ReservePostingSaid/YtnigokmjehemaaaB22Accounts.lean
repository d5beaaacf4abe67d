/- Groups as cells; the chart and the roles of a group. Written by gen_b22.py. -/
import Derived.Test.YtnigokmjehemaaaProg
import Derived.Test.YtnigokmjehemaaaB15Valid
import Derived.Test.YtnigokmjehemaaaB20Plain
import Derived.Test.YtnigokmjehemaaaB21Index
namespace Go.Proofs.Ytnigokmjehemaaa
open Go Go.RowKit
set_option linter.unusedVariables false
set_option linter.unusedSimpArgs false
set_option maxRecDepth 4000
attribute [local go_sem ↓] Go.wp_at_zero Go.wp_at_succ
abbrev grpL (cur : ByteArray) (y m p : Int) (Ac : Option Addr) (n cc : Nat) (r0 r1 r2 r3 r4 r5 r6 r7 r8 r9 r10 r11 r12 r13 r14 : Int) (Ae : Option Addr) (ne ce : Nat) : List Value := [.string cur, .int .i64 y, .int .i64 m, .int .i64 p, .slice Ac n cc, .int .i64 r0, .int .i64 r1, .int .i64 r2, .int .i64 r3, .int .i64 r4, .int .i64 r5, .int .i64 r6, .int .i64 r7, .int .i64 r8, .int .i64 r9, .int .i64 r10, .int .i64 r11, .int .i64 r12, .int .i64 r13, .int .i64 r14, .slice Ae ne ce]
abbrev linkL (l : XLink) : List Value := [.int .i64 l.from_, .int .i64 l.to_, .int .i64 l.since]
def linkBd (l : XLink) : Prop := intBd l.from_ ∧ intBd l.to_ ∧ intBd l.since
theorem LinkC.lit {w : World} {Q : Nat → Prop} {cs : List Value} {x : XLink} (h : LinkC w Q cs x) : cs = linkL x ∧ linkBd x := by
  obtain ⟨c0, c1, c2, rfl, ⟨rfl, h0⟩, ⟨rfl, h1⟩, ⟨rfl, h2⟩⟩ := h
  exact ⟨rfl, h0, h1, h2⟩
abbrev entL (s c : ByteArray) (Ac : Option Addr) (n cc : Nat) (Al : Option Addr) (nl cl : Nat) (j : Bool) : List Value := [.string s, .string c, .slice Ac n cc, .slice Al nl cl, .bool j]
theorem EntityC.lit {w : World} {Q : Nat → Prop} {cs : List Value} {x : XEntity} (h : EntityC w Q cs x) : ∃ Ac cc Al cl, cs = entL x.name x.currency Ac x.chart.length cc Al x.links.length cl x.joint ∧ ListC AccountC 4 w Q [.slice Ac x.chart.length cc] x.chart ∧ ListC LinkC 3 w Q [.slice Al x.links.length cl] x.links := by
  obtain ⟨c0, c1, c2, c3, c4, rfl, h0, h1, h2, h3, h4⟩ := h
  have e0 : c0 = _ := h0
  have e1 : c1 = _ := h1
  have e4 : c4 = _ := h4
  subst e0 e1 e4
  obtain ⟨A, c, e, _⟩ := h2.form
  subst e
  obtain ⟨A', c', e, _⟩ := h3.form
  subst e
  exact ⟨A, c, A', c', rfl, h2, h3⟩
def rolesBd (r : XRoles) : Prop := intBd r.investment ∧ intBd r.goodwill ∧ intBd r.associates ∧ intBd r.inventory ∧ intBd r.reserve ∧ intBd r.minority ∧ intBd r.retained ∧ intBd r.acquired ∧ intBd r.owners ∧ intBd r.disposal ∧ intBd r.associateProfit ∧ intBd r.dividends ∧ intBd r.minorityProfit ∧ intBd r.difference ∧ intBd r.margin
theorem RolesC.lit {w : World} {Q : Nat → Prop} {cs : List Value} {r : XRoles} (h : RolesC w Q cs r) : cs = [.int .i64 r.investment, .int .i64 r.goodwill, .int .i64 r.associates, .int .i64 r.inventory, .int .i64 r.reserve, .int .i64 r.minority, .int .i64 r.retained, .int .i64 r.acquired, .int .i64 r.owners, .int .i64 r.disposal, .int .i64 r.associateProfit, .int .i64 r.dividends, .int .i64 r.minorityProfit, .int .i64 r.difference, .int .i64 r.margin] ∧ rolesBd r := by
  obtain ⟨c0, c1, c2, c3, c4, c5, c6, c7, c8, c9, c10, c11, c12, c13, c14, rfl, ⟨rfl, h0⟩, ⟨rfl, h1⟩, ⟨rfl, h2⟩, ⟨rfl, h3⟩, ⟨rfl, h4⟩, ⟨rfl, h5⟩, ⟨rfl, h6⟩, ⟨rfl, h7⟩, ⟨rfl, h8⟩, ⟨rfl, h9⟩, ⟨rfl, h10⟩, ⟨rfl, h11⟩, ⟨rfl, h12⟩, ⟨rfl, h13⟩, ⟨rfl, h14⟩⟩ := h
  exact ⟨rfl, h0, h1, h2, h3, h4, h5, h6, h7, h8, h9, h10, h11, h12, h13, h14⟩
theorem CalC.lit {w : World} {Q : Nat → Prop} {cs : List Value} {x : XCal} (h : CalC w Q cs x) : cs = [.int .i64 x.year, .int .i64 x.month, .int .i64 x.periods] ∧ intBd x.year ∧ intBd x.month ∧ intBd x.periods := by
  obtain ⟨c0, c1, c2, rfl, ⟨rfl, h0⟩, ⟨rfl, h1⟩, ⟨rfl, h2⟩⟩ := h
  exact ⟨rfl, h0, h1, h2⟩
theorem GroupC.lit {w : World} {Q : Nat → Prop} {cs : List Value} {g : XGroup} (h : GroupC w Q cs g) : ∃ Ac cc Ae ce, cs = grpL g.currency g.calendar.year g.calendar.month g.calendar.periods Ac g.chart.length cc g.roles.investment g.roles.goodwill g.roles.associates g.roles.inventory g.roles.reserve g.roles.minority g.roles.retained g.roles.acquired g.roles.owners g.roles.disposal g.roles.associateProfit g.roles.dividends g.roles.minorityProfit g.roles.difference g.roles.margin Ae g.entities.length ce ∧ ListC AccountC 4 w Q [.slice Ac g.chart.length cc] g.chart ∧ ListC EntityC 5 w Q [.slice Ae g.entities.length ce] g.entities ∧ (intBd g.calendar.year ∧ intBd g.calendar.month ∧ intBd g.calendar.periods) ∧ rolesBd g.roles := by
  obtain ⟨c0, c1, c2, c3, c4, rfl, h0, h1, h2, h3, h4⟩ := h
  have e0 : c0 = _ := h0
  subst e0
  obtain ⟨rfl, b1⟩ := h1.lit
  obtain ⟨rfl, b3⟩ := h3.lit
  obtain ⟨A, c, e, _⟩ := h2.form
  subst e
  obtain ⟨A', c', e, _⟩ := h4.form
  subst e
  exact ⟨A, c, A', c', rfl, h2, h4, b1, b3⟩
theorem ents_keep {w w' : World} {cs : List Value} {l : List XEntity} (h : ListC EntityC 5 w (· < w.heap.size) cs l) (hb : Below w.heap.size w w') : ListC EntityC 5 w' (· < w'.heap.size) cs l :=
  (h.fr (fun h => EntityC.fr h (Fr.ofBelow hb)) (Fr.ofBelow hb)).mono (fun h => EntityC.mono h (fun k hk => by have := hb.size; omega)) (fun k hk => by have := hb.size; omega)
theorem links_keep {w w' : World} {cs : List Value} {l : List XLink} (h : ListC LinkC 3 w (· < w.heap.size) cs l) (hb : Below w.heap.size w w') : ListC LinkC 3 w' (· < w'.heap.size) cs l :=
  (h.fr (fun h => LinkC.fr h (Fr.ofBelow hb)) (Fr.ofBelow hb)).mono (fun h => LinkC.mono h (fun k hk => by have := hb.size; omega)) (fun k hk => by have := hb.size; omega)
theorem info_roles : (Try.prog.info? 26).map (·.size) = some 15 := by kernel_rfl
theorem info_role : (Try.prog.info? 208).map (·.size) = some 5 := by kernel_rfl
theorem info_group : (Try.prog.info? 29).map (·.size) = some 21 := by kernel_rfl
theorem info_entity : (Try.prog.info? 113).map (·.size) = some 5 := by kernel_rfl
theorem info_link : (Try.prog.info? 182).map (·.size) = some 3 := by kernel_rfl
theorem meas_v {n k : Nat} (h : k < n) : n - (intOf (.int .i64 ((k : Int) + 1))).toNat < n - (intOf (.int .i64 (k : Int))).toNat := by
  show n - ((k : Int) + 1).toNat < n - ((k : Int)).toNat
  omega
/-- The blocks below B, but b. -/
def QX (B b k : Nat) : Prop := k < B ∧ k ≠ b
theorem acc_roles {ch : List XAccount} {r : XRoles} {L : List XRole} {k : Nat} (hL : rolesOf r = L) (hk : k < L.length) (h : roleRow ch L k = false) : accountsB ch r = false := by
  unfold accountsB rolesB
  rw [hL, all_range_false hk h, Bool.and_false]
theorem acc_all {ch : List XAccount} {r : XRoles} {L : List XRole} (hL : rolesOf r = L) (h1 : chartB ch true = true) (h2 : ch.all basedB = true) (h : ∀ k, k < L.length → roleRow ch L k = true) : accountsB ch r = true := by
  unfold accountsB rolesB
  rw [hL, all_range_true h, h1, h2]; rfl
section
variable {ch : List XAccount} {L : List XRole} {k : Nat} {q : XRole} {a : XAccount}
theorem row_none (hk : L[k]? = some q) (h : findA ch q.code = none) : roleRow ch L k = false := by unfold roleRow; rw [hk]; simp only; rw [h]
theorem row_some (hk : L[k]? = some q) (h : findA ch q.code = some a) : roleRow ch L k = (a.kind == q.kind && a.basis == q.basis && !((L.take k).any fun p => p.code == q.code)) := by unfold roleRow; rw [hk]; simp only; rw [h]
end
theorem take_seen {L : List XRole} {k : Nat} {q : XRole} (hk : L[k]? = some q) {F : Int → Bool} (hF : (fun d => (L.take k).any fun p => p.code == d) = F) (d : Int) : (if d = q.code then true else F d) = (L.take (k + 1)).any fun p => p.code == d := by
  obtain ⟨hl, rfl⟩ := List.getElem?_eq_some_iff.1 hk
  rw [take_any_succ hl, ← hF]
  by_cases h : d = L[k].code
  · rw [if_pos h, h]; simp
  · rw [if_neg h, show (L[k].code == d) = false from by simpa using fun e => h e.symm, Bool.or_false]
set_option maxHeartbeats 2000000 in
theorem accounts_c (g : XGroup) (cs : List Value) (w : World) (hg : GroupC w (· < w.heap.size) cs g) (hn : g.chart.length ≤ 1000) : Calls Try.prog 120 #[.agg cs.toArray] w (Quiet w (.bool (accountsB g.chart g.roles))) := by
  have hmm := @run_makeMap Try.prog
  obtain ⟨Ac, cc, Ae, ce, rfl, hch, hen, hcal, hro⟩ := hg.lit
  clear hg
  obtain ⟨cur, ⟨y, m, p⟩, ch, ⟨r0, r1, r2, r3, r4, r5, r6, r7, r8, r9, r10, r11, r12, r13, r14⟩, es⟩ := g
  simp only at hch hen hro hcal hn ⊢
  obtain ⟨r, hr⟩ : ∃ r, accountsB ch ⟨r0, r1, r2, r3, r4, r5, r6, r7, r8, r9, r10, r11, r12, r13, r14⟩ = r := ⟨_, rfl⟩
  rw [hr]
  have HR := Lib.hid hr
  clear hr
  obtain ⟨L, hL⟩ : ∃ L, rolesL r0 r1 r2 r3 r4 r5 r6 r7 r8 r9 r10 r11 r12 r13 r14 = L := ⟨_, rfl⟩
  have hLl : L.length = 15 := by rw [← hL]; rfl
  have HLQ := Lib.hid hL
  have HLL := Lib.hid hLl
  obtain ⟨n, hnl⟩ : ∃ n, ch.length = n := ⟨_, rfl⟩
  obtain ⟨ne, hne⟩ : ∃ ne, es.length = ne := ⟨_, rfl⟩
  have HL := Lib.hid hch
  have HN := Lib.hid hnl
  have HE := Lib.hid hen
  have HNE := Lib.hid hne
  rw [hnl, hne]
  rw [hnl] at hn
  clear hL hLl hch hen hnl hne hcal
  have hrb : ∀ q ∈ L, intBd q.code := by
    rw [← HLQ.out]
    obtain ⟨b0, b1, b2, b3, b4, b5, b6, b7, b8, b9, b10, b11, b12, b13, b14⟩ := hro
    intro q hq
    simp only [rolesL, List.mem_cons, List.not_mem_nil, or_false] at hq
    rcases hq with rfl | rfl | rfl | rfl | rfl | rfl | rfl | rfl | rfl | rfl | rfl | rfl | rfl | rfl | rfl <;> assumption
  have HRB := Lib.hid hrb
  clear hrb hro
  show Calls Try.prog 120 #[.agg #[.string cur, .int .i64 y, .int .i64 m, .int .i64 p, .slice Ac n cc, .int .i64 r0, .int .i64 r1, .int .i64 r2, .int .i64 r3, .int .i64 r4, .int .i64 r5, .int .i64 r6, .int .i64 r7, .int .i64 r8, .int .i64 r9, .int .i64 r10, .int .i64 r11, .int .i64 r12, .int .i64 r13, .int .i64 r14, .slice Ae ne ce]] w (Quiet w (.bool r))
  go_enter Try.func120, Try.ntmps120
  go_upto_region 1 with fail
  have H := heap_alloc_new w (.cells #[.string cur, .int .i64 y, .int .i64 m, .int .i64 p, .slice Ac n cc, .int .i64 r0, .int .i64 r1, .int .i64 r2, .int .i64 r3, .int .i64 r4, .int .i64 r5, .int .i64 r6, .int .i64 r7, .int .i64 r8, .int .i64 r9, .int .i64 r10, .int .i64 r11, .int .i64 r12, .int .i64 r13, .int .i64 r14, .slice Ae ne ce] 29)
  have HB := below1 w (.cells #[.string cur, .int .i64 y, .int .i64 m, .int .i64 p, .slice Ac n cc, .int .i64 r0, .int .i64 r1, .int .i64 r2, .int .i64 r3, .int .i64 r4, .int .i64 r5, .int .i64 r6, .int .i64 r7, .int .i64 r8, .int .i64 r9, .int .i64 r10, .int .i64 r11, .int .i64 r12, .int .i64 r13, .int .i64 r14, .slice Ae ne ce] 29)
  have HS : w.heap.size < (w.alloc (.cells #[.string cur, .int .i64 y, .int .i64 m, .int .i64 p, .slice Ac n cc, .int .i64 r0, .int .i64 r1, .int .i64 r2, .int .i64 r3, .int .i64 r4, .int .i64 r5, .int .i64 r6, .int .i64 r7, .int .i64 r8, .int .i64 r9, .int .i64 r10, .int .i64 r11, .int .i64 r12, .int .i64 r13, .int .i64 r14, .slice Ae ne ce] 29)).heap.size := blk_lt H
  generalize hW : w.alloc (Obj.cells #[.string cur, .int .i64 y, .int .i64 m, .int .i64 p, .slice Ac n cc, .int .i64 r0, .int .i64 r1, .int .i64 r2, .int .i64 r3, .int .i64 r4, .int .i64 r5, .int .i64 r6, .int .i64 r7, .int .i64 r8, .int .i64 r9, .int .i64 r10, .int .i64 r11, .int .i64 r12, .int .i64 r13, .int .i64 r14, .slice Ae ne ce] 29) = W at *
  clear hW
  have d4 := blk_cell H 4
  have HAT := Lib.hid ((box_at (cs := [.string cur, .int .i64 y, .int .i64 m, .int .i64 p, .slice Ac n cc] ++ ([.int .i64 r0, .int .i64 r1, .int .i64 r2, .int .i64 r3, .int .i64 r4, .int .i64 r5, .int .i64 r6, .int .i64 r7, .int .i64 r8, .int .i64 r9, .int .i64 r10, .int .i64 r11, .int .i64 r12, .int .i64 r13, .int .i64 r14] ++ [.slice Ae ne ce])) H).split.2.split.1)
  have HH0 := Lib.hid H
  clear H
  go_wp2_with fail
  have hcall := chartValid_c ch Ac cc true W (chart_keep HL.out HB) (by rw [HN.out]; exact hn)
  rw [HN.out] at hcall
  refine hcall.mono ?_
  clear hcall
  rintro e w2 ⟨rfl, hb2⟩
  have hbb := HB.trans (hb2.mono HB.size)
  cases hc : chartB ch true with
  | false =>
    have hf := Lib.hid (show r = false by rw [← HR.out]; unfold accountsB; rw [hc]; rfl)
    clear hc
    go_wp2_with fail
    go_ret
    exact ⟨by rw [hf.out]; first | done | rfl, hbb⟩
  | true =>
    have HC := Lib.hid hc
    have G2 := (hb2.block _ HS).trans HH0.out
    have e4 := blk_cell G2 4
    clear hc d4
    go_wp2_with fail
    have hcall := anyA_c ch Ac cc w2 (chart_keep HL.out hbb) (by rw [HN.out]; exact hn)
    rw [HN.out] at hcall
    refine hcall.mono ?_
    clear hcall
    rintro e w3 ⟨rfl, hb3⟩
    have hbc := hbb.trans (hb3.mono hbb.size)
    have hs2 := hb2.size
    have hs3 := hb3.size
    have G3 := (hb3.block _ (by omega)).trans G2
    clear e4
    cases hd : ch.all basedB with
    | false =>
      have hf := Lib.hid (show r = false by rw [← HR.out]; unfold accountsB; rw [hd, Bool.and_false]; rfl)
      clear hd
      simp only [Bool.not_false]
      go_wp2_with fail
      go_ret
      exact ⟨by rw [hf.out]; first | done | rfl, hbc⟩
    | true =>
      have HD := Lib.hid hd
      clear hd
      simp only [Bool.not_true]
      go_upto_region 4 with fail
      have hs0 := SetK.made Try.prog 3 4 iKey w3
      have HB4 := below1 w3 (.map #[] 0)
      have HS4 : w3.heap.size + 1 = (w3.alloc (.map #[] 0)).heap.size := by simp
      have G4 := alloc_keep G3 (.map #[] 0)
      generalize hW4 : w3.alloc (Obj.map #[] 0) = W4 at *
      clear hW4
      have e5 : W4.rangeAt w.heap.size 5 [.int .i64 r0, .int .i64 r1, .int .i64 r2, .int .i64 r3, .int .i64 r4, .int .i64 r5, .int .i64 r6, .int .i64 r7, .int .i64 r8, .int .i64 r9, .int .i64 r10, .int .i64 r11, .int .i64 r12, .int .i64 r13, .int .i64 r14] := ((HAT.out.fr (Fr.ofBelow hb2)).fr ((Fr.ofBelow (hb3.trans (HB4.mono hs3))).mono (fun k (hk : k < W.heap.size) => by omega))).range
      have HRR := Lib.hid e5
      have HG4 := Lib.hid G4
      clear e5 G4 G3 G2
      go_wp2_with (show wpList _ _ _ (Oper.mk (some 19) _ _ _ _ _ :: _) _ _; refine wpList_load_mid rfl 26 (.tmp 18) rfl w.heap.size 5 rfl [.int .i64 r0, .int .i64 r1, .int .i64 r2, .int .i64 r3, .int .i64 r4, .int .i64 r5, .int .i64 r6, .int .i64 r7, .int .i64 r8, .int .i64 r9, .int .i64 r10, .int .i64 r11, .int .i64 r12, .int .i64 r13, .int .i64 r14] _ HRR.out Try.underlying26 rfl info_roles ?_)
      refine (roles_c r0 r1 r2 r3 r4 r5 r6 r7 r8 r9 r10 r11 r12 r13 r14 W4).mono ?_
      rintro e w5 ⟨v, rfl, ⟨A, c, rfl⟩, hrl, hb5⟩
      rw [HLQ.out] at hrl
      have HROL := Lib.hid (show ListC RoleC 5 w5 (fun k => W4.heap.size ≤ k ∧ k < w5.heap.size) [.slice A L.length c] L by rw [HLL.out]; exact hrl)
      have hs5 := hb5.size
      have hbd := hbc.trans ((HB4.mono hbc.size).trans (hb5.mono (by omega)))
      have hset5 := hs0.below hb5
      have HG5 := Lib.hid ((hb5.block _ (by omega)).trans HG4.out)
      clear hrl hs0
      go_wp2_with fail
      go_loopw [22] (fun i wr => ∃ k : Nat, k ≤ 15 ∧ i = .int .i64 (k : Int) ∧ Fr (QX w5.heap.size w3.heap.size) w5 wr ∧ SetI wr w3.heap.size k (fun d => (L.take k).any fun p => p.code == d) ∧ ∀ j, j < k → roleRow ch L j = true) (fun i _ => 15 - (intOf i).toNat)
      case atStart => exact ⟨0, by omega, rfl, Fr.refl _ _, hset5.eqv (fun _ => rfl), fun j hj => by omega⟩
      case round =>
        obtain ⟨k, hk, rfl, hfr, hset, hall⟩ := hrel
        have HA := Lib.hid hall
        have HF := Lib.hid hfr
        have hsz := hfr.size
        clear hall hfr
        have hb0 : Below w.heap.size w wr := ((Fr.ofBelow hbd).trans (HF.out.mono (fun k (hk : k < w.heap.size) => ⟨by omega, by omega⟩))).below
        by_cases hlt : k < 15
        case pos =>
          have hltI : (k : Int) < 15 := by omega
          have hkl : k < L.length := by rw [HLL.out]; exact hlt
          obtain ⟨b, o, es1, hAe, hbw, hes, hat⟩ := ListC.get HROL.out k hkl
          subst hAe
          obtain ⟨q, hq⟩ : ∃ q, L[k] = q := ⟨_, rfl⟩
          have hqb := HRB.out _ (List.getElem_mem hkl)
          rw [hq] at hes hqb
          have HQ := Lib.hid (show L[k]? = some q by rw [List.getElem?_eq_getElem hkl, hq])
          obtain ⟨qn, qc, qk, qb, qm⟩ := q
          have HQB := Lib.hid hqb
          obtain ⟨hqb1, hqb2⟩ := hqb
          have hes1 : es1 = [.string qn, .int .i64 qc, .int .i64 qk, .int .i64 qb, .bool qm] := hes
          subst hes1
          have HAR := Lib.hid ((hat.fr (HF.out.mono (fun k hk => ⟨hk.2, by omega⟩))).range)
          have G6 := (HF.out.block w.heap.size ⟨by omega, by omega⟩).trans HG5.out
          have HLW := Lib.hid (chart_keep HL.out hb0)
          obtain ⟨F, hF⟩ : ∃ F : Int → Bool, (fun d => (L.take k).any fun p => p.code == d) = F := ⟨_, rfl⟩
          rw [hF] at hset
          have HF2 := Lib.hid hF
          clear hes hat hq hF hbw
          go_upto_region 7 with (show wpList _ _ _ (Oper.mk (some 25) _ _ _ _ _ :: _) _ _; refine wpList_load_mid rfl 208 (.tmp 24) rfl b (o + k * 5) rfl [.string qn, .int .i64 qc, .int .i64 qk, .int .i64 qb, .bool qm] _ HAR.out Try.underlying208 rfl info_role ?_)
          have H6 := heap_alloc_new wr (.cells #[.string qn, .int .i64 qc, .int .i64 qk, .int .i64 qb, .bool qm] 208)
          have HB6 := below1 wr (.cells #[.string qn, .int .i64 qc, .int .i64 qk, .int .i64 qb, .bool qm] 208)
          have HS6 : wr.heap.size < (wr.alloc (.cells #[.string qn, .int .i64 qc, .int .i64 qk, .int .i64 qb, .bool qm] 208)).heap.size := blk_lt H6
          replace G6 := alloc_keep G6 (Obj.cells #[.string qn, .int .i64 qc, .int .i64 qk, .int .i64 qb, .bool qm] 208)
          generalize hW6 : wr.alloc (Obj.cells #[.string qn, .int .i64 qc, .int .i64 qk, .int .i64 qb, .bool qm] 208) = W6 at *
          clear hW6
          have f1 := blk_cell H6 1
          have d4 := blk_cell G6 4
          have hset6 := hset.below HB6
          have HH6 := Lib.hid H6
          have HG6 := Lib.hid G6
          have HLW6 := Lib.hid (chart_keep HLW.out HB6)
          clear H6 G6 hset
          go_wp2_with fail
          have hcall := find_c ch Ac cc qc W6 HLW6.out HQB.out (by rw [HN.out]; exact hn)
          rw [HN.out] at hcall
          refine hcall.mono ?_
          clear hcall
          rintro e w7 ⟨rfl, hb7⟩
          have hs6 := HB6.size
          have hs7 := hb7.size
          have hset7 := hset6.below hb7
          have hb67 := HB6.trans (hb7.mono HB6.size)
          have hb07 := hb0.trans (hb67.mono hb0.size)
          cases ha : findA ch qc with
          | none =>
            have e0 : findV ch qc = .tuple #[.agg (accL {}).toArray, .bool false] := findV_none ha
            rw [e0]
            have hf := Lib.hid (show r = false by rw [← HR.out]; exact acc_roles (L := L) HLQ.out hkl (row_none HQ.out ha))
            clear e0 ha
            go_wp2_with fail
            go_ret
            exact ⟨by rw [hf.out]; first | done | rfl, hb07.alloc hb07.size _⟩
          | some pa =>
            have e0 : findV ch qc = .tuple #[.agg (accL pa).toArray, .bool true] := findV_some ha
            rw [e0]
            have HROW := Lib.hid (row_some HQ.out ha)
            clear e0 ha
            obtain ⟨p1, p2, p3, p4⟩ := pa
            have G7 := (hb7.block _ (by omega)).trans HG6.out
            have K7 := (hb7.block _ HS6).trans HH6.out
            go_upto_region 8 with fail
            have H8 := heap_alloc_new w7 (.cells #[.int .i64 p1, .int .i64 p2, .int .i64 p3, .int .i64 p4] 157)
            have HB8 := below1 w7 (.cells #[.int .i64 p1, .int .i64 p2, .int .i64 p3, .int .i64 p4] 157)
            have HS8 : w7.heap.size < (w7.alloc (.cells #[.int .i64 p1, .int .i64 p2, .int .i64 p3, .int .i64 p4] 157)).heap.size := blk_lt H8
            replace G7 := alloc_keep G7 (Obj.cells #[.int .i64 p1, .int .i64 p2, .int .i64 p3, .int .i64 p4] 157)
            replace K7 := alloc_keep K7 (Obj.cells #[.int .i64 p1, .int .i64 p2, .int .i64 p3, .int .i64 p4] 157)
            generalize hW8 : w7.alloc (Obj.cells #[.int .i64 p1, .int .i64 p2, .int .i64 p3, .int .i64 p4] 157) = W8 at *
            clear hW8
            have g1 := blk_cell H8 1
            have g2 := blk_cell H8 2
            have f1 := blk_cell K7 1
            have f2 := blk_cell K7 2
            have f3 := blk_cell K7 3
            have hset8 := hset7.below HB8
            have hb08 := hb07.trans (HB8.mono hb07.size)
            have hb68 := hb67.trans (HB8.mono hb67.size)
            have hs8 := HB8.size
            clear H8 K7 G7 hset7
            cases hcont : F qc with
            | true =>
              have hf := Lib.hid (show r = false by rw [← HR.out]; exact acc_roles (L := L) HLQ.out hkl (by rw [HROW.out, show ((L.take k).any fun p => p.code == qc) = true from (congrFun HF2.out qc).trans hcont]; simp))
              go_wp2_with (at_lookup; refine wpList_look_set rfl _ _ 204 rfl 3 4 int_keyed3 imap_uty bool_uty (bool_zero _) w3.heap.size k F rfl hset8 _ qc rfl (iKey_of HQB.out) ?_)
              go_ret
              exact ⟨by rw [hf.out]; first | done | rfl, hb08⟩
            | false =>
            by_cases h1 : p2 = qk
            case neg =>
              have h1' : (p2 != qk) = true := by simpa using h1
              have hf := Lib.hid (show r = false by rw [← HR.out]; exact acc_roles (L := L) HLQ.out hkl (by rw [HROW.out, show (p2 == qk) = false from by simpa using h1]; rfl))
              go_wp2_with (at_lookup; refine wpList_look_set rfl _ _ 204 rfl 3 4 int_keyed3 imap_uty bool_uty (bool_zero _) w3.heap.size k F rfl hset8 _ qc rfl (iKey_of HQB.out) ?_)
              go_ret
              exact ⟨by rw [hf.out]; first | done | rfl, hb08⟩
            case pos =>
            have h1' : (p2 != qk) = false := by simpa using h1
            by_cases h2 : p3 = qb
            case neg =>
              have h2' : (p3 != qb) = true := by simpa using h2
              have hf := Lib.hid (show r = false by rw [← HR.out]; exact acc_roles (L := L) HLQ.out hkl (by rw [HROW.out, show (p3 == qb) = false from by simpa using h2, Bool.and_false]; rfl))
              go_wp2_with (at_lookup; refine wpList_look_set rfl _ _ 204 rfl 3 4 int_keyed3 imap_uty bool_uty (bool_zero _) w3.heap.size k F rfl hset8 _ qc rfl (iKey_of HQB.out) ?_)
              go_ret
              exact ⟨by rw [hf.out]; first | done | rfl, hb08⟩
            case pos =>
            have h2' : (p3 != qb) = false := by simpa using h2
            have HROW2 := Lib.hid (show roleRow ch L k = true by rw [HROW.out, show ((L.take k).any fun p => p.code == qc) = false from (congrFun HF2.out qc).trans hcont, h1, h2]; simp)
            go_wp2_with (first | (at_lookup; refine wpList_look_set rfl _ _ 204 rfl 3 4 int_keyed3 imap_uty bool_uty (bool_zero _) w3.heap.size k F rfl hset8 _ qc rfl (iKey_of HQB.out) ?_) | (at_mapUpdate; refine wpList_store_set rfl _ _ _ 204 rfl 3 4 int_keyed3 imap_uty bool_uty w3.heap.size k F rfl hset8 (by simp only [maxLen]; omega) iKey_inj iKey_lit _ qc rfl true rfl (iKey_of HQB.out) ?_; intro w9 hset9 hg9; replace hset9 := Lib.hid hset9))
            go_roundw
            case rel =>
              refine ⟨k + 1, by omega, by go_num, ?_, ?_, ?_⟩
              · exact (HF.out.trans ((Fr.ofBelow hb68).mono (fun k hk => by have := hk.1; omega))).grown hg9 (fun k hk => hk.1) (fun j hj => by injection hj with hj; exact fun h => h.2 hj.symm)
              · exact hset9.out.eqv (fun d => take_seen HQ.out HF2.out d)
              · intro j hj
                rcases Nat.lt_or_ge j k with h | h
                · exact HA.out j h
                · have : j = k := by omega
                  subst this
                  exact HROW2.out
            case measure =>
              exact meas_v hlt
        case neg =>
          have hltI : ¬ (k : Int) < 15 := by omega
          have hf := Lib.hid (show r = true by rw [← HR.out]; exact acc_all (L := L) HLQ.out HC.out HD.out (fun j hj => HA.out j (by have := HLL.out; omega)))
          go_wp2_with fail
          go_ret
          exact ⟨by rw [hf.out]; first | done | rfl, hb0⟩
end Go.Proofs.Ytnigokmjehemaaa
