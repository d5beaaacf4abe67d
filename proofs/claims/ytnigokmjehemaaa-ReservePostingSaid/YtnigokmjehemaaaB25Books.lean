/- Groups: the reference's books. Written by gen_b25.py. -/
import Derived.Test.YtnigokmjehemaaaProg
import Derived.Test.YtnigokmjehemaaaB24Account
import Derived.Deep.QuietTactic
namespace Go.Proofs.Ytnigokmjehemaaa
open Go Go.RowKit
set_option linter.unusedVariables false
set_option linter.unusedSimpArgs false
set_option maxRecDepth 4000
attribute [local go_sem ↓] Go.wp_at_zero Go.wp_at_succ
theorem rAccount_n {cur : ByteArray} {y m p : Int} {Ac Ae : Option Addr} {cc ce n ne : Nat} {ch : List XAccount} {es : List XEntity} {r0 r1 r2 r3 r4 r5 r6 r7 r8 r9 r10 r11 r12 r13 r14 : Int} (hN : ch.length = n) (hE : es.length = ne) {w : World} (hg : GroupC w (· < w.heap.size) (grpL cur y m p Ac ch.length cc r0 r1 r2 r3 r4 r5 r6 r7 r8 r9 r10 r11 r12 r13 r14 Ae es.length ce) ⟨cur, ⟨y, m, p⟩, ch, ⟨r0, r1, r2, r3, r4, r5, r6, r7, r8, r9, r10, r11, r12, r13, r14⟩, es⟩) (hn : ch.length ≤ 1000) (code : Int) (hc : intBd code) : Calls Try.prog 129 #[.agg (grpL cur y m p Ac n cc r0 r1 r2 r3 r4 r5 r6 r7 r8 r9 r10 r11 r12 r13 r14 Ae ne ce).toArray, .int .i64 code] w (Quiet w (findV ch code)) := by
  subst hN hE
  exact rAccount_c _ _ _ _ hg hc hn
theorem row_apart {ch : List XAccount} {L : List XRole} {k : Nat} {q : XRole} {a : XAccount} (hk : L[k]? = some q) (h : findA ch q.code = some a) (h1 : a.kind = q.kind) (h2 : a.basis = q.basis) (hd : ∀ j (hj : j < L.length), j < k → L[j].code ≠ q.code) : roleRow ch L k = true := by
  rw [row_some hk h, h1, h2]
  have : ((L.take k).any fun p => p.code == q.code) = false := by
    rw [List.any_eq_false]
    intro x hx
    rw [List.mem_take_iff_getElem] at hx
    obtain ⟨j, hj, rfl⟩ := hx
    simpa using hd j (by omega) (by omega)
  rw [this]; simp
theorem row_twice {ch : List XAccount} {L : List XRole} {k j : Nat} {q : XRole} {a : XAccount} (hk : L[k]? = some q) (h : findA ch q.code = some a) (hj : j < k) (hl : j < L.length) (he : L[j].code = q.code) : roleRow ch L k = false := by
  rw [row_some hk h]
  have : ((L.take k).any fun p => p.code == q.code) = true := by
    rw [List.any_eq_true]
    exact ⟨L[j], by rw [List.mem_take_iff_getElem]; exact ⟨j, by omega, rfl⟩, by simpa using he⟩
  rw [this]; simp
set_option maxHeartbeats 4000000 in
theorem rbooks_c (g : XGroup) (cs : List Value) (w : World) (hg : GroupC w (· < w.heap.size) cs g) (hn : g.chart.length ≤ 1000) (hcs : g.currency.size ≤ 1000) : Calls Try.prog 75 #[.agg cs.toArray] w (Quiet w (.bool (curB g.currency && calB g.calendar.year g.calendar.month g.calendar.periods && accountsB g.chart g.roles))) := by
  have HGC := Lib.hid hg
  obtain ⟨Ac, cc, Ae, ce, rfl, hch, hen, hcal, hro⟩ := hg.lit
  clear hg
  obtain ⟨cur, ⟨y, m, p⟩, ch, ⟨r0, r1, r2, r3, r4, r5, r6, r7, r8, r9, r10, r11, r12, r13, r14⟩, es⟩ := g
  simp only at hcs hch hen hro hcal hn ⊢
  obtain ⟨r, hr⟩ : ∃ r, (curB cur && calB y m p && accountsB ch ⟨r0, r1, r2, r3, r4, r5, r6, r7, r8, r9, r10, r11, r12, r13, r14⟩) = r := ⟨_, rfl⟩
  rw [hr]
  have HR := Lib.hid hr
  have HNN := Lib.hid hn
  clear hr
  obtain ⟨L, hL⟩ : ∃ L, rolesL r0 r1 r2 r3 r4 r5 r6 r7 r8 r9 r10 r11 r12 r13 r14 = L := ⟨_, rfl⟩
  have hLl : L.length = 15 := by rw [← hL]; rfl
  have HLQ := Lib.hid hL
  have HLL := Lib.hid hLl
  obtain ⟨n, hnl⟩ : ∃ n, ch.length = n := ⟨_, rfl⟩
  obtain ⟨ne, hne⟩ : ∃ ne, es.length = ne := ⟨_, rfl⟩
  have HL := Lib.hid hch
  have HN := Lib.hid hnl
  have HE := Lib.hid hen
  have HNE := Lib.hid hne
  rw [hnl, hne]
  rw [hnl] at hn
  clear hL hLl hch hen hnl hne hcal
  have hrb : ∀ q ∈ L, intBd q.code := by
    rw [← HLQ.out]
    obtain ⟨b0, b1, b2, b3, b4, b5, b6, b7, b8, b9, b10, b11, b12, b13, b14⟩ := hro
    intro q hq
    simp only [rolesL, List.mem_cons, List.not_mem_nil, or_false] at hq
    rcases hq with rfl | rfl | rfl | rfl | rfl | rfl | rfl | rfl | rfl | rfl | rfl | rfl | rfl | rfl | rfl <;> assumption
  have HRB := Lib.hid hrb
  clear hrb hro
  show Calls Try.prog 75 #[.agg #[.string cur, .int .i64 y, .int .i64 m, .int .i64 p, .slice Ac n cc, .int .i64 r0, .int .i64 r1, .int .i64 r2, .int .i64 r3, .int .i64 r4, .int .i64 r5, .int .i64 r6, .int .i64 r7, .int .i64 r8, .int .i64 r9, .int .i64 r10, .int .i64 r11, .int .i64 r12, .int .i64 r13, .int .i64 r14, .slice Ae ne ce]] w (Quiet w (.bool r))
  go_enter Try.func75, Try.ntmps75
  go_upto_region 1 with fail
  have H := heap_alloc_new w (.cells #[.string cur, .int .i64 y, .int .i64 m, .int .i64 p, .slice Ac n cc, .int .i64 r0, .int .i64 r1, .int .i64 r2, .int .i64 r3, .int .i64 r4, .int .i64 r5, .int .i64 r6, .int .i64 r7, .int .i64 r8, .int .i64 r9, .int .i64 r10, .int .i64 r11, .int .i64 r12, .int .i64 r13, .int .i64 r14, .slice Ae ne ce] 29)
  have HB := below1 w (.cells #[.string cur, .int .i64 y, .int .i64 m, .int .i64 p, .slice Ac n cc, .int .i64 r0, .int .i64 r1, .int .i64 r2, .int .i64 r3, .int .i64 r4, .int .i64 r5, .int .i64 r6, .int .i64 r7, .int .i64 r8, .int .i64 r9, .int .i64 r10, .int .i64 r11, .int .i64 r12, .int .i64 r13, .int .i64 r14, .slice Ae ne ce] 29)
  have HS : w.heap.size < (w.alloc (.cells #[.string cur, .int .i64 y, .int .i64 m, .int .i64 p, .slice Ac n cc, .int .i64 r0, .int .i64 r1, .int .i64 r2, .int .i64 r3, .int .i64 r4, .int .i64 r5, .int .i64 r6, .int .i64 r7, .int .i64 r8, .int .i64 r9, .int .i64 r10, .int .i64 r11, .int .i64 r12, .int .i64 r13, .int .i64 r14, .slice Ae ne ce] 29)).heap.size := blk_lt H
  generalize hW : w.alloc (Obj.cells #[.string cur, .int .i64 y, .int .i64 m, .int .i64 p, .slice Ac n cc, .int .i64 r0, .int .i64 r1, .int .i64 r2, .int .i64 r3, .int .i64 r4, .int .i64 r5, .int .i64 r6, .int .i64 r7, .int .i64 r8, .int .i64 r9, .int .i64 r10, .int .i64 r11, .int .i64 r12, .int .i64 r13, .int .i64 r14, .slice Ae ne ce] 29) = W at *
  clear hW
  have d0 := blk_cell H 0
  have HATG := Lib.hid (box_at (cs := grpL cur y m p Ac n cc r0 r1 r2 r3 r4 r5 r6 r7 r8 r9 r10 r11 r12 r13 r14 Ae ne ce) H)
  have HAT := Lib.hid ((box_at (cs := [.string cur, .int .i64 y, .int .i64 m, .int .i64 p, .slice Ac n cc] ++ ([.int .i64 r0, .int .i64 r1, .int .i64 r2, .int .i64 r3, .int .i64 r4, .int .i64 r5, .int .i64 r6, .int .i64 r7, .int .i64 r8, .int .i64 r9, .int .i64 r10, .int .i64 r11, .int .i64 r12, .int .i64 r13, .int .i64 r14] ++ [.slice Ae ne ce])) H).split.2.split.1)
  have HH0 := Lib.hid H
  clear H
  go_wp2_with fail
  refine (rCurrency_c cur W hcs).mono ?_
  rintro e w2 ⟨rfl, hb2⟩
  have hbb := HB.trans (hb2.mono HB.size)
  have hs2 := hb2.size
  cases hc : curB cur with
  | false =>
    have hf := Lib.hid (show r = false by rw [← HR.out, hc]; rfl)
    clear hc
    go_wp2_with fail
    go_ret
    exact ⟨by rw [hf.out]; first | done | rfl, hbb⟩
  | true =>
  have HC1 := Lib.hid hc
  have G2 := (hb2.block _ HS).trans HH0.out
  have e1 := blk_cell G2 1
  have e2 := blk_cell G2 2
  have e3 := blk_cell G2 3
  clear hc d0
  go_wp2_with fail
  refine (rcalValid_c y m p w2).mono ?_
  rintro e w3 ⟨rfl, hb3⟩
  have hbc := hbb.trans (hb3.mono hbb.size)
  have hs3 := hb3.size
  cases hc : calB y m p with
  | false =>
    have hf := Lib.hid (show r = false by rw [← HR.out, hc, Bool.and_false]; rfl)
    clear hc
    go_wp2_with fail
    go_ret
    exact ⟨by rw [hf.out]; first | done | rfl, hbc⟩
  | true =>
  have HC2 := Lib.hid hc
  have G3 := (hb3.block _ (by omega)).trans G2
  have e4 := blk_cell G3 4
  clear hc e1 e2 e3 G2
  go_wp2_with fail
  have hcall := rchartValid_c ch Ac cc true w3 (chart_keep HL.out hbc) (by rw [HN.out]; exact hn)
  rw [HN.out, ← chart_both] at hcall
  refine hcall.mono ?_
  clear hcall
  rintro e w4 ⟨rfl, hb4⟩
  have hbd := hbc.trans (hb4.mono hbc.size)
  have hs4 := hb4.size
  cases hc : chartB ch true with
  | false =>
    have hf := Lib.hid (show r = false by rw [← HR.out]; unfold accountsB; rw [hc]; simp)
    clear hc
    go_wp2_with fail
    go_ret
    exact ⟨by rw [hf.out]; first | done | rfl, hbd⟩
  | true =>
  have HC3 := Lib.hid hc
  have HG4 := Lib.hid ((hb4.block _ (by omega)).trans G3)
  have HW4 := Lib.hid (hb2.trans ((hb3.mono hs2).trans (hb4.mono (by omega))))
  clear hc e4 G3
  go_wp2_with fail
  go_loopw [3] (fun i wr => ∃ k : Nat, k ≤ n ∧ i = .int .i64 (k : Int) ∧ Below w4.heap.size w4 wr ∧ ∀ j (hj : j < ch.length), j < k → basedB ch[j] = true) (fun i _ => n - (intOf i).toNat)
  case atStart => exact ⟨0, by omega, rfl, Below.refl _ _, fun j hj h => by omega⟩
  case round =>
    obtain ⟨k, hk, rfl, hb, hall⟩ := hrel
    have HA := Lib.hid hall
    clear hall
    have hsz := hb.size
    have hwr := hbd.trans (hb.mono hbd.size)
    have GR := (hb.block w.heap.size (by omega)).trans HG4.out
    have e4 := blk_cell GR 4
    by_cases hlt : k < n
    case pos =>
      have hltI : (k : Int) < (n : Int) := by omega
      have hkl : k < ch.length := by rw [HN.out]; exact hlt
      clear GR
      obtain ⟨b, o, es1, hAe, hbw, hes, hat⟩ := ListC.get HL.out k hkl
      subst hAe
      obtain ⟨hes1, hb1, hb2', hb3', hb4'⟩ := AccountC.lit hes
      rw [hes1] at hat
      obtain ⟨ac, hac⟩ : ∃ ac, ch[k] = ac := ⟨_, rfl⟩
      rw [hac] at hat
      have HAC := Lib.hid hac
      have HAR := Lib.hid ((hat.fr (Fr.ofBelow hwr)).range)
      clear hes hes1 hat hac hb1 hb2' hb3' hb4'
      go_wp2_with (show wpList _ _ _ (Oper.mk (some 36) _ _ _ _ _ :: _) _ _; refine wpList_load_mid rfl 157 (.tmp 35) rfl b (o + k * 4) rfl (accL ac) _ HAR.out Try.underlying157 rfl (info_accL _) ?_)
      refine (rbasis_c ac wr).mono ?_
      rintro e w5 ⟨rfl, hb5⟩
      cases hp : basedB ac with
      | false =>
        have hf := Lib.hid (show r = false by
          rw [← HR.out]; unfold accountsB
          rw [List.all_eq_false.2 ⟨ac, by rw [← HAC.out]; exact List.getElem_mem hkl, by rw [hp]; decide⟩]; simp)
        clear hp
        go_wp2_with fail
        go_ret
        exact ⟨by rw [hf.out]; first | done | rfl, hwr.trans (hb5.mono hwr.size)⟩
      | true =>
        have HP := Lib.hid hp
        clear hp
        go_wp2_with fail
        go_roundw
        case rel => exact ⟨k + 1, by omega, by go_num, hb.trans (hb5.mono hb.size), fun j hj hjk => by
          rcases Nat.lt_or_ge j k with h | h
          · exact HA.out j hj h
          · have : j = k := by omega
            subst this
            rw [HAC.out]
            exact HP.out⟩
        case measure => first | exact meas_v hlt | (simp only [intOf]; omega)
    case neg =>
      have hltI : ¬ (k : Int) < (n : Int) := by omega
      have HD := Lib.hid (show ch.all basedB = true by
        rw [List.all_eq_true]
        intro x hx
        obtain ⟨j, hj, rfl⟩ := List.getElem_of_mem hx
        exact HA.out j hj (by have := HN.out; omega))
      have HRR := Lib.hid (((HAT.out.fr (Fr.ofBelow HW4.out)).fr ((Fr.ofBelow hb).mono (fun k (hk : k < W.heap.size) => by have := HW4.out.size; omega))).range)
      have HGW := Lib.hid GR
      clear GR
      go_wp2_with (show wpList _ _ _ (Oper.mk (some 40) _ _ _ _ _ :: _) _ _; refine wpList_load_mid rfl 26 (.tmp 39) rfl w.heap.size 5 rfl [.int .i64 r0, .int .i64 r1, .int .i64 r2, .int .i64 r3, .int .i64 r4, .int .i64 r5, .int .i64 r6, .int .i64 r7, .int .i64 r8, .int .i64 r9, .int .i64 r10, .int .i64 r11, .int .i64 r12, .int .i64 r13, .int .i64 r14] _ HRR.out Try.underlying26 rfl info_roles ?_)
      refine (rRoles_c r0 r1 r2 r3 r4 r5 r6 r7 r8 r9 r10 r11 r12 r13 r14 wr).mono ?_
      rintro e w5 ⟨v, rfl, ⟨A, c, rfl⟩, hrl, hb5⟩
      rw [HLQ.out] at hrl
      have HROL := Lib.hid (show ListC RoleC 5 w5 (fun k => wr.heap.size ≤ k ∧ k < w5.heap.size) [.slice A L.length c] L by rw [HLL.out]; exact hrl)
      have hs5 := hb5.size
      have HB5 := Lib.hid (hwr.trans (hb5.mono hwr.size))
      have HG5 := Lib.hid ((hb5.block _ (by omega)).trans HGW.out)
      have HAT5 := Lib.hid ((((HATG.out.fr (Fr.ofBelow HW4.out)).fr ((Fr.ofBelow hb).mono (fun k (hk : k < W.heap.size) => by have := HW4.out.size; omega))).fr ((Fr.ofBelow hb5).mono (fun k (hk : k < W.heap.size) => by have := HW4.out.size; omega))).mono (Q' := (· < w5.heap.size)) (fun k (hk : k < W.heap.size) => by have := HW4.out.size; omega))
      clear hrl e4
      go_wp2_with fail
      go_loopw [5] (fun i wr => ∃ k : Nat, k ≤ 15 ∧ i = .int .i64 (k : Int) ∧ Below w5.heap.size w5 wr ∧ ∀ j, j < k → roleRow ch L j = true) (fun i _ => 15 - (intOf i).toNat)
      case atStart => exact ⟨0, by omega, rfl, Below.refl _ _, fun j hj => by omega⟩
      case round =>
        rename_i K1 K2 K3 K4 K5 K6
        obtain ⟨k, hk, rfl, hb, hall⟩ := hrel
        have HA := Lib.hid hall
        clear hall
        have hsz := hb.size
        have HBW := Lib.hid (HB5.out.trans (hb.mono HB5.out.size))
        by_cases hlt : k < 15
        case pos =>
          have hltI : (k : Int) < 15 := by omega
          have hkl : k < L.length := by rw [HLL.out]; exact hlt
          obtain ⟨b, o, hAe, hbw, hel⟩ := ListC.base HROL.out (by omega)
          subst hAe
          obtain ⟨es1, hes, hat⟩ := hel k hkl
          have HEL := Lib.hid hel
          obtain ⟨q, hq⟩ : ∃ q, L[k] = q := ⟨_, rfl⟩
          have hqb := HRB.out _ (List.getElem_mem hkl)
          rw [hq] at hes hqb
          have HQ := Lib.hid (show L[k]? = some q by rw [List.getElem?_eq_getElem hkl, hq])
          have hqe := Lib.hid hq
          obtain ⟨qn, qc, qk, qb, qm⟩ := q
          have HQB := Lib.hid hqb
          obtain ⟨hqb1, hqb2⟩ := hqb
          have hes1 : es1 = [.string qn, .int .i64 qc, .int .i64 qk, .int .i64 qb, .bool qm] := hes
          subst hes1
          have hat2 := hat.fr ((Fr.ofBelow hb).mono (fun k hk => hk.2))
          have KC := Lib.hid (hat2.c (j := 1) rfl)
          have K2 := Lib.hid (hat2.c (j := 2) rfl)
          have K3 := Lib.hid (hat2.c (j := 3) rfl)
          have HBV := Lib.hid (show b < wr.heap.size by have := hbw.2; omega)
          have HATW := Lib.hid ((HAT5.out.fr (Fr.ofBelow hb)).mono (Q' := (· < wr.heap.size)) (fun k (hk : k < w5.heap.size) => by omega))
          clear hes hat hat2 hq hel
          cases ha : findA ch qc with
          | none =>
            have HFV := Lib.hid (show findV ch qc = .tuple #[.agg #[.int .i64 0, .int .i64 0, .int .i64 0, .int .i64 0], .bool false] from findV_none ha)
            have hf := Lib.hid (show r = false by rw [← HR.out, acc_roles (r := ⟨r0, r1, r2, r3, r4, r5, r6, r7, r8, r9, r10, r11, r12, r13, r14⟩) (L := L) HLQ.out hkl (row_none HQ.out ha), Bool.and_false])
            clear ha
            go_upto_region 12 with fail
            refine wp_region_inv6 11 (fun i => i == 9) (Ks wr [.val (.agg (grpL cur y m p Ac n cc r0 r1 r2 r3 r4 r5 r6 r7 r8 r9 r10 r11 r12 r13 r14 Ae ne ce).toArray), .val (.slice (some ⟨b, o, none⟩) 15 c), .val (.int .i64 (k : Int)), .val (.pointer (some ⟨b, o + k * 5, none⟩)), .val (.pointer (some ⟨b, o + k * 5 + 1, none⟩)), .val (.int .i64 qc), .val (.tuple #[.agg #[.int .i64 0, .int .i64 0, .int .i64 0, .int .i64 0], .bool false]), .val (.tuple #[.agg #[.int .i64 0, .int .i64 0, .int .i64 0, .int .i64 0], .bool false]), .val (.agg #[.int .i64 0, .int .i64 0, .int .i64 0, .int .i64 0]), .val (.bool false), .own (IsNew wr #[.int .i64 0, .int .i64 0, .int .i64 0, .int .i64 0] 157) (IsNew.keep _ _ _)])
              (fun w' => Below wr.heap.size wr w') (Ks wr [.val (.agg (grpL cur y m p Ac n cc r0 r1 r2 r3 r4 r5 r6 r7 r8 r9 r10 r11 r12 r13 r14 Ae ne ce).toArray), .val (.slice (some ⟨b, o, none⟩) 15 c), .val (.int .i64 (k : Int)), .val (.pointer (some ⟨b, o + k * 5, none⟩)), .val (.pointer (some ⟨b, o + k * 5 + 1, none⟩)), .val (.int .i64 qc), .val (.tuple #[.agg #[.int .i64 0, .int .i64 0, .int .i64 0, .int .i64 0], .bool false]), .val (.tuple #[.agg #[.int .i64 0, .int .i64 0, .int .i64 0, .int .i64 0], .bool false]), .val (.agg #[.int .i64 0, .int .i64 0, .int .i64 0, .int .i64 0]), .val (.bool false), .own (IsNew wr #[.int .i64 0, .int .i64 0, .int .i64 0, .int .i64 0] 157) (IsNew.keep _ _ _)])
              (fun w' => Below wr.heap.size wr w') (by kernel_rfl) (by kernel_rfl) (by kernel_rfl) (by decide) (by kernel_rfl) (by kernel_rfl) (by kernel_rfl) (by kernel_rfl) rfl (by kernel_rfl) _ rfl rfl (Below.refl _ _).drew ?_ ?_ ?_ ?_
            · refine ⟨?_, ?_, ?_, ?_, ?_, ?_, ?_, ?_, ?_, ?_, ?_, trivial⟩
              · intro listed A0 w2 hI hd hnd K hK
                have e0 := hI.slot hnd 1 _ rfl (by kernel_rfl)
                have hS := hI.world
                have hrange : w2.rangeAt w.heap.size 0 (grpL cur y m p Ac n cc r0 r1 r2 r3 r4 r5 r6 r7 r8 r9 r10 r11 r12 r13 r14 Ae ne ce) := (HATW.out.fr (Fr.ofBelow hS)).range
                have hisize : (Try.prog.info? 29).map (·.size) = some (grpL cur y m p Ac n cc r0 r1 r2 r3 r4 r5 r6 r7 r8 r9 r10 r11 r12 r13 r14 Ae ne ce).length := info_group
                refine wanted_go rfl ?_
                clear hI hd hnd
                refine wp_load_mid 29 (.tmp 1) rfl _ _ (by simpa [Act.eval, Array.getD_eq_getD_getElem?] using e0) _ _ hrange Try.underlying29 rfl hisize ?_
                exact hK.out _ _ hS (Ks.of rfl rfl) (fun _ _ h => h)
              · intro listed A0 w2 hI hd hnd K hK
                have e0 := hI.slot hnd 4 _ rfl (by kernel_rfl)
                have hS := hI.world
                refine wanted_go rfl ?_
                clear hI hd hnd
                go_simp
                exact hK.out _ _ hS (Ks.of rfl rfl) (fun _ _ h => h)
              · intro listed A0 w2 hI hd hnd K hK
                have e0 := hI.slot hnd 5 _ rfl (by kernel_rfl)
                have hS := hI.world
                refine wanted_go rfl ?_
                clear hI hd hnd
                go_simp
                exact hK.out _ _ hS (Ks.of rfl rfl) (fun _ _ h => h)
              · intro listed A0 w2 hI hd hnd K hK
                have e0 := hI.depv hd 1 50 _ rfl rfl rfl (by kernel_rfl)
                have e1 := hI.depv hd 2 51 _ rfl rfl rfl (by kernel_rfl)
                have hS := hI.world
                refine wanted_go rfl ?_
                clear hI hd hnd
                go_simp
                exact hK.out _ _ hS (Ks.of rfl rfl) (fun _ _ h => h)
              · intro listed A0 w2 hI hd hnd K hK
                have e0 := hI.depv hd 3 52 _ rfl rfl rfl (by kernel_rfl)
                have hS := hI.world
                refine wanted_go rfl ?_
                clear hI hd hnd
                go_simp
                exact hK.out _ _ hS (Ks.of rfl rfl) (fun _ _ h => h)
              · intro listed A0 w2 hI hd hnd K hK
                have e0 := hI.depv hd 4 53 _ rfl rfl rfl (by kernel_rfl)
                have hS := hI.world
                have hcc : w2.cell? ⟨b, o + k * 5 + 1, none⟩ = _ := (hS.cell (p := ⟨b, o + k * 5 + 1, none⟩) HBV.out).trans KC.out
                refine wanted_go rfl ?_
                clear hI hd hnd
                go_simp
                exact hK.out _ _ hS (Ks.of rfl rfl) (fun _ _ h => h)
              · intro listed A0 w2 hI hd hnd K hK
                have e0 := hI.depv hd 0 49 _ rfl rfl rfl (by kernel_rfl)
                have e1 := hI.depv hd 5 54 _ rfl rfl rfl (by kernel_rfl)
                have hS := hI.world
                refine wanted_go rfl ?_
                clear hI hd hnd
                go_simp
                go_at_call 129
                refine (rAccount_n HN.out HNE.out (GroupC.keep HGC.out (HBW.out.trans (hS.mono HBW.out.size))) HNN.out qc HQB.out).mono ?_
                rintro e w3 ⟨rfl, h3⟩
                exact hK.out _ _ (hS.trans (h3.mono hS.size)) (Ks.of rfl HFV.out) (Ks.keep h3)
              · intro listed A0 w2 hI hd hnd K hK
                have e0 := hI.depv hd 6 55 _ rfl rfl rfl (by kernel_rfl)
                have hS := hI.world
                refine wanted_go rfl ?_
                clear hI hd hnd
                go_simp
                exact hK.out _ _ hS (Ks.of rfl rfl) (fun _ _ h => h)
              · intro listed A0 w2 hI hd hnd K hK
                have e0 := hI.depv hd 7 48 _ rfl rfl rfl (by kernel_rfl)
                have hS := hI.world
                refine wanted_go rfl ?_
                clear hI hd hnd
                go_simp
                exact hK.out _ _ hS (Ks.of rfl rfl) (fun _ _ h => h)
              · intro listed A0 w2 hI hd hnd K hK
                have e0 := hI.depv hd 7 48 _ rfl rfl rfl (by kernel_rfl)
                have hS := hI.world
                refine wanted_go rfl ?_
                clear hI hd hnd
                go_simp
                exact hK.out _ _ hS (Ks.of rfl rfl) (fun _ _ h => h)
              · intro listed A0 w2 hI hd hnd K hK
                have hS := hI.world
                refine wanted_go rfl ?_
                clear hI hd hnd
                go_simp
                exact hK.out _ _ (hS.alloc hS.size _) (Ks.of rfl (IsNew.made hS.size _ _)) (Ks.keep (below1 w2 _))
            · intro listed A0 w2 hI hall K hK
              obtain ⟨xp, gp, hp⟩ := hI.got 10 _ 6 rfl rfl (hall 10 (by decide) rfl)
              obtain ⟨xv, gv, hv⟩ := hI.got 8 _ 56 rfl rfl (hall 8 (by decide) rfl)
              obtain ⟨g, rfl, hg1, hg2⟩ := hp _ rfl
              obtain rfl : xv = .agg #[.int .i64 0, .int .i64 0, .int .i64 0, .int .i64 0] := hv _ rfl
              have hS := hI.world
              refine wanted_go rfl ?_
              refine wp_store_row 157 (.tmp 6) (.tmp 56) rfl g #[.int .i64 0, .int .i64 0, .int .i64 0, .int .i64 0] (by simp [Act.eval, Array.getD_eq_getD_getElem?, gp]) (by simp [Act.eval, Array.getD_eq_getD_getElem?, gv]) 157 #[.int .i64 0, .int .i64 0, .int .i64 0, .int .i64 0] hg2 (info_accS ⟨0, 0, 0, 0⟩) rfl (by simp [Value.oneCell']) ?_
              refine hK _ (below_setRow hS hg1 _) ?_
              intro i o d u hi ho hd hu hV
              refine Ks.store (p := 10) (kn := _) rfl hV (fun hip => ?_)
              subst hip
              obtain rfl : _ = o := Option.some.inj ho
              obtain rfl : _ = d := Option.some.inj hd
              obtain rfl : _ = u := Option.some.inj (gp.symm.trans hu)
              exact ⟨g, rfl, hg1, heap_setRow hg2 _⟩
            · refine ⟨fun h => absurd h (by decide), fun h => absurd h (by decide), fun h => absurd h (by decide), fun h => absurd h (by decide), fun h => absurd h (by decide), fun h => absurd h (by decide), fun h => absurd h (by decide), fun h => absurd h (by decide), fun h => absurd h (by decide), ?_, fun h => absurd h (by decide), fun h => absurd h (by decide), trivial⟩
              · intro _
                intro listed A0 w2 hI hd hnd K hK
                have e0 := hI.depv hd 7 48 _ rfl rfl rfl (by kernel_rfl)
                have hS := hI.world
                refine wanted_go rfl ?_
                clear hI hd hnd
                go_simp
                exact hK.out _ _ hS (Ks.of rfl rfl) (fun _ _ h => h)
            · intro A0 w2 hI
              obtain ⟨x0, g0, h0⟩ := hI.got 0 _ 49 rfl rfl rfl
              obtain ⟨x1, g1, h1⟩ := hI.got 1 _ 50 rfl rfl rfl
              obtain ⟨x2, g2, h2⟩ := hI.got 2 _ 51 rfl rfl rfl
              obtain ⟨x3, g3, h3⟩ := hI.got 3 _ 52 rfl rfl rfl
              obtain ⟨x4, g4, h4⟩ := hI.got 4 _ 53 rfl rfl rfl
              obtain ⟨x5, g5, h5⟩ := hI.got 5 _ 54 rfl rfl rfl
              obtain ⟨x6, g6, h6⟩ := hI.got 6 _ 55 rfl rfl rfl
              obtain ⟨x7, g7, h7⟩ := hI.got 7 _ 48 rfl rfl rfl
              obtain ⟨x8, g8, h8⟩ := hI.got 8 _ 56 rfl rfl rfl
              obtain ⟨x9, g9, h9⟩ := hI.got 9 _ 57 rfl rfl rfl
              obtain ⟨x10, g10, h10⟩ := hI.got 10 _ 6 rfl rfl rfl
              have hS := hI.world
              obtain ⟨y7, o7⟩ : ∃ v, A0.tmps[7]? = some v := ⟨_, hI.oldHead 7 (by kernel_rfl)⟩
              have hA : A0 = _ := hI.tmps [(49, x0), (50, x1), (51, x2), (52, x3), (53, x4), (54, x5), (55, x6), (48, x7), (56, x8), (57, x9), (6, x10), (7, y7)] (by simp only [List.mem_cons, List.not_mem_nil, or_false, forall_eq_or_imp, forall_eq]; exact ⟨g0, g1, g2, g3, g4, g5, g6, g7, g8, g9, g10, o7⟩) (by kernel_rfl)
              obtain rfl : x8 = .agg #[.int .i64 0, .int .i64 0, .int .i64 0, .int .i64 0] := h8 _ rfl
              obtain rfl : x9 = .bool false := h9 _ rfl
              obtain ⟨g, rfl, hg1, hg2⟩ := h10 _ rfl
              clear h0 g0 h1 g1 h2 g2 h3 g3 h4 g4 h5 g5 h6 g6 h7 g7 h8 g8 h9 g9 h10 g10 o7 hI
              simp only [setAll, List.foldl, List.setIfInBounds_toArray, List.set_cons_zero, List.set_cons_succ] at hA
              rw [hA]
              clear hA
              simp only [List.drop_succ_cons, List.drop_zero]
              have HNEW := Lib.hid hg2
              have HB5 := hS
              have HS5 := hS.size
              go_upto_region 13 with fail
              have g1 := blk_cell HNEW.out 1
              have g2 := blk_cell HNEW.out 2
              have f2 := (HB5.cell (p := ⟨b, o + k * 5 + 2, none⟩) HBV.out).trans K2.out
              have f3 := (HB5.cell (p := ⟨b, o + k * 5 + 3, none⟩) HBV.out).trans K3.out
              have hw5 := HBW.out.trans (HB5.mono HBW.out.size)
              clear hg2
              go_wp2_with fail
              go_quiet (fail)
              go_wp2_with fail
              go_ret
              exact ⟨by rw [hf.out]; first | done | rfl, ((Fr.ofBelow hw5).drewN _).below⟩
          | some pa =>
            have HROW := Lib.hid ha
            have hfv := findV_some ha
            clear ha
            obtain ⟨p1, p2, p3, p4⟩ := pa
            have HFV := Lib.hid (show findV ch qc = .tuple #[.agg #[.int .i64 p1, .int .i64 p2, .int .i64 p3, .int .i64 p4], .bool true] from hfv)
            clear hfv
            go_upto_region 12 with fail
            refine wp_region_inv6 11 (fun i => i == 9) (Ks wr [.val (.agg (grpL cur y m p Ac n cc r0 r1 r2 r3 r4 r5 r6 r7 r8 r9 r10 r11 r12 r13 r14 Ae ne ce).toArray), .val (.slice (some ⟨b, o, none⟩) 15 c), .val (.int .i64 (k : Int)), .val (.pointer (some ⟨b, o + k * 5, none⟩)), .val (.pointer (some ⟨b, o + k * 5 + 1, none⟩)), .val (.int .i64 qc), .val (.tuple #[.agg #[.int .i64 p1, .int .i64 p2, .int .i64 p3, .int .i64 p4], .bool true]), .val (.tuple #[.agg #[.int .i64 p1, .int .i64 p2, .int .i64 p3, .int .i64 p4], .bool true]), .val (.agg #[.int .i64 p1, .int .i64 p2, .int .i64 p3, .int .i64 p4]), .val (.bool true), .own (IsNew wr #[.int .i64 0, .int .i64 0, .int .i64 0, .int .i64 0] 157) (IsNew.keep _ _ _)])
              (fun w' => Below wr.heap.size wr w') (Ks wr [.val (.agg (grpL cur y m p Ac n cc r0 r1 r2 r3 r4 r5 r6 r7 r8 r9 r10 r11 r12 r13 r14 Ae ne ce).toArray), .val (.slice (some ⟨b, o, none⟩) 15 c), .val (.int .i64 (k : Int)), .val (.pointer (some ⟨b, o + k * 5, none⟩)), .val (.pointer (some ⟨b, o + k * 5 + 1, none⟩)), .val (.int .i64 qc), .val (.tuple #[.agg #[.int .i64 p1, .int .i64 p2, .int .i64 p3, .int .i64 p4], .bool true]), .val (.tuple #[.agg #[.int .i64 p1, .int .i64 p2, .int .i64 p3, .int .i64 p4], .bool true]), .val (.agg #[.int .i64 p1, .int .i64 p2, .int .i64 p3, .int .i64 p4]), .val (.bool true), .own (IsNew wr #[.int .i64 p1, .int .i64 p2, .int .i64 p3, .int .i64 p4] 157) (IsNew.keep _ _ _)])
              (fun w' => Below wr.heap.size wr w') (by kernel_rfl) (by kernel_rfl) (by kernel_rfl) (by decide) (by kernel_rfl) (by kernel_rfl) (by kernel_rfl) (by kernel_rfl) rfl (by kernel_rfl) _ rfl rfl (Below.refl _ _).drew ?_ ?_ ?_ ?_
            · refine ⟨?_, ?_, ?_, ?_, ?_, ?_, ?_, ?_, ?_, ?_, ?_, trivial⟩
              · intro listed A0 w2 hI hd hnd K hK
                have e0 := hI.slot hnd 1 _ rfl (by kernel_rfl)
                have hS := hI.world
                have hrange : w2.rangeAt w.heap.size 0 (grpL cur y m p Ac n cc r0 r1 r2 r3 r4 r5 r6 r7 r8 r9 r10 r11 r12 r13 r14 Ae ne ce) := (HATW.out.fr (Fr.ofBelow hS)).range
                have hisize : (Try.prog.info? 29).map (·.size) = some (grpL cur y m p Ac n cc r0 r1 r2 r3 r4 r5 r6 r7 r8 r9 r10 r11 r12 r13 r14 Ae ne ce).length := info_group
                refine wanted_go rfl ?_
                clear hI hd hnd
                refine wp_load_mid 29 (.tmp 1) rfl _ _ (by simpa [Act.eval, Array.getD_eq_getD_getElem?] using e0) _ _ hrange Try.underlying29 rfl hisize ?_
                exact hK.out _ _ hS (Ks.of rfl rfl) (fun _ _ h => h)
              · intro listed A0 w2 hI hd hnd K hK
                have e0 := hI.slot hnd 4 _ rfl (by kernel_rfl)
                have hS := hI.world
                refine wanted_go rfl ?_
                clear hI hd hnd
                go_simp
                exact hK.out _ _ hS (Ks.of rfl rfl) (fun _ _ h => h)
              · intro listed A0 w2 hI hd hnd K hK
                have e0 := hI.slot hnd 5 _ rfl (by kernel_rfl)
                have hS := hI.world
                refine wanted_go rfl ?_
                clear hI hd hnd
                go_simp
                exact hK.out _ _ hS (Ks.of rfl rfl) (fun _ _ h => h)
              · intro listed A0 w2 hI hd hnd K hK
                have e0 := hI.depv hd 1 50 _ rfl rfl rfl (by kernel_rfl)
                have e1 := hI.depv hd 2 51 _ rfl rfl rfl (by kernel_rfl)
                have hS := hI.world
                refine wanted_go rfl ?_
                clear hI hd hnd
                go_simp
                exact hK.out _ _ hS (Ks.of rfl rfl) (fun _ _ h => h)
              · intro listed A0 w2 hI hd hnd K hK
                have e0 := hI.depv hd 3 52 _ rfl rfl rfl (by kernel_rfl)
                have hS := hI.world
                refine wanted_go rfl ?_
                clear hI hd hnd
                go_simp
                exact hK.out _ _ hS (Ks.of rfl rfl) (fun _ _ h => h)
              · intro listed A0 w2 hI hd hnd K hK
                have e0 := hI.depv hd 4 53 _ rfl rfl rfl (by kernel_rfl)
                have hS := hI.world
                have hcc : w2.cell? ⟨b, o + k * 5 + 1, none⟩ = _ := (hS.cell (p := ⟨b, o + k * 5 + 1, none⟩) HBV.out).trans KC.out
                refine wanted_go rfl ?_
                clear hI hd hnd
                go_simp
                exact hK.out _ _ hS (Ks.of rfl rfl) (fun _ _ h => h)
              · intro listed A0 w2 hI hd hnd K hK
                have e0 := hI.depv hd 0 49 _ rfl rfl rfl (by kernel_rfl)
                have e1 := hI.depv hd 5 54 _ rfl rfl rfl (by kernel_rfl)
                have hS := hI.world
                refine wanted_go rfl ?_
                clear hI hd hnd
                go_simp
                go_at_call 129
                refine (rAccount_n HN.out HNE.out (GroupC.keep HGC.out (HBW.out.trans (hS.mono HBW.out.size))) HNN.out qc HQB.out).mono ?_
                rintro e w3 ⟨rfl, h3⟩
                exact hK.out _ _ (hS.trans (h3.mono hS.size)) (Ks.of rfl HFV.out) (Ks.keep h3)
              · intro listed A0 w2 hI hd hnd K hK
                have e0 := hI.depv hd 6 55 _ rfl rfl rfl (by kernel_rfl)
                have hS := hI.world
                refine wanted_go rfl ?_
                clear hI hd hnd
                go_simp
                exact hK.out _ _ hS (Ks.of rfl rfl) (fun _ _ h => h)
              · intro listed A0 w2 hI hd hnd K hK
                have e0 := hI.depv hd 7 48 _ rfl rfl rfl (by kernel_rfl)
                have hS := hI.world
                refine wanted_go rfl ?_
                clear hI hd hnd
                go_simp
                exact hK.out _ _ hS (Ks.of rfl rfl) (fun _ _ h => h)
              · intro listed A0 w2 hI hd hnd K hK
                have e0 := hI.depv hd 7 48 _ rfl rfl rfl (by kernel_rfl)
                have hS := hI.world
                refine wanted_go rfl ?_
                clear hI hd hnd
                go_simp
                exact hK.out _ _ hS (Ks.of rfl rfl) (fun _ _ h => h)
              · intro listed A0 w2 hI hd hnd K hK
                have hS := hI.world
                refine wanted_go rfl ?_
                clear hI hd hnd
                go_simp
                exact hK.out _ _ (hS.alloc hS.size _) (Ks.of rfl (IsNew.made hS.size _ _)) (Ks.keep (below1 w2 _))
            · intro listed A0 w2 hI hall K hK
              obtain ⟨xp, gp, hp⟩ := hI.got 10 _ 6 rfl rfl (hall 10 (by decide) rfl)
              obtain ⟨xv, gv, hv⟩ := hI.got 8 _ 56 rfl rfl (hall 8 (by decide) rfl)
              obtain ⟨g, rfl, hg1, hg2⟩ := hp _ rfl
              obtain rfl : xv = .agg #[.int .i64 p1, .int .i64 p2, .int .i64 p3, .int .i64 p4] := hv _ rfl
              have hS := hI.world
              refine wanted_go rfl ?_
              refine wp_store_row 157 (.tmp 6) (.tmp 56) rfl g #[.int .i64 p1, .int .i64 p2, .int .i64 p3, .int .i64 p4] (by simp [Act.eval, Array.getD_eq_getD_getElem?, gp]) (by simp [Act.eval, Array.getD_eq_getD_getElem?, gv]) 157 #[.int .i64 0, .int .i64 0, .int .i64 0, .int .i64 0] hg2 (info_accS ⟨p1, p2, p3, p4⟩) rfl (by simp [Value.oneCell']) ?_
              refine hK _ (below_setRow hS hg1 _) ?_
              intro i o d u hi ho hd hu hV
              refine Ks.store (p := 10) (kn := _) rfl hV (fun hip => ?_)
              subst hip
              obtain rfl : _ = o := Option.some.inj ho
              obtain rfl : _ = d := Option.some.inj hd
              obtain rfl : _ = u := Option.some.inj (gp.symm.trans hu)
              exact ⟨g, rfl, hg1, heap_setRow hg2 _⟩
            · refine ⟨fun h => absurd h (by decide), fun h => absurd h (by decide), fun h => absurd h (by decide), fun h => absurd h (by decide), fun h => absurd h (by decide), fun h => absurd h (by decide), fun h => absurd h (by decide), fun h => absurd h (by decide), fun h => absurd h (by decide), ?_, fun h => absurd h (by decide), fun h => absurd h (by decide), trivial⟩
              · intro _
                intro listed A0 w2 hI hd hnd K hK
                have e0 := hI.depv hd 7 48 _ rfl rfl rfl (by kernel_rfl)
                have hS := hI.world
                refine wanted_go rfl ?_
                clear hI hd hnd
                go_simp
                exact hK.out _ _ hS (Ks.of rfl rfl) (fun _ _ h => h)
            · intro A0 w2 hI
              obtain ⟨x0, g0, h0⟩ := hI.got 0 _ 49 rfl rfl rfl
              obtain ⟨x1, g1, h1⟩ := hI.got 1 _ 50 rfl rfl rfl
              obtain ⟨x2, g2, h2⟩ := hI.got 2 _ 51 rfl rfl rfl
              obtain ⟨x3, g3, h3⟩ := hI.got 3 _ 52 rfl rfl rfl
              obtain ⟨x4, g4, h4⟩ := hI.got 4 _ 53 rfl rfl rfl
              obtain ⟨x5, g5, h5⟩ := hI.got 5 _ 54 rfl rfl rfl
              obtain ⟨x6, g6, h6⟩ := hI.got 6 _ 55 rfl rfl rfl
              obtain ⟨x7, g7, h7⟩ := hI.got 7 _ 48 rfl rfl rfl
              obtain ⟨x8, g8, h8⟩ := hI.got 8 _ 56 rfl rfl rfl
              obtain ⟨x9, g9, h9⟩ := hI.got 9 _ 57 rfl rfl rfl
              obtain ⟨x10, g10, h10⟩ := hI.got 10 _ 6 rfl rfl rfl
              have hS := hI.world
              obtain ⟨y7, o7⟩ : ∃ v, A0.tmps[7]? = some v := ⟨_, hI.oldHead 7 (by kernel_rfl)⟩
              have hA : A0 = _ := hI.tmps [(49, x0), (50, x1), (51, x2), (52, x3), (53, x4), (54, x5), (55, x6), (48, x7), (56, x8), (57, x9), (6, x10), (7, y7)] (by simp only [List.mem_cons, List.not_mem_nil, or_false, forall_eq_or_imp, forall_eq]; exact ⟨g0, g1, g2, g3, g4, g5, g6, g7, g8, g9, g10, o7⟩) (by kernel_rfl)
              obtain rfl : x8 = .agg #[.int .i64 p1, .int .i64 p2, .int .i64 p3, .int .i64 p4] := h8 _ rfl
              obtain rfl : x9 = .bool true := h9 _ rfl
              obtain ⟨g, rfl, hg1, hg2⟩ := h10 _ rfl
              clear h0 g0 h1 g1 h2 g2 h3 g3 h4 g4 h5 g5 h6 g6 h7 g7 h8 g8 h9 g9 h10 g10 o7 hI
              simp only [setAll, List.foldl, List.setIfInBounds_toArray, List.set_cons_zero, List.set_cons_succ] at hA
              rw [hA]
              clear hA
              simp only [List.drop_succ_cons, List.drop_zero]
              have HNEW := Lib.hid hg2
              have HB5 := hS
              have HS5 := hS.size
              go_upto_region 13 with fail
              have g1 := blk_cell HNEW.out 1
              have g2 := blk_cell HNEW.out 2
              have f2 := (HB5.cell (p := ⟨b, o + k * 5 + 2, none⟩) HBV.out).trans K2.out
              have f3 := (HB5.cell (p := ⟨b, o + k * 5 + 3, none⟩) HBV.out).trans K3.out
              have hw5 := HBW.out.trans (HB5.mono HBW.out.size)
              clear hg2
              by_cases h1 : p2 = qk
              case neg =>
                have h1' : (p2 != qk) = true := by simpa using h1
                have hf := Lib.hid (show r = false by rw [← HR.out, acc_roles (r := ⟨r0, r1, r2, r3, r4, r5, r6, r7, r8, r9, r10, r11, r12, r13, r14⟩) (L := L) HLQ.out hkl (by rw [row_some HQ.out HROW.out, show (p2 == qk) = false from by simpa using h1]; rfl), Bool.and_false])
                go_wp2_with fail
                go_quiet (fail)
                go_wp2_with fail
                go_ret
                exact ⟨by rw [hf.out]; first | done | rfl, ((Fr.ofBelow hw5).drewN _).below⟩
              case pos =>
              have h1' : (p2 != qk) = false := by simpa using h1
              by_cases h2 : p3 = qb
              case neg =>
                have h2' : (p3 != qb) = true := by simpa using h2
                have hf := Lib.hid (show r = false by rw [← HR.out, acc_roles (r := ⟨r0, r1, r2, r3, r4, r5, r6, r7, r8, r9, r10, r11, r12, r13, r14⟩) (L := L) HLQ.out hkl (by rw [row_some HQ.out HROW.out, show (p3 == qb) = false from by simpa using h2, Bool.and_false]; rfl), Bool.and_false])
                go_wp2_with fail
                go_quiet (fail)
                go_wp2_with fail
                go_ret
                exact ⟨by rw [hf.out]; first | done | rfl, ((Fr.ofBelow hw5).drewN _).below⟩
              case pos =>
              have h2' : (p3 != qb) = false := by simpa using h2
              go_wp2_with fail
              go_quiet (fail)
              generalize hW6 : w2.drewN _ = W6
              have HB6 := Lib.hid (show Below wr.heap.size wr W6 from hW6 ▸ ((Fr.ofBelow HB5).drewN _).below)
              clear hW6
              have HSZ6 := HB6.out.size
              go_wp2_with fail
              go_loopw [8] (fun i wi => ∃ j : Nat, j ≤ k ∧ i = .int .i64 (j : Int) ∧ Below W6.heap.size W6 wi ∧ ∀ j' (hj : j' < L.length), j' < j → L[j'].code ≠ qc) (fun i _ => k - (intOf i).toNat)
              case atStart => exact ⟨0, by omega, rfl, Below.refl _ _, fun j hj h => by omega⟩
              case round =>
                obtain ⟨j, hj, rfl, hbi, halli⟩ := hrel
                have HAI := Lib.hid halli
                clear halli
                have hsi := hbi.size
                have HBI := Lib.hid (HB6.out.trans (hbi.mono HSZ6))
                by_cases hjk : j < k
                case pos =>
                  have hjkI : (j : Int) < (k : Int) := by omega
                  have hj15 : (j : Int) < 15 := by omega
                  have hjl : j < L.length := by rw [HLL.out]; omega
                  obtain ⟨es2, hes2, hat2⟩ := HEL.out j hjl
                  obtain ⟨q2, hq2⟩ : ∃ q2, L[j] = q2 := ⟨_, rfl⟩
                  rw [hq2] at hes2
                  have HQ2 := Lib.hid hq2
                  obtain ⟨jn, jc, jk, jb, jm⟩ := q2
                  have hes3 : es2 = [.string jn, .int .i64 jc, .int .i64 jk, .int .i64 jb, .bool jm] := hes2
                  subst hes3
                  have c1 := (hat2.fr ((Fr.ofBelow (hb.trans (HBI.out.mono hsz))).mono (fun k hk => hk.2))).c (j := 1) rfl
                  have c2 := (HBI.out.cell (p := ⟨b, o + k * 5 + 1, none⟩) HBV.out).trans KC.out
                  clear hes2 hat2 hq2
                  by_cases he : jc = qc
                  case pos =>
                    have he' : (jc == qc) = true := by simpa using he
                    have hf := Lib.hid (show r = false by rw [← HR.out, acc_roles (r := ⟨r0, r1, r2, r3, r4, r5, r6, r7, r8, r9, r10, r11, r12, r13, r14⟩) (L := L) HLQ.out hkl (row_twice HQ.out HROW.out hjk hjl (by rw [HQ2.out]; exact he)), Bool.and_false])
                    clear he
                    go_wp2_with fail
                    go_quiet (fail)
                    go_wp2_with fail
                    go_ret
                    exact ⟨by rw [hf.out]; first | done | rfl, ((Fr.ofBelow (HBW.out.trans (HBI.out.mono HBW.out.size))).drewN _).below⟩
                  case neg =>
                    have he' : (jc == qc) = false := by simpa using he
                    have HNE2 := Lib.hid he
                    clear he
                    go_wp2_with fail
                    go_quiet (fail)
                    go_wp2_with fail
                    go_roundw
                    case rel => exact ⟨j + 1, by omega, by go_num, ((Fr.ofBelow hbi).drewN _).below, fun j' hj' hjj => by
                      rcases Nat.lt_or_ge j' j with h | h
                      · exact HAI.out j' hj' h
                      · have : j' = j := by omega
                        subst this
                        rw [HQ2.out]
                        exact HNE2.out⟩
                    case measure => first | exact meas_v hjk | (simp only [intOf]; omega)
                case neg =>
                  have hjkI : ¬ (j : Int) < (k : Int) := by omega
                  have hjk2 : j = k := by omega
                  have HRW := Lib.hid (show roleRow ch L k = true from row_apart HQ.out HROW.out h1 h2 (fun j' hj' hjk' => HAI.out j' hj' (by omega)))
                  go_wp2_with fail
                  go_roundw
                  case rel => exact ⟨k + 1, by omega, by go_num, hb.trans (HBI.out.mono hsz), fun i hi => by
                    rcases Nat.lt_or_ge i k with h | h
                    · exact HA.out i h
                    · have : i = k := by omega
                      subst this
                      exact HRW.out⟩
                  case measure => first | exact meas_v hlt | (simp only [intOf]; omega)
        case neg =>
          have hltI : ¬ (k : Int) < 15 := by omega
          have hf := Lib.hid (show r = true by rw [← HR.out, HC1.out, HC2.out, acc_all (r := ⟨r0, r1, r2, r3, r4, r5, r6, r7, r8, r9, r10, r11, r12, r13, r14⟩) (L := L) HLQ.out HC3.out HD.out (fun j hj => HA.out j (by have := HLL.out; omega))]; rfl)
          go_wp2_with fail
          go_ret
          exact ⟨by rw [hf.out]; first | done | rfl, HBW.out⟩
end Go.Proofs.Ytnigokmjehemaaa
