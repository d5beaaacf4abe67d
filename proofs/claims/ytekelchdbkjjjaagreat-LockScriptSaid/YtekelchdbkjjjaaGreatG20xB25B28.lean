/- Groups: the reference's books. Written by gen_b25.py. -/
import Derived.Test.YtekelchdbkjjjaaGreatG20xB0B2
import Derived.Test.YtekelchdbkjjjaaGreatG20xB3B8
import Derived.Test.YtekelchdbkjjjaaGreatG20xB9B13
import Derived.Test.YtekelchdbkjjjaaGreatG20xB14
import Derived.Test.YtekelchdbkjjjaaGreatG20xB15
import Derived.Test.YtekelchdbkjjjaaGreatG20xB16
import Derived.Test.YtekelchdbkjjjaaGreatG20xB17B24
import Derived.Test.YtekelchdbkjjjaaGreatProg
import Derived.Deep.QuietTactic
import Derived.DeepKeys4
import Derived.Maps.Keyed
set_option linter.unusedVariables false
set_option linter.unusedSimpArgs false
set_option maxRecDepth 4000
attribute [local go_sem ↓] Go.wp_at_zero Go.wp_at_succ
namespace Go.Proofs.YtekelchdbkjjjaaGreat
open Go Go.RowKit
theorem rAccount_n {cur : ByteArray} {y m p : Int} {Ac Ae : Option Addr} {cc ce n ne : Nat} {ch : List XAccount} {es : List XEntity} {r0 r1 r2 r3 r4 r5 r6 r7 r8 r9 r10 r11 r12 r13 r14 : Int} (hN : ch.length = n) (hE : es.length = ne) {w : World} (hg : GroupC w (· < w.heap.size) (grpL cur y m p Ac ch.length cc r0 r1 r2 r3 r4 r5 r6 r7 r8 r9 r10 r11 r12 r13 r14 Ae es.length ce) ⟨cur, ⟨y, m, p⟩, ch, ⟨r0, r1, r2, r3, r4, r5, r6, r7, r8, r9, r10, r11, r12, r13, r14⟩, es⟩) (hn : ch.length ≤ 1000) (code : Int) (hc : intBd code) : Calls Tryz.prog 100 #[.agg (grpL cur y m p Ac n cc r0 r1 r2 r3 r4 r5 r6 r7 r8 r9 r10 r11 r12 r13 r14 Ae ne ce).toArray, .int .i64 code] w (Quiet w (findV ch code)) := by
 subst hN hE
 exact rAccount_c _ _ _ _ hg hc hn
theorem row_apart {ch : List XAccount} {L : List XRole} {k : Nat} {q : XRole} {a : XAccount} (hk : L[k]? = some q) (h : findA ch q.code = some a) (h1 : a.kind = q.kind) (h2 : a.basis = q.basis) (hd : ∀ j (hj : j < L.length), j < k → L[j].code ≠ q.code) : roleRow ch L k = true := by
 rw [row_some hk h, h1, h2]
 have : ((L.take k).any fun p => p.code == q.code) = false := by
  rw [List.any_eq_false]
  intro x hx
  rw [List.mem_take_iff_getElem] at hx
  obtain ⟨j, hj, rfl⟩ := hx
  simpa using hd j (by omega) (by omega)
 rw [this]; simp
theorem row_twice {ch : List XAccount} {L : List XRole} {k j : Nat} {q : XRole} {a : XAccount} (hk : L[k]? = some q) (h : findA ch q.code = some a) (hj : j < k) (hl : j < L.length) (he : L[j].code = q.code) : roleRow ch L k = false := by
 rw [row_some hk h]
 have : ((L.take k).any fun p => p.code == q.code) = true := by
  rw [List.any_eq_true]
  exact ⟨L[j], by rw [List.mem_take_iff_getElem]; exact ⟨j, by omega, rfl⟩, by simpa using he⟩
 rw [this]; simp
set_option maxHeartbeats 4000000 in
theorem rbooks_c (g : XGroup) (cs : List Value) (w : World) (hg : GroupC w (· < w.heap.size) cs g) (hn : g.chart.length ≤ 1000) (hcs : g.currency.size ≤ 1000) : Calls Tryz.prog 67 #[.agg cs.toArray] w (Quiet w (.bool (curB g.currency && calB g.calendar.year g.calendar.month g.calendar.periods && accountsB g.chart g.roles))) := by
 have HGC := Lib.hid hg
 obtain ⟨Ac, cc, Ae, ce, rfl, hch, hen, hcal, hro⟩ := hg.lit
 clear hg
 obtain ⟨cur, ⟨y, m, p⟩, ch, ⟨r0, r1, r2, r3, r4, r5, r6, r7, r8, r9, r10, r11, r12, r13, r14⟩, es⟩ := g
 simp only at hcs hch hen hro hcal hn ⊢
 obtain ⟨r, hr⟩ : ∃ r, (curB cur && calB y m p && accountsB ch ⟨r0, r1, r2, r3, r4, r5, r6, r7, r8, r9, r10, r11, r12, r13, r14⟩) = r := ⟨_, rfl⟩
 rw [hr]
 have HR := Lib.hid hr
 have HNN := Lib.hid hn
 clear hr
 obtain ⟨L, hL⟩ : ∃ L, rolesL r0 r1 r2 r3 r4 r5 r6 r7 r8 r9 r10 r11 r12 r13 r14 = L := ⟨_, rfl⟩
 have hLl : L.length = 15 := by rw [← hL]; rfl
 have HLQ := Lib.hid hL
 have HLL := Lib.hid hLl
 obtain ⟨n, hnl⟩ : ∃ n, ch.length = n := ⟨_, rfl⟩
 obtain ⟨ne, hne⟩ : ∃ ne, es.length = ne := ⟨_, rfl⟩
 have HL := Lib.hid hch
 have HN := Lib.hid hnl
 have HE := Lib.hid hen
 have HNE := Lib.hid hne
 rw [hnl, hne]
 rw [hnl] at hn
 clear hL hLl hch hen hnl hne hcal
 have hrb : ∀ q ∈ L, intBd q.code := by
  rw [← HLQ.out]
  obtain ⟨b0, b1, b2, b3, b4, b5, b6, b7, b8, b9, b10, b11, b12, b13, b14⟩ := hro
  intro q hq
  simp only [rolesL, List.mem_cons, List.not_mem_nil, or_false] at hq
  rcases hq with rfl | rfl | rfl | rfl | rfl | rfl | rfl | rfl | rfl | rfl | rfl | rfl | rfl | rfl | rfl <;> assumption
 have HRB := Lib.hid hrb
 clear hrb hro
 show Calls Tryz.prog 67 #[.agg #[.string cur, .int .i64 y, .int .i64 m, .int .i64 p, .slice Ac n cc, .int .i64 r0, .int .i64 r1, .int .i64 r2, .int .i64 r3, .int .i64 r4, .int .i64 r5, .int .i64 r6, .int .i64 r7, .int .i64 r8, .int .i64 r9, .int .i64 r10, .int .i64 r11, .int .i64 r12, .int .i64 r13, .int .i64 r14, .slice Ae ne ce]] w (Quiet w (.bool r))
 go_enter Tryz.func67, Tryz.ntmps67
 go_upto_region 1 with fail
 have H := heap_alloc_new w (.cells #[.string cur, .int .i64 y, .int .i64 m, .int .i64 p, .slice Ac n cc, .int .i64 r0, .int .i64 r1, .int .i64 r2, .int .i64 r3, .int .i64 r4, .int .i64 r5, .int .i64 r6, .int .i64 r7, .int .i64 r8, .int .i64 r9, .int .i64 r10, .int .i64 r11, .int .i64 r12, .int .i64 r13, .int .i64 r14, .slice Ae ne ce] 29)
 have HB := below1 w (.cells #[.string cur, .int .i64 y, .int .i64 m, .int .i64 p, .slice Ac n cc, .int .i64 r0, .int .i64 r1, .int .i64 r2, .int .i64 r3, .int .i64 r4, .int .i64 r5, .int .i64 r6, .int .i64 r7, .int .i64 r8, .int .i64 r9, .int .i64 r10, .int .i64 r11, .int .i64 r12, .int .i64 r13, .int .i64 r14, .slice Ae ne ce] 29)
 have HS := blk_lt H
 generalize hW : w.alloc (Obj.cells #[.string cur, .int .i64 y, .int .i64 m, .int .i64 p, .slice Ac n cc, .int .i64 r0, .int .i64 r1, .int .i64 r2, .int .i64 r3, .int .i64 r4, .int .i64 r5, .int .i64 r6, .int .i64 r7, .int .i64 r8, .int .i64 r9, .int .i64 r10, .int .i64 r11, .int .i64 r12, .int .i64 r13, .int .i64 r14, .slice Ae ne ce] 29) = W at *
 clear hW
 have d0 := blk_cell H 0
 have HATG := Lib.hid (box_at (cs := grpL cur y m p Ac n cc r0 r1 r2 r3 r4 r5 r6 r7 r8 r9 r10 r11 r12 r13 r14 Ae ne ce) H)
 have HAT := Lib.hid ((box_at (cs := [.string cur, .int .i64 y, .int .i64 m, .int .i64 p, .slice Ac n cc] ++ ([.int .i64 r0, .int .i64 r1, .int .i64 r2, .int .i64 r3, .int .i64 r4, .int .i64 r5, .int .i64 r6, .int .i64 r7, .int .i64 r8, .int .i64 r9, .int .i64 r10, .int .i64 r11, .int .i64 r12, .int .i64 r13, .int .i64 r14] ++ [.slice Ae ne ce])) H).split.2.split.1)
 have HH0 := Lib.hid H
 clear H
 go_wp2_with fail
 refine (rCurrency_c cur W hcs).mono ?_
 rintro e w2 ⟨rfl, hb2⟩
 have hbb := HB.trans (hb2.mono HB.size)
 have hs2 := hb2.size
 cases hc : curB cur with
 | false =>
  have hf := Lib.hid (show r = false by rw [← HR.out, hc]; rfl)
  clear hc
  go_wp2_with fail
  go_ret
  exact ⟨by rw [hf.out]; first | done | rfl, hbb⟩
 | true =>
 have HC1 := Lib.hid hc
 have G2 := (hb2.block _ HS).trans HH0.out
 have e1 := blk_cell G2 1
 have e2 := blk_cell G2 2
 have e3 := blk_cell G2 3
 clear hc d0
 go_wp2_with fail
 refine (rcalValid_c y m p w2).mono ?_
 rintro e w3 ⟨rfl, hb3⟩
 have hbc := hbb.trans (hb3.mono hbb.size)
 have hs3 := hb3.size
 cases hc : calB y m p with
 | false =>
  have hf := Lib.hid (show r = false by rw [← HR.out, hc, Bool.and_false]; rfl)
  clear hc
  go_wp2_with fail
  go_ret
  exact ⟨by rw [hf.out]; first | done | rfl, hbc⟩
 | true =>
 have HC2 := Lib.hid hc
 have G3 := (hb3.block _ (by omega)).trans G2
 have e4 := blk_cell G3 4
 clear hc e1 e2 e3 G2
 go_wp2_with fail
 have hcall := rchartValid_c ch Ac cc true w3 (chart_keep HL.out hbc) (by rw [HN.out]; exact hn)
 rw [HN.out, ← chart_both] at hcall
 refine hcall.mono ?_
 clear hcall
 rintro e w4 ⟨rfl, hb4⟩
 have hbd := hbc.trans (hb4.mono hbc.size)
 have hs4 := hb4.size
 cases hc : chartB ch true with
 | false =>
  have hf := Lib.hid (show r = false by rw [← HR.out]; unfold accountsB; rw [hc]; simp)
  clear hc
  go_wp2_with fail
  go_ret
  exact ⟨by rw [hf.out]; first | done | rfl, hbd⟩
 | true =>
 have HC3 := Lib.hid hc
 have HG4 := Lib.hid ((hb4.block _ (by omega)).trans G3)
 have HW4 := Lib.hid (hb2.trans ((hb3.mono hs2).trans (hb4.mono (by omega))))
 clear hc e4 G3
 go_wp2_with fail
 go_loopw [3] (fun i wr => ∃ k : Nat, k ≤ n ∧ i = .int .i64 (k : Int) ∧ Below w4.heap.size w4 wr ∧ ∀ j (hj : j < ch.length), j < k → basedB ch[j] = true) (fun i _ => n - (intOf i).toNat)
 case atStart => exact ⟨0, by omega, rfl, Below.refl _ _, fun j hj h => by omega⟩
 case round =>
  obtain ⟨k, hk, rfl, hb, hall⟩ := hrel
  have HA := Lib.hid hall
  clear hall
  have hsz := hb.size
  have hwr := hbd.trans (hb.mono hbd.size)
  have GR := (hb.block w.heap.size (by omega)).trans HG4.out
  have e4 := blk_cell GR 4
  by_cases hlt : k < n
  case pos =>
   have hltI : (k : Int) < (n : Int) := by omega
   have hkl : k < ch.length := by rw [HN.out]; exact hlt
   clear GR
   obtain ⟨b, o, es1, hAe, hbw, hes, hat⟩ := ListC.get HL.out k hkl
   subst hAe
   obtain ⟨hes1, hb1, hb2', hb3', hb4'⟩ := AccountC.lit hes
   rw [hes1] at hat
   obtain ⟨ac, hac⟩ : ∃ ac, ch[k] = ac := ⟨_, rfl⟩
   rw [hac] at hat
   have HAC := Lib.hid hac
   have HAR := Lib.hid ((hat.fr (Fr.ofBelow hwr)).range)
   clear hes hes1 hat hac hb1 hb2' hb3' hb4'
   go_wp2_with (show wpList _ _ _ (Oper.mk (some 36) _ _ _ _ _ :: _) _ _; refine wpList_load_mid rfl 87 (.tmp 35) rfl b (o + k * 4) rfl (accL ac) _ HAR.out Tryz.underlying87 rfl (info_accL _) ?_)
   refine (rbasis_c ac wr).mono ?_
   rintro e w5 ⟨rfl, hb5⟩
   cases hp : basedB ac with
   | false =>
    have hf := Lib.hid (show r = false by
     rw [← HR.out]; unfold accountsB
     rw [List.all_eq_false.2 ⟨ac, by rw [← HAC.out]; exact List.getElem_mem hkl, by rw [hp]; decide⟩]; simp)
    clear hp
    go_wp2_with fail
    go_ret
    exact ⟨by rw [hf.out]; first | done | rfl, hwr.trans (hb5.mono hwr.size)⟩
   | true =>
    have HP := Lib.hid hp
    clear hp
    go_wp2_with fail
    go_roundw
    case rel => exact ⟨k + 1, by omega, by go_num, hb.trans (hb5.mono hb.size), fun j hj hjk => by
     rcases Nat.lt_or_ge j k with h | h
     · exact HA.out j hj h
     · have : j = k := by omega
       subst this
       rw [HAC.out]
       exact HP.out⟩
    case measure => first | exact meas_v hlt | (simp only [intOf]; omega)
  case neg =>
   have hltI : ¬ (k : Int) < (n : Int) := by omega
   have HD := Lib.hid (show ch.all basedB = true by
    rw [List.all_eq_true]
    intro x hx
    obtain ⟨j, hj, rfl⟩ := List.getElem_of_mem hx
    exact HA.out j hj (by have := HN.out; omega))
   have HRR := Lib.hid (((HAT.out.fr (Fr.ofBelow HW4.out)).fr ((Fr.ofBelow hb).mono (fun k (hk : k < W.heap.size) => by have := HW4.out.size; omega))).range)
   have HGW := Lib.hid GR
   clear GR
   go_wp2_with (show wpList _ _ _ (Oper.mk (some 40) _ _ _ _ _ :: _) _ _; refine wpList_load_mid rfl 26 (.tmp 39) rfl w.heap.size 5 rfl [.int .i64 r0, .int .i64 r1, .int .i64 r2, .int .i64 r3, .int .i64 r4, .int .i64 r5, .int .i64 r6, .int .i64 r7, .int .i64 r8, .int .i64 r9, .int .i64 r10, .int .i64 r11, .int .i64 r12, .int .i64 r13, .int .i64 r14] _ HRR.out Tryz.underlying26 rfl info_roles ?_)
   refine (rRoles_c r0 r1 r2 r3 r4 r5 r6 r7 r8 r9 r10 r11 r12 r13 r14 wr).mono ?_
   rintro e w5 ⟨v, rfl, ⟨A, c, rfl⟩, hrl, hb5⟩
   rw [HLQ.out] at hrl
   have HROL := Lib.hid (show ListC RoleC 5 w5 (fun k => wr.heap.size ≤ k ∧ k < w5.heap.size) [.slice A L.length c] L by rw [HLL.out]; exact hrl)
   have hs5 := hb5.size
   have HB5 := Lib.hid (hwr.trans (hb5.mono hwr.size))
   have HG5 := Lib.hid ((hb5.block _ (by omega)).trans HGW.out)
   have HAT5 := Lib.hid ((((HATG.out.fr (Fr.ofBelow HW4.out)).fr ((Fr.ofBelow hb).mono (fun k (hk : k < W.heap.size) => by have := HW4.out.size; omega))).fr ((Fr.ofBelow hb5).mono (fun k (hk : k < W.heap.size) => by have := HW4.out.size; omega))).mono (Q' := (· < w5.heap.size)) (fun k (hk : k < W.heap.size) => by have := HW4.out.size; omega))
   clear hrl e4
   go_wp2_with fail
   go_loopw [5] (fun i wr => ∃ k : Nat, k ≤ 15 ∧ i = .int .i64 (k : Int) ∧ Below w5.heap.size w5 wr ∧ ∀ j, j < k → roleRow ch L j = true) (fun i _ => 15 - (intOf i).toNat)
   case atStart => exact ⟨0, by omega, rfl, Below.refl _ _, fun j hj => by omega⟩
   case round =>
    rename_i K1 K2 K3 K4 K5 K6
    obtain ⟨k, hk, rfl, hb, hall⟩ := hrel
    have HA := Lib.hid hall
    clear hall
    have hsz := hb.size
    have HBW := Lib.hid (HB5.out.trans (hb.mono HB5.out.size))
    by_cases hlt : k < 15
    case pos =>
     have hltI : (k : Int) < 15 := by omega
     have hkl : k < L.length := by rw [HLL.out]; exact hlt
     obtain ⟨b, o, hAe, hbw, hel⟩ := ListC.base HROL.out (by omega)
     subst hAe
     obtain ⟨es1, hes, hat⟩ := hel k hkl
     have HEL := Lib.hid hel
     obtain ⟨q, hq⟩ : ∃ q, L[k] = q := ⟨_, rfl⟩
     have hqb := HRB.out _ (List.getElem_mem hkl)
     rw [hq] at hes hqb
     have HQ := Lib.hid (show L[k]? = some q by rw [List.getElem?_eq_getElem hkl, hq])
     have hqe := Lib.hid hq
     obtain ⟨qn, qc, qk, qb, qm⟩ := q
     have HQB := Lib.hid hqb
     obtain ⟨hqb1, hqb2⟩ := hqb
     have hes1 : es1 = [.string qn, .int .i64 qc, .int .i64 qk, .int .i64 qb, .bool qm] := hes
     subst hes1
     have hat2 := hat.fr ((Fr.ofBelow hb).mono (fun k hk => hk.2))
     have KC := Lib.hid (hat2.c (j := 1) rfl)
     have K2 := Lib.hid (hat2.c (j := 2) rfl)
     have K3 := Lib.hid (hat2.c (j := 3) rfl)
     have HBV := Lib.hid (show b < wr.heap.size by have := hbw.2; omega)
     have HATW := Lib.hid ((HAT5.out.fr (Fr.ofBelow hb)).mono (Q' := (· < wr.heap.size)) (fun k (hk : k < w5.heap.size) => by omega))
     clear hes hat hat2 hq hel
     cases ha : findA ch qc with
     | none =>
      have HFV := Lib.hid (show findV ch qc = .tuple #[.agg #[.int .i64 0, .int .i64 0, .int .i64 0, .int .i64 0], .bool false] from findV_none ha)
      have hf := Lib.hid (show r = false by rw [← HR.out, acc_roles (r := ⟨r0, r1, r2, r3, r4, r5, r6, r7, r8, r9, r10, r11, r12, r13, r14⟩) (L := L) HLQ.out hkl (row_none HQ.out ha), Bool.and_false])
      clear ha
      go_upto_region 12 with fail
      refine wp_region_inv6 11 (fun i => i == 9) (Ks wr [.val (.agg (grpL cur y m p Ac n cc r0 r1 r2 r3 r4 r5 r6 r7 r8 r9 r10 r11 r12 r13 r14 Ae ne ce).toArray), .val (.slice (some ⟨b, o, none⟩) 15 c), .val (.int .i64 (k : Int)), .val (.pointer (some ⟨b, o + k * 5, none⟩)), .val (.pointer (some ⟨b, o + k * 5 + 1, none⟩)), .val (.int .i64 qc), .val (.tuple #[.agg #[.int .i64 0, .int .i64 0, .int .i64 0, .int .i64 0], .bool false]), .val (.tuple #[.agg #[.int .i64 0, .int .i64 0, .int .i64 0, .int .i64 0], .bool false]), .val (.agg #[.int .i64 0, .int .i64 0, .int .i64 0, .int .i64 0]), .val (.bool false), .own (IsNew wr #[.int .i64 0, .int .i64 0, .int .i64 0, .int .i64 0] 87) (IsNew.keep _ _ _)])
       (fun w' => Below wr.heap.size wr w') (Ks wr [.val (.agg (grpL cur y m p Ac n cc r0 r1 r2 r3 r4 r5 r6 r7 r8 r9 r10 r11 r12 r13 r14 Ae ne ce).toArray), .val (.slice (some ⟨b, o, none⟩) 15 c), .val (.int .i64 (k : Int)), .val (.pointer (some ⟨b, o + k * 5, none⟩)), .val (.pointer (some ⟨b, o + k * 5 + 1, none⟩)), .val (.int .i64 qc), .val (.tuple #[.agg #[.int .i64 0, .int .i64 0, .int .i64 0, .int .i64 0], .bool false]), .val (.tuple #[.agg #[.int .i64 0, .int .i64 0, .int .i64 0, .int .i64 0], .bool false]), .val (.agg #[.int .i64 0, .int .i64 0, .int .i64 0, .int .i64 0]), .val (.bool false), .own (IsNew wr #[.int .i64 0, .int .i64 0, .int .i64 0, .int .i64 0] 87) (IsNew.keep _ _ _)])
       (fun w' => Below wr.heap.size wr w') (by kernel_rfl) (by kernel_rfl) (by kernel_rfl) (by decide) (by kernel_rfl) (by kernel_rfl) (by kernel_rfl) (by kernel_rfl) rfl (by kernel_rfl) _ rfl rfl (Below.refl _ _).drew ?_ ?_ ?_ ?_
      · refine ⟨?_, ?_, ?_, ?_, ?_, ?_, ?_, ?_, ?_, ?_, ?_, trivial⟩
        · intro _ A0 w2 hI hd hnd K hK; have e0 := hI.q hnd 1; have hS := hI.world; have hrange : w2.rangeAt w.heap.size 0 (grpL cur y m p Ac n cc r0 r1 r2 r3 r4 r5 r6 r7 r8 r9 r10 r11 r12 r13 r14 Ae ne ce) := (HATW.out.fr (Fr.ofBelow hS)).range
          have hisize : (Tryz.prog.info? 29).map (·.size) = some (grpL cur y m p Ac n cc r0 r1 r2 r3 r4 r5 r6 r7 r8 r9 r10 r11 r12 r13 r14 Ae ne ce).length := info_group
          refine wanted_go rfl ?_; clear hI hd hnd
          refine wp_load_mid 29 (.tmp 1) rfl _ _ (by simpa [Act.eval, Array.getD_eq_getD_getElem?] using e0) _ _ hrange Tryz.underlying29 rfl hisize ?_
          exact kq hK hS rfl
        · intro _ A0 w2 hI hd hnd K hK; have e0 := hI.q hnd 4; exact hI.z hK
        · intro _ A0 w2 hI hd hnd K hK; have e0 := hI.q hnd 5; exact hI.z hK
        · intro _ A0 w2 hI hd hnd K hK; have e0 := hI.p hd 1 50; have e1 := hI.p hd 2 51; exact hI.z hK
        · intro _ A0 w2 hI hd hnd K hK; have e0 := hI.p hd 3 52; exact hI.z hK
        · intro _ A0 w2 hI hd hnd K hK; have e0 := hI.p hd 4 53; have hS := hI.world; have hcc : w2.cell? ⟨b, o + k * 5 + 1, none⟩ = _ := (hS.cell (p := ⟨b, o + k * 5 + 1, none⟩) HBV.out).trans KC.out; exact hI.z hK
        · intro _ A0 w2 hI hd hnd K hK; have e0 := hI.p hd 0 49; have e1 := hI.p hd 5 54; have hS := hI.world; refine wanted_go rfl ?_; clear hI hd hnd; go_simp
          go_at_call 100
          refine (rAccount_n HN.out HNE.out (GroupC.keep HGC.out (HBW.out.trans (hS.mono HBW.out.size))) HNN.out qc HQB.out).mono ?_
          rintro e w3 ⟨rfl, h3⟩
          exact hK.out _ _ (hS.trans (h3.mono hS.size)) (Ks.of rfl HFV.out) (Ks.keep h3)
        · intro _ A0 w2 hI hd hnd K hK; have e0 := hI.p hd 6 55; exact hI.z hK
        iterate 2 (· intro _ A0 w2 hI hd hnd K hK; have e0 := hI.p hd 7 48; exact hI.z hK)
        · intro _ A0 w2 hI hd hnd K hK; have hS := hI.world; refine wanted_go rfl ?_; clear hI hd hnd; go_simp
          exact hK.out _ _ (hS.alloc hS.size _) (Ks.of rfl (IsNew.made hS.size _ _)) (Ks.keep (below1 w2 _))
      · intro _ A0 w2 hI hall K hK
        obtain ⟨xp, gp, hp⟩ := hI.got 10 _ 6 rfl rfl (hall 10 (by decide) rfl)
        obtain ⟨xv, gv, hv⟩ := hI.got 8 _ 56 rfl rfl (hall 8 (by decide) rfl)
        obtain ⟨g, rfl, hg1, hg2⟩ := hp _ rfl
        obtain rfl : xv = .agg #[.int .i64 0, .int .i64 0, .int .i64 0, .int .i64 0] := hv _ rfl
        have hS := hI.world; refine wanted_go rfl ?_
        refine wp_store_row 87 (.tmp 6) (.tmp 56) rfl g #[.int .i64 0, .int .i64 0, .int .i64 0, .int .i64 0] (by simp [Act.eval, Array.getD_eq_getD_getElem?, gp]) (by simp [Act.eval, Array.getD_eq_getD_getElem?, gv]) 87 #[.int .i64 0, .int .i64 0, .int .i64 0, .int .i64 0] hg2 (info_accS ⟨0, 0, 0, 0⟩) rfl (by simp [Value.oneCell']) ?_
        refine hK _ (below_setRow hS hg1 _) ?_
        intro i o d u hi ho hd hu hV
        refine Ks.store (p := 10) (kn := _) rfl hV (fun hip => ?_)
        subst hip
        obtain rfl : _ = o := Option.some.inj ho
        obtain rfl : _ = d := Option.some.inj hd
        obtain rfl : _ = u := Option.some.inj (gp.symm.trans hu)
        exact ⟨g, rfl, hg1, heap_setRow hg2 _⟩
      · refine ⟨fun h => absurd h (by decide), fun h => absurd h (by decide), fun h => absurd h (by decide), fun h => absurd h (by decide), fun h => absurd h (by decide), fun h => absurd h (by decide), fun h => absurd h (by decide), fun h => absurd h (by decide), fun h => absurd h (by decide), ?_, fun h => absurd h (by decide), fun h => absurd h (by decide), trivial⟩
        · intro _; intro _ A0 w2 hI hd hnd K hK; have e0 := hI.p hd 7 48; exact hI.z hK
      · intro A0 w2 hI
        obtain ⟨x0, g0, h0⟩ := hI.got 0 _ 49 rfl rfl rfl
        obtain ⟨x1, g1, h1⟩ := hI.got 1 _ 50 rfl rfl rfl
        obtain ⟨x2, g2, h2⟩ := hI.got 2 _ 51 rfl rfl rfl
        obtain ⟨x3, g3, h3⟩ := hI.got 3 _ 52 rfl rfl rfl
        obtain ⟨x4, g4, h4⟩ := hI.got 4 _ 53 rfl rfl rfl
        obtain ⟨x5, g5, h5⟩ := hI.got 5 _ 54 rfl rfl rfl
        obtain ⟨x6, g6, h6⟩ := hI.got 6 _ 55 rfl rfl rfl
        obtain ⟨x7, g7, h7⟩ := hI.got 7 _ 48 rfl rfl rfl
        obtain ⟨x8, g8, h8⟩ := hI.got 8 _ 56 rfl rfl rfl
        obtain ⟨x9, g9, h9⟩ := hI.got 9 _ 57 rfl rfl rfl
        obtain ⟨x10, g10, h10⟩ := hI.got 10 _ 6 rfl rfl rfl
        have hS := hI.world
        obtain ⟨y7, o7⟩ : ∃ v, A0.tmps[7]? = some v := ⟨_, hI.oldHead 7 (by kernel_rfl)⟩
        have hA : A0 = _ := hI.tmps [(49, x0), (50, x1), (51, x2), (52, x3), (53, x4), (54, x5), (55, x6), (48, x7), (56, x8), (57, x9), (6, x10), (7, y7)] (by simp only [List.mem_cons, List.not_mem_nil, or_false, forall_eq_or_imp, forall_eq]; exact ⟨g0, g1, g2, g3, g4, g5, g6, g7, g8, g9, g10, o7⟩) (by kernel_rfl)
        obtain rfl : x8 = .agg #[.int .i64 0, .int .i64 0, .int .i64 0, .int .i64 0] := h8 _ rfl
        obtain rfl : x9 = .bool false := h9 _ rfl
        obtain ⟨g, rfl, hg1, hg2⟩ := h10 _ rfl
        clear h0 g0 h1 g1 h2 g2 h3 g3 h4 g4 h5 g5 h6 g6 h7 g7 h8 g8 h9 g9 h10 g10 o7 hI
        simp only [setAll, List.foldl, List.setIfInBounds_toArray, List.set_cons_zero, List.set_cons_succ] at hA
        rw [hA]
        clear hA
        simp only [List.drop_succ_cons, List.drop_zero]
        have HNEW := Lib.hid hg2
        have HB5 := hS
        have HS5 := hS.size
        go_upto_region 13 with fail
        have g1 := blk_cell HNEW.out 1
        have g2 := blk_cell HNEW.out 2
        have f2 := (HB5.cell (p := ⟨b, o + k * 5 + 2, none⟩) HBV.out).trans K2.out
        have f3 := (HB5.cell (p := ⟨b, o + k * 5 + 3, none⟩) HBV.out).trans K3.out
        have hw5 := HBW.out.trans (HB5.mono HBW.out.size)
        clear hg2
        go_wp2_with fail
        go_quiet (fail)
        go_wp2_with fail
        go_ret
        exact ⟨by rw [hf.out]; first | done | rfl, ((Fr.ofBelow hw5).drewN _).below⟩
     | some pa =>
      have HROW := Lib.hid ha
      have hfv := findV_some ha
      clear ha
      obtain ⟨p1, p2, p3, p4⟩ := pa
      have HFV := Lib.hid (show findV ch qc = .tuple #[.agg #[.int .i64 p1, .int .i64 p2, .int .i64 p3, .int .i64 p4], .bool true] from hfv)
      clear hfv
      go_upto_region 12 with fail
      refine wp_region_inv6 11 (fun i => i == 9) (Ks wr [.val (.agg (grpL cur y m p Ac n cc r0 r1 r2 r3 r4 r5 r6 r7 r8 r9 r10 r11 r12 r13 r14 Ae ne ce).toArray), .val (.slice (some ⟨b, o, none⟩) 15 c), .val (.int .i64 (k : Int)), .val (.pointer (some ⟨b, o + k * 5, none⟩)), .val (.pointer (some ⟨b, o + k * 5 + 1, none⟩)), .val (.int .i64 qc), .val (.tuple #[.agg #[.int .i64 p1, .int .i64 p2, .int .i64 p3, .int .i64 p4], .bool true]), .val (.tuple #[.agg #[.int .i64 p1, .int .i64 p2, .int .i64 p3, .int .i64 p4], .bool true]), .val (.agg #[.int .i64 p1, .int .i64 p2, .int .i64 p3, .int .i64 p4]), .val (.bool true), .own (IsNew wr #[.int .i64 0, .int .i64 0, .int .i64 0, .int .i64 0] 87) (IsNew.keep _ _ _)])
       (fun w' => Below wr.heap.size wr w') (Ks wr [.val (.agg (grpL cur y m p Ac n cc r0 r1 r2 r3 r4 r5 r6 r7 r8 r9 r10 r11 r12 r13 r14 Ae ne ce).toArray), .val (.slice (some ⟨b, o, none⟩) 15 c), .val (.int .i64 (k : Int)), .val (.pointer (some ⟨b, o + k * 5, none⟩)), .val (.pointer (some ⟨b, o + k * 5 + 1, none⟩)), .val (.int .i64 qc), .val (.tuple #[.agg #[.int .i64 p1, .int .i64 p2, .int .i64 p3, .int .i64 p4], .bool true]), .val (.tuple #[.agg #[.int .i64 p1, .int .i64 p2, .int .i64 p3, .int .i64 p4], .bool true]), .val (.agg #[.int .i64 p1, .int .i64 p2, .int .i64 p3, .int .i64 p4]), .val (.bool true), .own (IsNew wr #[.int .i64 p1, .int .i64 p2, .int .i64 p3, .int .i64 p4] 87) (IsNew.keep _ _ _)])
       (fun w' => Below wr.heap.size wr w') (by kernel_rfl) (by kernel_rfl) (by kernel_rfl) (by decide) (by kernel_rfl) (by kernel_rfl) (by kernel_rfl) (by kernel_rfl) rfl (by kernel_rfl) _ rfl rfl (Below.refl _ _).drew ?_ ?_ ?_ ?_
      · refine ⟨?_, ?_, ?_, ?_, ?_, ?_, ?_, ?_, ?_, ?_, ?_, trivial⟩
        · intro _ A0 w2 hI hd hnd K hK; have e0 := hI.q hnd 1; have hS := hI.world; have hrange : w2.rangeAt w.heap.size 0 (grpL cur y m p Ac n cc r0 r1 r2 r3 r4 r5 r6 r7 r8 r9 r10 r11 r12 r13 r14 Ae ne ce) := (HATW.out.fr (Fr.ofBelow hS)).range
          have hisize : (Tryz.prog.info? 29).map (·.size) = some (grpL cur y m p Ac n cc r0 r1 r2 r3 r4 r5 r6 r7 r8 r9 r10 r11 r12 r13 r14 Ae ne ce).length := info_group
          refine wanted_go rfl ?_; clear hI hd hnd
          refine wp_load_mid 29 (.tmp 1) rfl _ _ (by simpa [Act.eval, Array.getD_eq_getD_getElem?] using e0) _ _ hrange Tryz.underlying29 rfl hisize ?_
          exact kq hK hS rfl
        · intro _ A0 w2 hI hd hnd K hK; have e0 := hI.q hnd 4; exact hI.z hK
        · intro _ A0 w2 hI hd hnd K hK; have e0 := hI.q hnd 5; exact hI.z hK
        · intro _ A0 w2 hI hd hnd K hK; have e0 := hI.p hd 1 50; have e1 := hI.p hd 2 51; exact hI.z hK
        · intro _ A0 w2 hI hd hnd K hK; have e0 := hI.p hd 3 52; exact hI.z hK
        · intro _ A0 w2 hI hd hnd K hK; have e0 := hI.p hd 4 53; have hS := hI.world; have hcc : w2.cell? ⟨b, o + k * 5 + 1, none⟩ = _ := (hS.cell (p := ⟨b, o + k * 5 + 1, none⟩) HBV.out).trans KC.out; exact hI.z hK
        · intro _ A0 w2 hI hd hnd K hK; have e0 := hI.p hd 0 49; have e1 := hI.p hd 5 54; have hS := hI.world; refine wanted_go rfl ?_; clear hI hd hnd; go_simp
          go_at_call 100
          refine (rAccount_n HN.out HNE.out (GroupC.keep HGC.out (HBW.out.trans (hS.mono HBW.out.size))) HNN.out qc HQB.out).mono ?_
          rintro e w3 ⟨rfl, h3⟩
          exact hK.out _ _ (hS.trans (h3.mono hS.size)) (Ks.of rfl HFV.out) (Ks.keep h3)
        · intro _ A0 w2 hI hd hnd K hK; have e0 := hI.p hd 6 55; exact hI.z hK
        iterate 2 (· intro _ A0 w2 hI hd hnd K hK; have e0 := hI.p hd 7 48; exact hI.z hK)
        · intro _ A0 w2 hI hd hnd K hK; have hS := hI.world; refine wanted_go rfl ?_; clear hI hd hnd; go_simp
          exact hK.out _ _ (hS.alloc hS.size _) (Ks.of rfl (IsNew.made hS.size _ _)) (Ks.keep (below1 w2 _))
      · intro _ A0 w2 hI hall K hK
        obtain ⟨xp, gp, hp⟩ := hI.got 10 _ 6 rfl rfl (hall 10 (by decide) rfl)
        obtain ⟨xv, gv, hv⟩ := hI.got 8 _ 56 rfl rfl (hall 8 (by decide) rfl)
        obtain ⟨g, rfl, hg1, hg2⟩ := hp _ rfl
        obtain rfl : xv = .agg #[.int .i64 p1, .int .i64 p2, .int .i64 p3, .int .i64 p4] := hv _ rfl
        have hS := hI.world; refine wanted_go rfl ?_
        refine wp_store_row 87 (.tmp 6) (.tmp 56) rfl g #[.int .i64 p1, .int .i64 p2, .int .i64 p3, .int .i64 p4] (by simp [Act.eval, Array.getD_eq_getD_getElem?, gp]) (by simp [Act.eval, Array.getD_eq_getD_getElem?, gv]) 87 #[.int .i64 0, .int .i64 0, .int .i64 0, .int .i64 0] hg2 (info_accS ⟨p1, p2, p3, p4⟩) rfl (by simp [Value.oneCell']) ?_
        refine hK _ (below_setRow hS hg1 _) ?_
        intro i o d u hi ho hd hu hV
        refine Ks.store (p := 10) (kn := _) rfl hV (fun hip => ?_)
        subst hip
        obtain rfl : _ = o := Option.some.inj ho
        obtain rfl : _ = d := Option.some.inj hd
        obtain rfl : _ = u := Option.some.inj (gp.symm.trans hu)
        exact ⟨g, rfl, hg1, heap_setRow hg2 _⟩
      · refine ⟨fun h => absurd h (by decide), fun h => absurd h (by decide), fun h => absurd h (by decide), fun h => absurd h (by decide), fun h => absurd h (by decide), fun h => absurd h (by decide), fun h => absurd h (by decide), fun h => absurd h (by decide), fun h => absurd h (by decide), ?_, fun h => absurd h (by decide), fun h => absurd h (by decide), trivial⟩
        · intro _; intro _ A0 w2 hI hd hnd K hK; have e0 := hI.p hd 7 48; exact hI.z hK
      · intro A0 w2 hI
        obtain ⟨x0, g0, h0⟩ := hI.got 0 _ 49 rfl rfl rfl
        obtain ⟨x1, g1, h1⟩ := hI.got 1 _ 50 rfl rfl rfl
        obtain ⟨x2, g2, h2⟩ := hI.got 2 _ 51 rfl rfl rfl
        obtain ⟨x3, g3, h3⟩ := hI.got 3 _ 52 rfl rfl rfl
        obtain ⟨x4, g4, h4⟩ := hI.got 4 _ 53 rfl rfl rfl
        obtain ⟨x5, g5, h5⟩ := hI.got 5 _ 54 rfl rfl rfl
        obtain ⟨x6, g6, h6⟩ := hI.got 6 _ 55 rfl rfl rfl
        obtain ⟨x7, g7, h7⟩ := hI.got 7 _ 48 rfl rfl rfl
        obtain ⟨x8, g8, h8⟩ := hI.got 8 _ 56 rfl rfl rfl
        obtain ⟨x9, g9, h9⟩ := hI.got 9 _ 57 rfl rfl rfl
        obtain ⟨x10, g10, h10⟩ := hI.got 10 _ 6 rfl rfl rfl
        have hS := hI.world
        obtain ⟨y7, o7⟩ : ∃ v, A0.tmps[7]? = some v := ⟨_, hI.oldHead 7 (by kernel_rfl)⟩
        have hA : A0 = _ := hI.tmps [(49, x0), (50, x1), (51, x2), (52, x3), (53, x4), (54, x5), (55, x6), (48, x7), (56, x8), (57, x9), (6, x10), (7, y7)] (by simp only [List.mem_cons, List.not_mem_nil, or_false, forall_eq_or_imp, forall_eq]; exact ⟨g0, g1, g2, g3, g4, g5, g6, g7, g8, g9, g10, o7⟩) (by kernel_rfl)
        obtain rfl : x8 = .agg #[.int .i64 p1, .int .i64 p2, .int .i64 p3, .int .i64 p4] := h8 _ rfl
        obtain rfl : x9 = .bool true := h9 _ rfl
        obtain ⟨g, rfl, hg1, hg2⟩ := h10 _ rfl
        clear h0 g0 h1 g1 h2 g2 h3 g3 h4 g4 h5 g5 h6 g6 h7 g7 h8 g8 h9 g9 h10 g10 o7 hI
        simp only [setAll, List.foldl, List.setIfInBounds_toArray, List.set_cons_zero, List.set_cons_succ] at hA
        rw [hA]
        clear hA
        simp only [List.drop_succ_cons, List.drop_zero]
        have HNEW := Lib.hid hg2
        have HB5 := hS
        have HS5 := hS.size
        go_upto_region 13 with fail
        have g1 := blk_cell HNEW.out 1
        have g2 := blk_cell HNEW.out 2
        have f2 := (HB5.cell (p := ⟨b, o + k * 5 + 2, none⟩) HBV.out).trans K2.out
        have f3 := (HB5.cell (p := ⟨b, o + k * 5 + 3, none⟩) HBV.out).trans K3.out
        have hw5 := HBW.out.trans (HB5.mono HBW.out.size)
        clear hg2
        by_cases h1 : p2 = qk
        case neg =>
         have h1' : (p2 != qk) = true := by simpa using h1
         have hf := Lib.hid (show r = false by rw [← HR.out, acc_roles (r := ⟨r0, r1, r2, r3, r4, r5, r6, r7, r8, r9, r10, r11, r12, r13, r14⟩) (L := L) HLQ.out hkl (by rw [row_some HQ.out HROW.out, show (p2 == qk) = false from by simpa using h1]; rfl), Bool.and_false])
         go_wp2_with fail
         go_quiet (fail)
         go_wp2_with fail
         go_ret
         exact ⟨by rw [hf.out]; first | done | rfl, ((Fr.ofBelow hw5).drewN _).below⟩
        case pos =>
        have h1' : (p2 != qk) = false := by simpa using h1
        by_cases h2 : p3 = qb
        case neg =>
         have h2' : (p3 != qb) = true := by simpa using h2
         have hf := Lib.hid (show r = false by rw [← HR.out, acc_roles (r := ⟨r0, r1, r2, r3, r4, r5, r6, r7, r8, r9, r10, r11, r12, r13, r14⟩) (L := L) HLQ.out hkl (by rw [row_some HQ.out HROW.out, show (p3 == qb) = false from by simpa using h2, Bool.and_false]; rfl), Bool.and_false])
         go_wp2_with fail
         go_quiet (fail)
         go_wp2_with fail
         go_ret
         exact ⟨by rw [hf.out]; first | done | rfl, ((Fr.ofBelow hw5).drewN _).below⟩
        case pos =>
        have h2' : (p3 != qb) = false := by simpa using h2
        go_wp2_with fail
        go_quiet (fail)
        generalize hW6 : w2.drewN _ = W6
        have HB6 := Lib.hid (show Below wr.heap.size wr W6 from hW6 ▸ ((Fr.ofBelow HB5).drewN _).below)
        clear hW6
        have HSZ6 := HB6.out.size
        go_wp2_with fail
        go_loopw [8] (fun i wi => ∃ j : Nat, j ≤ k ∧ i = .int .i64 (j : Int) ∧ Below W6.heap.size W6 wi ∧ ∀ j' (hj : j' < L.length), j' < j → L[j'].code ≠ qc) (fun i _ => k - (intOf i).toNat)
        case atStart => exact ⟨0, by omega, rfl, Below.refl _ _, fun j hj h => by omega⟩
        case round =>
         obtain ⟨j, hj, rfl, hbi, halli⟩ := hrel
         have HAI := Lib.hid halli
         clear halli
         have hsi := hbi.size
         have HBI := Lib.hid (HB6.out.trans (hbi.mono HSZ6))
         by_cases hjk : j < k
         case pos =>
          have hjkI : (j : Int) < (k : Int) := by omega
          have hj15 : (j : Int) < 15 := by omega
          have hjl : j < L.length := by rw [HLL.out]; omega
          obtain ⟨es2, hes2, hat2⟩ := HEL.out j hjl
          obtain ⟨q2, hq2⟩ : ∃ q2, L[j] = q2 := ⟨_, rfl⟩
          rw [hq2] at hes2
          have HQ2 := Lib.hid hq2
          obtain ⟨jn, jc, jk, jb, jm⟩ := q2
          have hes3 : es2 = [.string jn, .int .i64 jc, .int .i64 jk, .int .i64 jb, .bool jm] := hes2
          subst hes3
          have c1 := (hat2.fr ((Fr.ofBelow (hb.trans (HBI.out.mono hsz))).mono (fun k hk => hk.2))).c (j := 1) rfl
          have c2 := (HBI.out.cell (p := ⟨b, o + k * 5 + 1, none⟩) HBV.out).trans KC.out
          clear hes2 hat2 hq2
          by_cases he : jc = qc
          case pos =>
           have he' : (jc == qc) = true := by simpa using he
           have hf := Lib.hid (show r = false by rw [← HR.out, acc_roles (r := ⟨r0, r1, r2, r3, r4, r5, r6, r7, r8, r9, r10, r11, r12, r13, r14⟩) (L := L) HLQ.out hkl (row_twice HQ.out HROW.out hjk hjl (by rw [HQ2.out]; exact he)), Bool.and_false])
           clear he
           go_wp2_with fail
           go_quiet (fail)
           go_wp2_with fail
           go_ret
           exact ⟨by rw [hf.out]; first | done | rfl, ((Fr.ofBelow (HBW.out.trans (HBI.out.mono HBW.out.size))).drewN _).below⟩
          case neg =>
           have he' : (jc == qc) = false := by simpa using he
           have HNE2 := Lib.hid he
           clear he
           go_wp2_with fail
           go_quiet (fail)
           go_wp2_with fail
           go_roundw
           case rel => exact ⟨j + 1, by omega, by go_num, ((Fr.ofBelow hbi).drewN _).below, fun j' hj' hjj => by
            rcases Nat.lt_or_ge j' j with h | h
            · exact HAI.out j' hj' h
            · have : j' = j := by omega
              subst this
              rw [HQ2.out]
              exact HNE2.out⟩
           case measure => first | exact meas_v hjk | (simp only [intOf]; omega)
         case neg =>
          have hjkI : ¬ (j : Int) < (k : Int) := by omega
          have hjk2 : j = k := by omega
          have HRW := Lib.hid (show roleRow ch L k = true from row_apart HQ.out HROW.out h1 h2 (fun j' hj' hjk' => HAI.out j' hj' (by omega)))
          go_wp2_with fail
          go_roundw
          case rel => exact ⟨k + 1, by omega, by go_num, hb.trans (HBI.out.mono hsz), fun i hi => by
           rcases Nat.lt_or_ge i k with h | h
           · exact HA.out i h
           · have : i = k := by omega
             subst this
             exact HRW.out⟩
          case measure => first | exact meas_v hlt | (simp only [intOf]; omega)
    case neg =>
     have hltI : ¬ (k : Int) < 15 := by omega
     have hf := Lib.hid (show r = true by rw [← HR.out, HC1.out, HC2.out, acc_all (r := ⟨r0, r1, r2, r3, r4, r5, r6, r7, r8, r9, r10, r11, r12, r13, r14⟩) (L := L) HLQ.out HC3.out HD.out (fun j hj => HA.out j (by have := HLL.out; omega))]; rfl)
     go_wp2_with fail
     go_ret
     exact ⟨by rw [hf.out]; first | done | rfl, HBW.out⟩
end Go.Proofs.YtekelchdbkjjjaaGreat
namespace Go.Proofs.YtekelchdbkjjjaaGreat
open Go Go.RowKit
open Go.Maps (Keyed)
theorem find_n {l : List XAccount} {A : Option Addr} {c n : Nat} {w : World} (hN : l.length = n) (hl : ListC AccountC 4 w (· < w.heap.size) [.slice A l.length c] l) (hn : l.length ≤ 1000) (code : Int) (hc : intBd code) {o : XAccount} {s : Bool} (ho : accO (findA l code) = o) (hs : (findA l code).isSome = s) : Calls Tryz.prog 56 #[.slice A n c, .int .i64 code] w (Quiet w (.tuple #[.agg (accL o).toArray, .bool s])) := by
 subst hN ho hs
 exact find_c l A c code w hl hc hn
theorem rfind_n {l : List XAccount} {A : Option Addr} {c n : Nat} {w : World} (hN : l.length = n) (hl : ListC AccountC 4 w (· < w.heap.size) [.slice A l.length c] l) (hn : l.length ≤ 1000) (code : Int) (hc : intBd code) {o : XAccount} {s : Bool} (ho : accO (findA l code) = o) (hs : (findA l code).isSome = s) : Calls Tryz.prog 32 #[.slice A n c, .int .i64 code] w (Quiet w (.tuple #[.agg (accL o).toArray, .bool s])) := by
 subst hN ho hs
 exact rfind_c l A c code w hl hc hn
theorem valid_n {l : List XAccount} {A : Option Addr} {c n : Nat} {w : World} (hN : l.length = n) (hl : ListC AccountC 4 w (· < w.heap.size) [.slice A l.length c] l) (hn : l.length ≤ 1000) (g : Bool) : Calls Tryz.prog 87 #[.slice A n c, .bool g] w (Quiet w (.bool (chartB l g))) := by
 subst hN
 exact chartValid_c l A c g w hl hn
theorem rvalid_n {l : List XAccount} {A : Option Addr} {c n : Nat} {w : World} (hN : l.length = n) (hl : ListC AccountC 4 w (· < w.heap.size) [.slice A l.length c] l) (hn : l.length ≤ 1000) (g : Bool) : Calls Tryz.prog 97 #[.slice A n c, .bool g] w (Quiet w (.bool (chartB l g))) := by
 subst hN
 rw [chart_both]
 exact rchartValid_c l A c g w hl hn
theorem linkB_eq {ec ch : List XAccount} {l : XLink} {o1 o2 : XAccount} {s1 s2 : Bool} (h1 : accO (findA ec l.from_) = o1) (h2 : (findA ec l.from_).isSome = s1) (h3 : accO (findA ch l.to_) = o2) (h4 : (findA ch l.to_).isSome = s2) : linkB ec ch l = (s1 && (s2 && (o1.kind == o2.kind && decide (inD l.since)))) := by
 unfold linkB
 subst h1 h2 h3 h4
 cases findA ec l.from_ with
 | none => rfl
 | some a => cases findA ch l.to_ with
  | none => rfl
  | some b => rfl
theorem linkRow_at {ec ch : List XAccount} {ls : List XLink} {k : Nat} {l : XLink} (h : ls[k]? = some l) : linkRow ec ch ls k = (linkB ec ch l && !((ls.take k).any fun k => k.from_ == l.from_ && k.since == l.since)) := by unfold linkRow; rw [h]
set_option maxHeartbeats 2000000 in
theorem link_c (s cu : ByteArray) (Ac Al Ah : Option Addr) (n m cc nl cl hc : Nat) (jo : Bool) (ec ch : List XAccount) (l : XLink) (w : World) (hN : ec.length = n) (hM : ch.length = m) (hec : ListC AccountC 4 w (· < w.heap.size) [.slice Ac ec.length cc] ec) (hch : ListC AccountC 4 w (· < w.heap.size) [.slice Ah ch.length hc] ch) (hl : linkBd l) (hn : ec.length ≤ 1000) (hm : ch.length ≤ 1000) :
 Calls Tryz.prog 120 #[.agg (entL s cu Ac n cc Al nl cl jo).toArray, .slice Ah m hc, .agg (linkL l).toArray] w (Quiet w (.bool (linkB ec ch l))) := by
 obtain ⟨r, hr⟩ : ∃ r, linkB ec ch l = r := ⟨_, rfl⟩
 rw [hr]
 obtain ⟨o1, ho1⟩ : ∃ o, accO (findA ec l.from_) = o := ⟨_, rfl⟩
 obtain ⟨s1, hs1⟩ : ∃ s, (findA ec l.from_).isSome = s := ⟨_, rfl⟩
 obtain ⟨o2, ho2⟩ : ∃ o, accO (findA ch l.to_) = o := ⟨_, rfl⟩
 obtain ⟨s2, hs2⟩ : ∃ s, (findA ch l.to_).isSome = s := ⟨_, rfl⟩
 have HR := Lib.hid (hr.symm.trans (linkB_eq ho1 hs1 ho2 hs2))
 obtain ⟨l1, l2, l3⟩ := l
 obtain ⟨b1, b2, b3⟩ := hl
 simp only at b1 b2 b3 ho1 hs1 ho2 hs2
 have HF1 := Lib.hid (fun (w2 : World) (hb : Below w.heap.size w w2) => find_n hN (chart_keep hec hb) hn l1 b1 ho1 hs1)
 have HF2 := Lib.hid (fun (w2 : World) (hb : Below w.heap.size w w2) => find_n hM (chart_keep hch hb) hm l2 b2 ho2 hs2)
 clear hr ho1 hs1 ho2 hs2 hec hch hN hM hn hm b1 b2
 show Calls Tryz.prog 120 #[.agg #[.string s, .string cu, .slice Ac n cc, .slice Al nl cl, .bool jo], .slice Ah m hc, .agg #[.int .i64 l1, .int .i64 l2, .int .i64 l3]] w (Quiet w (.bool r))
 go_enter Tryz.func120, Tryz.ntmps120
 go_upto_region 1 with fail
 have H := heap_alloc_new w (.cells #[.string s, .string cu, .slice Ac n cc, .slice Al nl cl, .bool jo] 92)
 have HB := below1 w (.cells #[.string s, .string cu, .slice Ac n cc, .slice Al nl cl, .bool jo] 92)
 have HS := blk_lt H
 generalize hW : w.alloc (Obj.cells #[.string s, .string cu, .slice Ac n cc, .slice Al nl cl, .bool jo] 92) = W at *
 have H2 := heap_alloc_new W (.cells #[.int .i64 l1, .int .i64 l2, .int .i64 l3] 135)
 have HB2 := below1 W (.cells #[.int .i64 l1, .int .i64 l2, .int .i64 l3] 135)
 have HS2 := blk_lt H2
 replace H := alloc_keep H (Obj.cells #[.int .i64 l1, .int .i64 l2, .int .i64 l3] 135)
 generalize hW2 : W.alloc (Obj.cells #[.int .i64 l1, .int .i64 l2, .int .i64 l3] 135) = W2 at *
 clear hW2
 have eW : W.heap.size = w.heap.size + 1 := by rw [← hW]; simp
 rw [eW] at H2
 clear hW
 have hb2 := HB.trans (HB2.mono HB.size)
 have e2 := blk_cell H 2
 have f0 := blk_cell H2 0
 have HH := Lib.hid H
 have HH2 := Lib.hid H2
 clear H H2
 go_wp2_with fail
 refine (HF1.out W2 hb2).mono ?_
 rintro e w3 ⟨rfl, hb3⟩
 have hb03 := hb2.trans (hb3.mono hb2.size)
 have K3 := (hb3.block _ (blk_lt HH2.out)).trans HH2.out
 obtain ⟨p1, p2, p3, p4⟩ := o1
 go_upto_region 2 with fail
 have H4 := heap_alloc_new w3 (.cells #[.int .i64 p1, .int .i64 p2, .int .i64 p3, .int .i64 p4] 87)
 have HB4 := below1 w3 (.cells #[.int .i64 p1, .int .i64 p2, .int .i64 p3, .int .i64 p4] 87)
 have HS4 := blk_lt H4
 replace K3 := alloc_keep K3 (Obj.cells #[.int .i64 p1, .int .i64 p2, .int .i64 p3, .int .i64 p4] 87)
 generalize hW4 : w3.alloc (Obj.cells #[.int .i64 p1, .int .i64 p2, .int .i64 p3, .int .i64 p4] 87) = W4 at *
 clear hW4
 have hb04 := hb03.trans (HB4.mono hb03.size)
 have f1 := blk_cell K3 1
 have HK3 := Lib.hid K3
 have HH4 := Lib.hid H4
 clear K3 H4 e2 f0
 go_wp2_with fail
 refine (HF2.out W4 hb04).mono ?_
 rintro e w5 ⟨rfl, hb5⟩
 have hb05 := hb04.trans (hb5.mono hb04.size)
 have K5 := (hb5.block _ (blk_lt HK3.out)).trans HK3.out
 have G5 := (hb5.block _ (blk_lt HH4.out)).trans HH4.out
 obtain ⟨q1, q2, q3, q4⟩ := o2
 go_upto_region 3 with fail
 have H6 := heap_alloc_new w5 (.cells #[.int .i64 q1, .int .i64 q2, .int .i64 q3, .int .i64 q4] 87)
 have HB6 := below1 w5 (.cells #[.int .i64 q1, .int .i64 q2, .int .i64 q3, .int .i64 q4] 87)
 have HS6 := blk_lt H6
 replace K5 := alloc_keep K5 (Obj.cells #[.int .i64 q1, .int .i64 q2, .int .i64 q3, .int .i64 q4] 87)
 replace G5 := alloc_keep G5 (Obj.cells #[.int .i64 q1, .int .i64 q2, .int .i64 q3, .int .i64 q4] 87)
 generalize hW6 : w5.alloc (Obj.cells #[.int .i64 q1, .int .i64 q2, .int .i64 q3, .int .i64 q4] 87) = W6 at *
 clear hW6
 have hb06 := hb05.trans (HB6.mono hb05.size)
 have f2 := blk_cell K5 2
 have g1 := blk_cell G5 1
 have k1 := blk_cell H6 1
 clear K5 G5 H6 f1
 cases s1 with
 | false =>
  have hf := Lib.hid (show r = false by rw [HR.out]; rfl)
  go_wp2_with fail
  go_ret
  exact ⟨by rw [hf.out]; first | done | rfl, hb06⟩
 | true =>
 cases s2 with
 | false =>
  have hf := Lib.hid (show r = false by rw [HR.out]; rfl)
  go_wp2_with fail
  go_ret
  exact ⟨by rw [hf.out]; first | done | rfl, hb06⟩
 | true =>
 by_cases h1 : p2 = q2
 case neg =>
  have h1' : (p2 == q2) = false := by simpa using h1
  have hf := Lib.hid (show r = false by rw [HR.out, h1']; rfl)
  go_wp2_with fail
  go_ret
  exact ⟨by rw [hf.out]; first | done | rfl, hb06⟩
 case pos =>
  have h1' : (p2 == q2) = true := by simpa using h1
  have hf := Lib.hid (show r = decide (inD l3) by rw [HR.out, h1']; rfl)
  obtain ⟨d, hd⟩ : ∃ d, decide (inD l3) = d := ⟨_, rfl⟩
  have hcall := dvalid_c l3 W6
  rw [hd] at hcall
  have HD := Lib.hid hd
  clear hd
  go_wp2_with fail
  refine hcall.mono ?_
  clear hcall
  rintro e w7 ⟨rfl, hb7⟩
  go_wp2_with fail
  go_ret
  exact ⟨by rw [hf.out, HD.out]; first | done | rfl, hb06.trans (hb7.mono hb06.size)⟩
end Go.Proofs.YtekelchdbkjjjaaGreat
namespace Go.Proofs.YtekelchdbkjjjaaGreat
open Go Go.RowKit
open Go.Maps (Keyed)
open Go.WideMaps (KeyLaw)
theorem try_laidOut : laidOutB Tryz.prog = true := by kernel_rfl
theorem link_row : (135 : TypeId) < Tryz.prog.types.size := of_decide_eq_true (by kernel_rfl)
theorem link_wide : (match Tryz.prog.underlying 135 with | some (.array _ _) | some (.struct _) => true | _ => false) = true := by kernel_rfl
theorem link_law : KeyLaw Tryz.prog 135 := deep_law_laid try_laidOut (m := 2) (by omega) link_row (by kernel_rfl) link_wide
theorem link_keyed : Keyed Tryz.prog 135 := Keyed.of_law link_law
theorem int_cells : Tryz.prog.cellsOf 3 = 1 := by kernel_rfl
theorem link_cells : Tryz.prog.cellsOf 135 = 3 := by kernel_rfl
theorem keyLits_int {d : Nat} {n : Int} (h : intBd n) : Tryz.prog.keyLits (d + 1) 3 [.int .i64 n] = some [.int .i64 n] := by
 unfold Program.keyLits
 rw [int_uty]
 simp [WalkArith.wf_i64 h]
theorem link_keyLits {d : Nat} {a z b : Int} (ha : intBd a) (hz : intBd z) (hb : intBd b) : Tryz.prog.keyLits (d + 2) 135 [.int .i64 a, .int .i64 z, .int .i64 b] = some [.int .i64 a, .int .i64 z, .int .i64 b] := by
 unfold Program.keyLits
 rw [Tryz.underlying135]
 have h1 := keyLits_int (d := d) ha
 have h2 := keyLits_int (d := d) hz
 have h3 := keyLits_int (d := d) hb
 simp [link_cells, int_cells, h1, h2, h3]
theorem link_keyType : Tryz.prog.keyType 135 = true := by kernel_rfl
theorem link_isStruct : ∃ fs, Tryz.prog.underlying 135 = some (.struct fs) := ⟨_, Tryz.underlying135⟩
theorem link_formed {a b c : Value} : (Value.agg #[a, b, c]).formed Tryz.prog 135 = true := by
 obtain ⟨fs, hu⟩ := link_isStruct
 simp [Value.formed, hu, link_cells]
theorem types_size : ∃ d, Tryz.prog.types.size + 1 = d + 2 := ⟨Tryz.prog.types.size - 1, by have h : 135 < Tryz.prog.types.size := link_row; omega⟩
theorem link_keyOf {a z b : Int} (ha : intBd a) (hz : intBd z) (hb : intBd b) : keyOf Tryz.prog 135 (.agg #[.int .i64 a, .int .i64 z, .int .i64 b]) = some (.string (keyBytes [.int .i64 a, .int .i64 z, .int .i64 b])) := by
 obtain ⟨fs, hu⟩ := link_isStruct
 obtain ⟨d, hd⟩ := types_size
 unfold keyOf
 rw [hu]
 simp only [link_keyType, link_formed, Bool.and_self, if_true, hd, Value.cells]
 rw [link_keyLits ha hz hb]; rfl
abbrev LK := {p : Int × Int // intBd p.1 ∧ intBd p.2}
def lkKey (c : LK) : Lit := .string (keyBytes [.int .i64 c.1.1, .int .i64 0, .int .i64 c.1.2])
theorem lkKey_of (c : LK) : keyOf Tryz.prog 135 (.agg #[.int .i64 c.1.1, .int .i64 0, .int .i64 c.1.2]) = some (lkKey c) := link_keyOf c.2.1 bd0 c.2.2
theorem lkKey_inj (x y : LK) (h : lkKey x = lkKey y) : x = y := by
 have h1 := lkKey_of x
 have h2 := lkKey_of y
 rw [← h] at h2
 have h3 := link_keyed.inj h1 h2
 have h4 := congrArg Array.toList (Value.agg.inj h3)
 simp only [List.cons.injEq, Value.int.injEq, true_and, and_true] at h4
 exact Subtype.ext (Prod.ext h4.1 h4.2)
theorem lkKey_lit (x : LK) : WideAt.IsKeyLit (lkKey x) := trivial
theorem lmap_uty : Tryz.prog.underlying 175 = some (.map 135 4) := by kernel_rfl
abbrev SetL (w : World) (b n : Nat) (f : LK → Bool) : Prop := SetK Tryz.prog 135 4 lkKey w b n f
def seenL (ls : List XLink) (k : Nat) (c : LK) : Bool := (ls.take k).any fun x => x.from_ == c.1.1 && x.since == c.1.2
theorem seenL_succ {ls : List XLink} {k : Nat} {l : XLink} (hk : ls[k]? = some l) (h1 : intBd l.from_) (h3 : intBd l.since) {F : LK → Bool} (hF : seenL ls k = F) (d : LK) : (if d = (⟨(l.from_, l.since), h1, h3⟩ : LK) then true else F d) = seenL ls (k + 1) d := by
 obtain ⟨hl, rfl⟩ := List.getElem?_eq_some_iff.1 hk
 unfold seenL
 rw [take_any_succ hl, ← hF]
 by_cases h : d = (⟨(ls[k].from_, ls[k].since), h1, h3⟩ : LK)
 · rw [if_pos h, h]; simp
 · rw [if_neg h]
   have : (ls[k].from_ == d.1.1 && ls[k].since == d.1.2) = false := by
    rw [Bool.and_eq_false_iff]
    by_cases e1 : ls[k].from_ = d.1.1
    · right
      have e2 : ¬ ls[k].since = d.1.2 := fun e2 => h (Subtype.ext (Prod.ext e1.symm e2.symm))
      simpa using e2
    · left; simpa using e1
   rw [this, Bool.or_false]; rfl
def mapB (ec ch : List XAccount) (ls : List XLink) : Bool := chartB ch true && chartB ec false && decide (ls.length ≤ 400) && linksB ec ch ls
theorem mapB_row {ec ch : List XAccount} {ls : List XLink} {k : Nat} (hk : k < ls.length) (h : linkRow ec ch ls k = false) : mapB ec ch ls = false := by
 unfold mapB linksB
 rw [all_range_false hk h, Bool.and_false]
set_option maxHeartbeats 2000000 in
theorem mapValid_c (s cu : ByteArray) (Ac Al Ah : Option Addr) (n m nl cc cl hc : Nat) (jo : Bool) (ec ch : List XAccount) (ls : List XLink) (w : World) (hN : ec.length = n) (hM : ch.length = m) (hNL : ls.length = nl) (hec : ListC AccountC 4 w (· < w.heap.size) [.slice Ac ec.length cc] ec) (hls : ListC LinkC 3 w (· < w.heap.size) [.slice Al ls.length cl] ls) (hch : ListC AccountC 4 w (· < w.heap.size) [.slice Ah ch.length hc] ch) (hn : ec.length ≤ 1000) (hm : ch.length ≤ 1000) (hnl : ls.length ≤ 1000) :
 Calls Tryz.prog 93 #[.agg (entL s cu Ac n cc Al nl cl jo).toArray, .slice Ah m hc] w (Quiet w (.bool (mapB ec ch ls))) := by
 have hmm := @run_makeMap Tryz.prog
 obtain ⟨r, hr⟩ : ∃ r, mapB ec ch ls = r := ⟨_, rfl⟩
 rw [hr]
 have HR := Lib.hid hr
 have HV1 := Lib.hid (fun (w2 : World) (hb : Below w.heap.size w w2) => valid_n hM (chart_keep hch hb) hm true)
 have HV2 := Lib.hid (fun (w2 : World) (hb : Below w.heap.size w w2) => valid_n hN (chart_keep hec hb) hn false)
 have HLK := Lib.hid (fun (w2 : World) (hb : Below w.heap.size w w2) (l : XLink) (hl : linkBd l) => link_c s cu Ac Al Ah n m cc nl cl hc jo ec ch l w2 hN hM (chart_keep hec hb) (chart_keep hch hb) hl hn hm)
 have HLS := Lib.hid hls
 have HNL := Lib.hid hNL
 rw [hNL] at hnl
 clear hr hec hch hN hM hls hNL hn hm
 show Calls Tryz.prog 93 #[.agg #[.string s, .string cu, .slice Ac n cc, .slice Al nl cl, .bool jo], .slice Ah m hc] w (Quiet w (.bool r))
 go_enter Tryz.func93, Tryz.ntmps93
 go_upto_region 1 with fail
 have H := heap_alloc_new w (.cells #[.string s, .string cu, .slice Ac n cc, .slice Al nl cl, .bool jo] 92)
 have HB := below1 w (.cells #[.string s, .string cu, .slice Ac n cc, .slice Al nl cl, .bool jo] 92)
 have HS := blk_lt H
 generalize hW : w.alloc (Obj.cells #[.string s, .string cu, .slice Ac n cc, .slice Al nl cl, .bool jo] 92) = W at *
 clear hW
 have HH := Lib.hid H
 clear H
 go_wp2_with fail
 refine (HV1.out W HB).mono ?_
 rintro e w2 ⟨rfl, hb2⟩
 have hb02 := HB.trans (hb2.mono HB.size)
 cases hc1 : chartB ch true with
 | false =>
  have hf := Lib.hid (show r = false by rw [← HR.out]; unfold mapB; rw [hc1]; rfl)
  go_wp2_with fail
  go_ret
  exact ⟨by rw [hf.out]; first | done | rfl, hb02⟩
 | true =>
 have HC1 := Lib.hid hc1
 have G2 := (hb2.block _ HS).trans HH.out
 have e2 := blk_cell G2 2
 have hs2 := hb2.size
 clear hc1
 go_wp2_with fail
 refine (HV2.out w2 hb02).mono ?_
 rintro e w3 ⟨rfl, hb3⟩
 have hb03 := hb02.trans (hb3.mono hb02.size)
 have hs3 := hb3.size
 have G3 := (hb3.block _ (by omega)).trans G2
 have e3 := blk_cell G3 3
 clear e2 G2
 cases hc2 : chartB ec false with
 | false =>
  have hf := Lib.hid (show r = false by rw [← HR.out]; unfold mapB; rw [hc2, Bool.and_false]; rfl)
  go_wp2_with fail
  go_ret
  exact ⟨by rw [hf.out]; first | done | rfl, hb03⟩
 | true =>
 have HC2 := Lib.hid hc2
 clear hc2
 by_cases hle : nl ≤ 400
 case neg =>
  have hleI : (400 : Int) < (nl : Int) := by omega
  have hf := Lib.hid (show r = false by rw [← HR.out]; unfold mapB; rw [HNL.out, decide_eq_false hle, Bool.and_false]; rfl)
  go_wp2_with fail
  go_ret
  exact ⟨by rw [hf.out]; first | done | rfl, hb03⟩
 case pos =>
 have hleI : ¬ (400 : Int) < (nl : Int) := by omega
 have HG3 := Lib.hid G3
 clear G3
 go_upto_region 4 with fail
 have hs0 := SetK.made Tryz.prog 135 4 lkKey w3
 have HB4 := below1 w3 (.map #[] 0)
 have HS4 : w3.heap.size + 1 = (w3.alloc (.map #[] 0)).heap.size := by simp
 have G4 := alloc_keep HG3.out (.map #[] 0)
 generalize hW4 : w3.alloc (Obj.map #[] 0) = W4 at *
 clear hW4 e3
 have e3 := blk_cell G4 3
 have HG4 := Lib.hid G4
 have hb04 := hb03.trans (HB4.mono hb03.size)
 clear G4
 go_wp2_with fail
 go_loopw [28] (fun i wr => ∃ k : Nat, k ≤ nl ∧ i = .int .i64 (k : Int) ∧ Fr (QX W4.heap.size w3.heap.size) W4 wr ∧ SetL wr w3.heap.size k (seenL ls k) ∧ ∀ j, j < k → linkRow ec ch ls j = true) (fun i _ => nl - (intOf i).toNat)
 case atStart => exact ⟨0, by omega, rfl, Fr.refl _ _, hs0.eqv (fun _ => rfl), fun j hj => by omega⟩
 case round =>
  obtain ⟨k, hk, rfl, hfr, hset, hall⟩ := hrel
  have HA := Lib.hid hall
  have HF := Lib.hid hfr
  have hsz := hfr.size
  clear hall hfr
  have hb0 : Below w.heap.size w wr := ((Fr.ofBelow hb04).trans (HF.out.mono (fun k (hk : k < w.heap.size) => ⟨by omega, by omega⟩))).below
  have hs0' := hb0.size
  by_cases hlt : k < nl
  case pos =>
   have hltI : (k : Int) < (nl : Int) := by omega
   have hkl : k < ls.length := by rw [HNL.out]; exact hlt
   obtain ⟨b, o, es1, hAe, hbw, hes, hat⟩ := ListC.get HLS.out k hkl
   subst hAe
   obtain ⟨hes1, hlb⟩ := LinkC.lit hes
   obtain ⟨l, hl⟩ : ∃ l, ls[k] = l := ⟨_, rfl⟩
   rw [hl] at hes1 hlb
   have HL := Lib.hid (show ls[k]? = some l by rw [List.getElem?_eq_getElem hkl, hl])
   obtain ⟨l1, l2, l3⟩ := l
   subst hes1
   have HLB := Lib.hid hlb
   have HB1 := Lib.hid hlb.1
   have HB3 := Lib.hid hlb.2.2
   have HAR := Lib.hid ((hat.fr (Fr.ofBelow hb0)).range)
   have E6 := (HF.out.block w.heap.size ⟨by omega, by omega⟩).trans HG4.out
   have HLINK := Lib.hid (HLK.out)
   obtain ⟨F, hF⟩ : ∃ F, seenL ls k = F := ⟨_, rfl⟩
   rw [hF] at hset
   have HF2 := Lib.hid hF
   clear hes hat hl hF hbw hlb
   go_upto_region 7 with (show wpList _ _ _ (Oper.mk (some 31) _ _ _ _ _ :: _) _ _; refine wpList_load_mid rfl 135 (.tmp 30) rfl b (o + k * 3) rfl [.int .i64 l1, .int .i64 l2, .int .i64 l3] _ HAR.out Tryz.underlying135 rfl info_link ?_)
   have H6 := heap_alloc_new wr (.cells #[.int .i64 l1, .int .i64 l2, .int .i64 l3] 135)
   have HB6 := below1 wr (.cells #[.int .i64 l1, .int .i64 l2, .int .i64 l3] 135)
   have HS6 := blk_lt H6
   replace E6 := alloc_keep E6 (Obj.cells #[.int .i64 l1, .int .i64 l2, .int .i64 l3] 135)
   generalize hW6 : wr.alloc (Obj.cells #[.int .i64 l1, .int .i64 l2, .int .i64 l3] 135) = W6 at *
   clear hW6
   have f0 := blk_cell H6 0
   have f2 := blk_cell H6 2
   have hset6 := hset.below HB6
   have hs6 := HB6.size
   clear hset
   go_upto_region 8 with fail
   have H8 := heap_alloc_new W6 (.cells #[.int .i64 l1, .int .i64 0, .int .i64 l3] 135)
   have HB8 := below1 W6 (.cells #[.int .i64 l1, .int .i64 0, .int .i64 l3] 135)
   have HS8 := blk_lt H8
   replace E6 := alloc_keep E6 (Obj.cells #[.int .i64 l1, .int .i64 0, .int .i64 l3] 135)
   replace H6 := alloc_keep H6 (Obj.cells #[.int .i64 l1, .int .i64 0, .int .i64 l3] 135)
   generalize hW8 : W6.alloc (Obj.cells #[.int .i64 l1, .int .i64 0, .int .i64 l3] 135) = W8 at *
   clear hW8
   have hset8 := hset6.below HB8
   have hs8 := HB8.size
   have hb68 := HB6.trans (HB8.mono HB6.size)
   have hb08 := hb0.trans (hb68.mono hb0.size)
   have k0 := blk_cell H8 0
   have k1 := blk_cell H8 1
   have k2 := blk_cell H8 2
   have f0 := blk_cell H6 0
   have f1 := blk_cell H6 1
   have f2 := blk_cell H6 2
   have HE8 := Lib.hid E6
   have HH8 := Lib.hid H8
   clear H8 H6 E6 hset6
   obtain ⟨c0, hc0⟩ : ∃ c : LK, c = ⟨(l1, l3), HB1.out, HB3.out⟩ := ⟨_, rfl⟩
   have HKEY := Lib.hid (show keyOf Tryz.prog 135 (.agg #[.int .i64 l1, .int .i64 0, .int .i64 l3]) = some (lkKey c0) by rw [hc0]; exact link_keyOf HB1.out bd0 HB3.out)
   have HSN := Lib.hid (show F c0 = ((ls.take k).any fun x => x.from_ == l1 && x.since == l3) by rw [← HF2.out, hc0]; rfl)
   have HC0 := Lib.hid hc0
   clear hc0
   cases hcont : F c0 with
   | true =>
    have hf := Lib.hid (show r = false by rw [← HR.out]; exact mapB_row hkl (by rw [linkRow_at HL.out, show ((ls.take k).any fun x => x.from_ == l1 && x.since == l3) = true from HSN.out.symm.trans hcont]; simp))
    go_wp2_with (at_lookup; refine wpList_look_set rfl _ _ 175 rfl 135 4 link_keyed lmap_uty bool_uty (bool_zero _) w3.heap.size k F rfl hset8 (.agg #[.int .i64 l1, .int .i64 0, .int .i64 l3]) c0 rfl HKEY.out ?_)
    go_ret
    exact ⟨by rw [hf.out]; first | done | rfl, hb08⟩
   | false =>
    have hcall := HLINK.out W8 hb08 ⟨l1, l2, l3⟩ HLB.out
    obtain ⟨v, hv⟩ : ∃ v, linkB ec ch ⟨l1, l2, l3⟩ = v := ⟨_, rfl⟩
    rw [hv] at hcall
    have HROW := Lib.hid (show linkRow ec ch ls k = v by rw [linkRow_at HL.out, hv, show ((ls.take k).any fun x => x.from_ == l1 && x.since == l3) = false from HSN.out.symm.trans hcont]; simp)
    clear hv
    have HCALL := Lib.hid hcall
    clear hcall
    go_wp2_with (first | (at_lookup; refine wpList_look_set rfl _ _ 175 rfl 135 4 link_keyed lmap_uty bool_uty (bool_zero _) w3.heap.size k F rfl hset8 (.agg #[.int .i64 l1, .int .i64 0, .int .i64 l3]) c0 rfl HKEY.out ?_) | (show wpList _ _ _ (Oper.mk (some 41) _ _ _ _ _ :: _) _ _; refine wpList_load_row_g rfl 92 (.tmp 2) rfl w.heap.size rfl _ _ _ _ HE8.out Tryz.underlying92 rfl info_entity ?_))
    refine HCALL.out.mono ?_
    rintro e wA ⟨rfl, hbA⟩
    have hsetA := hset8.below hbA
    have hsA := hbA.size
    have hb0A := hb08.trans (hbA.mono hb08.size)
    cases v with
    | false =>
     have hf := Lib.hid (show r = false by rw [← HR.out]; exact mapB_row hkl HROW.out)
     go_wp2_with fail
     go_ret
     exact ⟨by rw [hf.out]; first | done | rfl, hb0A⟩
    | true =>
     have KA := (hbA.block _ HS8).trans HH8.out
     have k0 := blk_cell KA 0
     have k1 := blk_cell KA 1
     have k2 := blk_cell KA 2
     clear KA
     go_wp2_with (at_mapUpdate; refine wpList_store_set rfl _ _ _ 175 rfl 135 4 link_keyed lmap_uty bool_uty w3.heap.size k F rfl hsetA (by simp only [maxLen]; omega) lkKey_inj lkKey_lit (.agg #[.int .i64 l1, .int .i64 0, .int .i64 l3]) c0 rfl true rfl HKEY.out ?_; intro wB hsetB hgB; replace hsetB := Lib.hid hsetB)
     go_roundw
     case rel =>
      refine ⟨k + 1, by omega, by go_num, ?_, ?_, ?_⟩
      · exact (HF.out.trans ((Fr.ofBelow (hb68.trans (hbA.mono hb68.size))).mono (fun k hk => by have := hk.1; omega))).grown hgB (fun k hk => hk.1) (fun j hj => by injection hj with hj; exact fun h => h.2 hj.symm)
      · exact hsetB.out.eqv (fun d => by rw [HC0.out]; exact seenL_succ HL.out HB1.out HB3.out HF2.out d)
      · intro j hj
        rcases Nat.lt_or_ge j k with h | h
        · exact HA.out j h
        · have : j = k := by omega
          subst this
          exact HROW.out
     case measure => first | exact meas_v hlt | (simp only [intOf]; omega)
  case neg =>
   have hltI : ¬ (k : Int) < (nl : Int) := by omega
   have hf := Lib.hid (show r = true by
    rw [← HR.out]; unfold mapB linksB
    rw [HC1.out, HC2.out, HNL.out, decide_eq_true hle, all_range_true (fun j hj => HA.out j (by omega))]; rfl)
   go_wp2_with fail
   go_ret
   exact ⟨by rw [hf.out]; first | done | rfl, hb0⟩
end Go.Proofs.YtekelchdbkjjjaaGreat
namespace Go.Proofs.YtekelchdbkjjjaaGreat
open Go Go.RowKit
set_option maxHeartbeats 1000000 in
theorem closed_c (l : XLink) (hl : linkBd l) (g bm N : Nat) (F : Int → Bool) (w : World) (hg : w.heap[g]? = some (.cells #[.map (some bm)] 147 (0, 0))) (hset : SetI w bm N F) : Calls Tryz.prog 95 #[.agg (linkL l).toArray, .pointer (some ⟨g, 0, none⟩)] w (Quiet w (.bool (F l.to_))) := by
 obtain ⟨l1, l2, l3⟩ := l
 have HB2 := Lib.hid hl.2.1
 clear hl
 obtain ⟨v, hv⟩ : ∃ v, F l2 = v := ⟨_, rfl⟩
 show Calls Tryz.prog 95 #[.agg #[.int .i64 l1, .int .i64 l2, .int .i64 l3], .pointer (some ⟨g, 0, none⟩)] w (Quiet w (.bool (F l2)))
 rw [hv]
 have HV := Lib.hid hv
 clear hv
 go_enter Tryz.func95, Tryz.ntmps95
 go_upto_region 1 with fail
 have H := heap_alloc_new w (.cells #[.int .i64 l1, .int .i64 l2, .int .i64 l3] 135)
 have HB := below1 w (.cells #[.int .i64 l1, .int .i64 l2, .int .i64 l3] 135)
 have HS := blk_lt H
 replace hg := alloc_keep hg (Obj.cells #[.int .i64 l1, .int .i64 l2, .int .i64 l3] 135)
 generalize hW : w.alloc (Obj.cells #[.int .i64 l1, .int .i64 l2, .int .i64 l3] 135) = W at *
 clear hW
 have d1 := blk_cell H 1
 have e0 := blk_cell hg 0
 have hset2 := hset.below HB
 clear hset H hg
 go_wp2_with (at_lookup; refine wpList_look_set rfl _ _ 147 rfl 3 4 int_keyed3 imap_uty bool_uty (bool_zero _) bm N F rfl hset2 _ l2 rfl (iKey_of HB2.out) ?_)
 go_ret
 exact ⟨by rw [HV.out]; first | done | rfl, HB⟩
set_option maxHeartbeats 1000000 in
theorem idxL_c (l : List XLink) (A : Option Addr) (c : Nat) (g bm N : Nat) (F : Int → Bool) (w : World) (hg : w.heap[g]? = some (.cells #[.map (some bm)] 147 (0, 0))) (hset : SetI w bm N F) (hl : ListC LinkC 3 w (· < w.heap.size) [.slice A l.length c] l) (hn : l.length ≤ 1000) : Calls Tryz.prog 121 #[.slice A l.length c, .func (.func 95) #[] #[.pointer (some ⟨g, 0, none⟩)]] w (Quiet w (.int .i64 (idxI (fun a => F a.to_) l))) := by
 obtain ⟨r, hr⟩ : ∃ r, idxI (fun a => F a.to_) l = r := ⟨_, rfl⟩
 rw [hr]
 have HR := Lib.hid hr
 clear hr
 obtain ⟨n, hnl⟩ : ∃ n, l.length = n := ⟨_, rfl⟩
 rw [hnl] at hn
 have HL := Lib.hid hl
 have HG := Lib.hid hg
 have HSET := Lib.hid hset
 have HN := Lib.hid hnl
 rw [hnl]
 clear hl hnl hg hset
 go_enter Tryz.func121, Tryz.ntmps121
 go_wp2_with fail
 go_loopw [8] (fun i wr => ∃ k : Nat, k ≤ n ∧ i = .int .i64 (k : Int) ∧ Below w.heap.size w wr ∧ ∀ j (hj : j < l.length), j < k → F l[j].to_ = false) (fun i _ => n - (intOf i).toNat)
 case atStart => exact ⟨0, by omega, rfl, Below.refl _ _, fun j hj h => by omega⟩
 case round =>
  obtain ⟨k, hk, rfl, hb, hall⟩ := hrel
  have HA := Lib.hid hall
  clear hall
  have hsz := hb.size
  by_cases hlt : k < n
  case pos =>
   have hltI : (k : Int) < (n : Int) := by omega
   have hkl : k < l.length := by rw [HN.out]; exact hlt
   obtain ⟨b, o, es, hAe, hbw, hes, hat⟩ := ListC.get HL.out k hkl
   subst hAe
   obtain ⟨hes1, hlb⟩ := LinkC.lit hes
   rw [hes1] at hat
   obtain ⟨ac, hac⟩ : ∃ ac, l[k] = ac := ⟨_, rfl⟩
   rw [hac] at hat hlb
   have HLB := Lib.hid hlb
   have HAC := Lib.hid hac
   have HAR := Lib.hid ((hat.fr (Fr.ofBelow hb)).range)
   have gR := (hb.block g (blk_lt HG.out)).trans HG.out
   have sR := HSET.out.below hb
   clear hes hes1 hat hac hlb
   go_wp2_with (show wpList _ _ _ (Oper.mk (some 15) _ _ _ _ _ :: _) _ _; refine wpList_load_mid rfl 135 (.tmp 14) rfl b (o + k * 3) rfl (linkL ac) _ HAR.out Tryz.underlying135 rfl info_link ?_)
   refine (closed_c ac HLB.out g bm N F wr gR sR).mono ?_
   rintro e w2 ⟨rfl, hb2⟩
   have hbb := hb.trans (hb2.mono hb.size)
   cases hp : F ac.to_ with
   | true =>
    have hf := Lib.hid (show r = (k : Int) by rw [← HR.out]; exact idx_some hkl (by rw [HAC.out]; exact hp) (fun j hj hjk => HA.out j hj hjk))
    clear hp
    go_wp2_with fail
    go_ret
    exact ⟨by rw [hf.out]; first | done | rfl, hbb⟩
   | false =>
    have HP := Lib.hid hp
    clear hp
    go_wp2_with fail
    go_roundw
    case rel => exact ⟨k + 1, by omega, by go_num, hbb, fun j hj hjk => by
     rcases Nat.lt_or_ge j k with h | h
     · exact HA.out j hj h
     · have : j = k := by omega
       subst this
       rw [HAC.out]
       exact HP.out⟩
    case measure =>
     have e : wrap64 ((k : Int) + 1) = ((k + 1 : Nat) : Int) := by unfold wrap64; omega
     simp only [intOf, e]
     omega
  case neg =>
   have hltI : ¬ (k : Int) < (n : Int) := by omega
   have hf := Lib.hid (show r = -1 by rw [← HR.out]; exact idx_none (fun j hj => HA.out j hj (by have := HN.out; omega)))
   go_wp2_with fail
   go_ret
   exact ⟨by rw [hf.out]; first | done | rfl, hb⟩
set_option maxHeartbeats 1000000 in
theorem anyL_c (l : List XLink) (A : Option Addr) (c : Nat) (g bm N : Nat) (F : Int → Bool) (w : World) (hg : w.heap[g]? = some (.cells #[.map (some bm)] 147 (0, 0))) (hset : SetI w bm N F) (hl : ListC LinkC 3 w (· < w.heap.size) [.slice A l.length c] l) (hn : l.length ≤ 1000) : Calls Tryz.prog 94 #[.slice A l.length c, .func (.func 95) #[] #[.pointer (some ⟨g, 0, none⟩)]] w (Quiet w (.bool (l.any fun a => F a.to_))) := by
 have hcall := idxL_c l A c g bm N F w hg hset hl hn
 obtain ⟨n, hnl⟩ : ∃ n, l.length = n := ⟨_, rfl⟩
 rw [hnl] at hcall ⊢
 have hh : decide (0 ≤ idxI (fun a => F a.to_) l) = (l.any fun a => F a.to_) := by rw [idx_any]
 obtain ⟨i, hi⟩ : ∃ i, idxI (fun a => F a.to_) l = i := ⟨_, rfl⟩
 rw [hi] at hcall hh
 clear hset hg
 rw [← hh]
 clear hh hi
 go_enter Tryz.func94, Tryz.ntmps94
 go_wp2_with fail
 refine hcall.mono ?_
 clear hcall
 rintro e w2 ⟨rfl, hb2⟩
 by_cases h : 0 ≤ i
 · have hf : decide (0 ≤ i) = true := decide_eq_true h
   have HF := Lib.hid hf
   clear hf
   go_wp2_with fail
   go_ret
   exact ⟨by rw [HF.out]; first | done | rfl, hb2⟩
 · have hf : decide (0 ≤ i) = false := decide_eq_false h
   have HF := Lib.hid hf
   clear hf
   go_wp2_with fail
   go_ret
   exact ⟨by rw [HF.out]; first | done | rfl, hb2⟩
theorem mapValid_n {e : XEntity} {ch : List XAccount} {Ac Al Ah : Option Addr} {n m nl cc cl hc : Nat} {w : World} (hN : e.chart.length = n) (hM : ch.length = m) (hNL : e.links.length = nl) (hec : ListC AccountC 4 w (· < w.heap.size) [.slice Ac e.chart.length cc] e.chart) (hls : ListC LinkC 3 w (· < w.heap.size) [.slice Al e.links.length cl] e.links) (hch : ListC AccountC 4 w (· < w.heap.size) [.slice Ah ch.length hc] ch) (hn : e.chart.length ≤ 1000) (hm : ch.length ≤ 1000) (hnl : e.links.length ≤ 1000) (w2 : World) (hb : Below w.heap.size w w2) :
 Calls Tryz.prog 93 #[.agg (entL e.name e.currency Ac n cc Al nl cl e.joint).toArray, .slice Ah m hc] w2 (Quiet w2 (.bool (mapB e.chart ch e.links))) :=
 mapValid_c e.name e.currency Ac Al Ah n m nl cc cl hc e.joint e.chart ch e.links w2 hN hM hNL (chart_keep hec hb) (links_keep hls hb) (chart_keep hch hb) hn hm hnl
def entP (ch : List XAccount) (L : List XRole) (e : XEntity) : Bool := nameB e.name && (curB e.currency && (mapB e.chart ch e.links && !(e.links.any fun l => closedP L l.to_)))
set_option maxHeartbeats 2000000 in
theorem entity_c (g : XGroup) (cs : List Value) (x : XEntity) (xs : List Value) (w : World) (hg : GroupC w (· < w.heap.size) cs g) (hx : EntityC w (· < w.heap.size) xs x) (hn : g.chart.length ≤ 1000) (hn2 : x.chart.length ≤ 1000) (hnl : x.links.length ≤ 1000) (hs1 : x.name.size ≤ 1000) (hs2 : x.currency.size ≤ 1000) : Calls Tryz.prog 66 #[.agg cs.toArray, .agg xs.toArray] w (Quiet w (.bool (entP g.chart (rolesOf g.roles) x))) := by
 have hmm := @run_makeMap Tryz.prog
 have hmf : ∀ (fn : Fn) (first cap : Array Value) (w : World), (Instr.makeFunc fn first cap).run Tryz.prog w = .ok (.func fn first cap) w := fun _ _ _ _ => rfl
 obtain ⟨r, hr⟩ : ∃ r, entP g.chart (rolesOf g.roles) x = r := ⟨_, rfl⟩
 rw [hr]
 have HR := Lib.hid hr
 clear hr
 obtain ⟨Ac, cc, Ae, ce, rfl, hch, hen, hcal, hro⟩ := hg.lit
 clear hg
 obtain ⟨cur, ⟨y, m, p⟩, ch, ⟨r0, r1, r2, r3, r4, r5, r6, r7, r8, r9, r10, r11, r12, r13, r14⟩, es⟩ := g
 simp only at hch hen hro hcal hn ⊢
 obtain ⟨Ec, c2, Al, cl, rfl, hec, hel⟩ := hx.lit
 clear hx
 obtain ⟨L, hL⟩ : ∃ L, rolesL r0 r1 r2 r3 r4 r5 r6 r7 r8 r9 r10 r11 r12 r13 r14 = L := ⟨_, rfl⟩
 have hLl : L.length = 15 := by rw [← hL]; rfl
 have HLQ := Lib.hid hL
 have HLL := Lib.hid hLl
 obtain ⟨n, hnn⟩ : ∃ n, ch.length = n := ⟨_, rfl⟩
 obtain ⟨ne, hne⟩ : ∃ ne, es.length = ne := ⟨_, rfl⟩
 have HL := Lib.hid hch
 have HN := Lib.hid hnn
 have HE := Lib.hid hen
 have HNE := Lib.hid hne
 rw [hnn, hne]
 rw [hnn] at hn
 clear hL hLl hch hen hnn hne hcal
 have hrb : ∀ q ∈ L, intBd q.code := by
  rw [← HLQ.out]
  obtain ⟨b0, b1, b2, b3, b4, b5, b6, b7, b8, b9, b10, b11, b12, b13, b14⟩ := hro
  intro q hq
  simp only [rolesL, List.mem_cons, List.not_mem_nil, or_false] at hq
  rcases hq with rfl | rfl | rfl | rfl | rfl | rfl | rfl | rfl | rfl | rfl | rfl | rfl | rfl | rfl | rfl <;> assumption
 have HRB := Lib.hid hrb
 clear hrb hro
 obtain ⟨n2, hn2e⟩ : ∃ n, x.chart.length = n := ⟨_, rfl⟩
 obtain ⟨nl, hnle⟩ : ∃ n, x.links.length = n := ⟨_, rfl⟩
 have HMV := Lib.hid (mapValid_n hn2e HN.out hnle hec hel HL.out hn2 (by rw [HN.out]; exact hn) hnl)
 have HLK := Lib.hid hel
 have HNL := Lib.hid hnle
 rw [hn2e, hnle]
 obtain ⟨s, cu, ec, ls, jo⟩ := x
 simp only at HR HMV HLK HNL hs1 hs2 hnl ⊢
 have HNL2 := Lib.hid hnl
 clear hnl; clear hec hel hn2e hnle hn2
 show Calls Tryz.prog 66 #[.agg #[.string cur, .int .i64 y, .int .i64 m, .int .i64 p, .slice Ac n cc, .int .i64 r0, .int .i64 r1, .int .i64 r2, .int .i64 r3, .int .i64 r4, .int .i64 r5, .int .i64 r6, .int .i64 r7, .int .i64 r8, .int .i64 r9, .int .i64 r10, .int .i64 r11, .int .i64 r12, .int .i64 r13, .int .i64 r14, .slice Ae ne ce], .agg #[.string s, .string cu, .slice Ec n2 c2, .slice Al nl cl, .bool jo]] w (Quiet w (.bool r))
 go_enter Tryz.func66, Tryz.ntmps66
 go_upto_region 1 with fail
 have H := heap_alloc_new w (.cells #[.string cur, .int .i64 y, .int .i64 m, .int .i64 p, .slice Ac n cc, .int .i64 r0, .int .i64 r1, .int .i64 r2, .int .i64 r3, .int .i64 r4, .int .i64 r5, .int .i64 r6, .int .i64 r7, .int .i64 r8, .int .i64 r9, .int .i64 r10, .int .i64 r11, .int .i64 r12, .int .i64 r13, .int .i64 r14, .slice Ae ne ce] 29)
 have HB := below1 w (.cells #[.string cur, .int .i64 y, .int .i64 m, .int .i64 p, .slice Ac n cc, .int .i64 r0, .int .i64 r1, .int .i64 r2, .int .i64 r3, .int .i64 r4, .int .i64 r5, .int .i64 r6, .int .i64 r7, .int .i64 r8, .int .i64 r9, .int .i64 r10, .int .i64 r11, .int .i64 r12, .int .i64 r13, .int .i64 r14, .slice Ae ne ce] 29)
 have HS := blk_lt H
 generalize hW : w.alloc (Obj.cells #[.string cur, .int .i64 y, .int .i64 m, .int .i64 p, .slice Ac n cc, .int .i64 r0, .int .i64 r1, .int .i64 r2, .int .i64 r3, .int .i64 r4, .int .i64 r5, .int .i64 r6, .int .i64 r7, .int .i64 r8, .int .i64 r9, .int .i64 r10, .int .i64 r11, .int .i64 r12, .int .i64 r13, .int .i64 r14, .slice Ae ne ce] 29) = W at *
 have H2 := heap_alloc_new W (.cells #[.string s, .string cu, .slice Ec n2 c2, .slice Al nl cl, .bool jo] 92)
 have HB2 := below1 W (.cells #[.string s, .string cu, .slice Ec n2 c2, .slice Al nl cl, .bool jo] 92)
 have HS2 := blk_lt H2
 replace H := alloc_keep H (Obj.cells #[.string s, .string cu, .slice Ec n2 c2, .slice Al nl cl, .bool jo] 92)
 generalize hW2 : W.alloc (Obj.cells #[.string s, .string cu, .slice Ec n2 c2, .slice Al nl cl, .bool jo] 92) = W2 at *
 clear hW2
 have eW : W.heap.size = w.heap.size + 1 := by rw [← hW]; simp
 rw [eW] at H2
 clear hW
 have hb2 := HB.trans (HB2.mono HB.size)
 have hs2' := HB2.size
 have f0 := blk_cell H2 0
 have HAT := Lib.hid ((box_at (cs := [.string cur, .int .i64 y, .int .i64 m, .int .i64 p, .slice Ac n cc] ++ ([.int .i64 r0, .int .i64 r1, .int .i64 r2, .int .i64 r3, .int .i64 r4, .int .i64 r5, .int .i64 r6, .int .i64 r7, .int .i64 r8, .int .i64 r9, .int .i64 r10, .int .i64 r11, .int .i64 r12, .int .i64 r13, .int .i64 r14] ++ [.slice Ae ne ce])) H).split.2.split.1)
 have HH := Lib.hid H
 have HH2 := Lib.hid H2
 have LT1 := blk_lt H2
 clear H H2
 go_wp2_with fail
 refine (name_c s W2 hs1).mono ?_
 rintro e w3 ⟨rfl, hb3⟩
 have hb03 := hb2.trans (hb3.mono hb2.size)
 have hs3 := hb3.size
 cases hc1 : nameB s with
 | false =>
  have hf := Lib.hid (show r = false by rw [← HR.out]; unfold entP; simp only [hc1]; rfl)
  go_wp2_with fail
  go_ret
  exact ⟨by rw [hf.out]; first | done | rfl, hb03⟩
 | true =>
 have HC1 := Lib.hid hc1
 have E3 := (hb3.block _ LT1).trans HH2.out
 have f1 := blk_cell E3 1
 clear hc1 f0
 go_wp2_with fail
 refine (currency_c cu w3 hs2).mono ?_
 rintro e wC ⟨rfl, hbC⟩
 have hb0C := hb03.trans (hbC.mono hb03.size)
 have hsC := hbC.size
 cases hc2 : curB cu with
 | false =>
  have hf := Lib.hid (show r = false by rw [← HR.out]; unfold entP; simp only [hc2]; simp)
  go_wp2_with fail
  go_ret
  exact ⟨by rw [hf.out]; first | done | rfl, hb0C⟩
 | true =>
 have HC2 := Lib.hid hc2
 have HE3 := Lib.hid ((hbC.block _ (by omega)).trans E3)
 have GC := (hbC.block _ (by omega)).trans ((hb3.block _ (by omega)).trans HH.out)
 have d4 := blk_cell GC 4
 have HCALL := Lib.hid (HMV.out wC hb0C)
 clear hc2 f1 E3 GC
 go_wp2_with (show wpList _ _ _ (Oper.mk (some 19) _ _ _ _ _ :: _) _ _; refine wpList_load_row_g rfl 92 (.tmp 3) rfl (w.heap.size + 1) rfl _ _ _ _ HE3.out Tryz.underlying92 rfl info_entity ?_)
 refine HCALL.out.mono ?_
 rintro e w4 ⟨rfl, hb4⟩
 have hb04 := hb0C.trans (hb4.mono hb0C.size)
 have hs4 := hb4.size
 clear d4
 cases hc3 : mapB ec ch ls with
 | false =>
  have hf := Lib.hid (show r = false by rw [← HR.out]; unfold entP; simp only [hc3]; simp)
  go_wp2_with fail
  go_ret
  exact ⟨by rw [hf.out]; first | done | rfl, hb04⟩
 | true =>
 have HC3 := Lib.hid hc3
 have G4 := (hb4.block _ (by omega)).trans ((hbC.block _ (by omega)).trans ((hb3.block _ (by omega)).trans HH.out))
 have E4 := (hb4.block _ (by omega)).trans HE3.out
 clear hc3
 go_upto_region 4 with fail
 have hs0 := SetK.made Tryz.prog 3 4 iKey w4
 have HB5 := below1 w4 (.map #[] 0)
 have HS5 : w4.heap.size + 1 = (w4.alloc (.map #[] 0)).heap.size := by simp
 replace G4 := alloc_keep G4 (.map #[] 0)
 replace E4 := alloc_keep E4 (.map #[] 0)
 generalize hW5 : w4.alloc (Obj.map #[] 0) = W5 at *
 have H6 := heap_alloc_new W5 (.cells #[.map (some w4.heap.size)] 147)
 have HB6 := below1 W5 (.cells #[.map (some w4.heap.size)] 147)
 have HS6 := blk_lt H6
 replace G4 := alloc_keep G4 (Obj.cells #[.map (some w4.heap.size)] 147)
 replace E4 := alloc_keep E4 (Obj.cells #[.map (some w4.heap.size)] 147)
 generalize hW6 : W5.alloc (Obj.cells #[.map (some w4.heap.size)] 147) = W6 at *
 clear hW6; clear hW5
 have hset6 := hs0.below HB6
 have hs6 := HB6.size
 have HAT6 := Lib.hid ((HAT.out.fr (Fr.ofBelow (hb3.trans ((hbC.mono hs3).trans ((hb4.mono (by omega)).trans ((HB5.mono (by omega)).trans (HB6.mono (by omega)))))))).range)
 have HG6 := Lib.hid G4
 have HE6 := Lib.hid E4
 have HV6 := Lib.hid H6
 have hb06 := hb04.trans ((HB5.mono hb04.size).trans (HB6.mono (by omega)))
 clear G4 E4 H6 hs0
 go_wp2_with (show wpList _ _ _ (Oper.mk (some 27) _ _ _ _ _ :: _) _ _; refine wpList_load_mid rfl 26 (.tmp 26) rfl w.heap.size 5 rfl [.int .i64 r0, .int .i64 r1, .int .i64 r2, .int .i64 r3, .int .i64 r4, .int .i64 r5, .int .i64 r6, .int .i64 r7, .int .i64 r8, .int .i64 r9, .int .i64 r10, .int .i64 r11, .int .i64 r12, .int .i64 r13, .int .i64 r14] _ HAT6.out Tryz.underlying26 rfl info_roles ?_)
 refine (roles_c r0 r1 r2 r3 r4 r5 r6 r7 r8 r9 r10 r11 r12 r13 r14 W6).mono ?_
 rintro e w5 ⟨v, rfl, ⟨A, c, rfl⟩, hrl, hb5⟩
 rw [HLQ.out] at hrl
 have HROL := Lib.hid (show ListC RoleC 5 w5 (fun k => W6.heap.size ≤ k ∧ k < w5.heap.size) [.slice A L.length c] L by rw [HLL.out]; exact hrl)
 have hs5 := hb5.size
 have hbd := hb06.trans (hb5.mono hb06.size)
 have hset5 := hset6.below hb5
 have HG5 := Lib.hid ((hb5.block _ (by omega)).trans HG6.out)
 have HE5 := Lib.hid ((hb5.block _ (by omega)).trans HE6.out)
 have HV5 := Lib.hid ((hb5.block _ (by omega)).trans HV6.out)
 clear hrl hset6
 go_wp2_with fail
 go_loopw [30] (fun i wr => ∃ k : Nat, k ≤ 15 ∧ i = .int .i64 (k : Int) ∧ Fr (QX w5.heap.size w4.heap.size) w5 wr ∧ SetI wr w4.heap.size k (closedP (L.take k))) (fun i _ => 15 - (intOf i).toNat)
 case atStart => exact ⟨0, by omega, rfl, Fr.refl _ _, hset5.eqv (fun _ => rfl)⟩
 case round =>
  obtain ⟨k, hk, rfl, hfr, hset⟩ := hrel
  have HF := Lib.hid hfr
  have hsz := hfr.size
  clear hfr
  have hb0 : Below w.heap.size w wr := ((Fr.ofBelow hbd).trans (HF.out.mono (fun k (hk : k < w.heap.size) => ⟨by omega, by omega⟩))).below
  have VR := (HF.out.block W5.heap.size ⟨by omega, by omega⟩).trans HV5.out
  by_cases hlt : k < 15
  case pos =>
   have hltI : (k : Int) < 15 := by omega
   have hkl : k < L.length := by rw [HLL.out]; exact hlt
   obtain ⟨b, o, es1, hAe, hbw, hes, hat⟩ := ListC.get HROL.out k hkl
   subst hAe
   obtain ⟨q, hq⟩ : ∃ q, L[k] = q := ⟨_, rfl⟩
   have hqb := HRB.out _ (List.getElem_mem hkl)
   rw [hq] at hes hqb
   have HQ := Lib.hid hq
   obtain ⟨qn, qc, qk, qb, qm⟩ := q
   have HQB := Lib.hid hqb
   obtain ⟨hqb1, hqb2⟩ := hqb
   have hes1 : es1 = [.string qn, .int .i64 qc, .int .i64 qk, .int .i64 qb, .bool qm] := hes
   subst hes1
   have HAR := Lib.hid ((hat.fr (HF.out.mono (fun k hk => ⟨hk.2, by omega⟩))).range)
   obtain ⟨F, hF⟩ : ∃ F : Int → Bool, closedP (L.take k) = F := ⟨_, rfl⟩
   rw [hF] at hset
   have HF2 := Lib.hid hF
   clear hes hat hq hF hbw
   go_upto_region 7 with (show wpList _ _ _ (Oper.mk (some 33) _ _ _ _ _ :: _) _ _; refine wpList_load_mid rfl 151 (.tmp 32) rfl b (o + k * 5) rfl [.string qn, .int .i64 qc, .int .i64 qk, .int .i64 qb, .bool qm] _ HAR.out Tryz.underlying151 rfl info_role ?_)
   have H7 := heap_alloc_new wr (.cells #[.string qn, .int .i64 qc, .int .i64 qk, .int .i64 qb, .bool qm] 151)
   have HB7 := below1 wr (.cells #[.string qn, .int .i64 qc, .int .i64 qk, .int .i64 qb, .bool qm] 151)
   have HS7 := blk_lt H7
   replace VR := alloc_keep VR (Obj.cells #[.string qn, .int .i64 qc, .int .i64 qk, .int .i64 qb, .bool qm] 151)
   generalize hW7 : wr.alloc (Obj.cells #[.string qn, .int .i64 qc, .int .i64 qk, .int .i64 qb, .bool qm] 151) = W7 at *
   clear hW7
   have rr1 := blk_cell H7 1
   have rr4 := blk_cell H7 4
   have v0 := blk_cell VR 0
   have hset6 := hset.below HB7
   clear H7 VR hset
   go_wp2_with (at_mapUpdate; refine wpList_store_set rfl _ _ _ 147 rfl 3 4 int_keyed3 imap_uty bool_uty w4.heap.size k F rfl hset6 (by simp only [maxLen]; omega) iKey_inj iKey_lit _ qc rfl (!qm) rfl (iKey_of HQB.out) ?_; intro w9 hset9 hg9; replace hset9 := Lib.hid hset9)
   go_roundw
   case rel =>
    refine ⟨k + 1, by omega, by go_num, ?_, ?_⟩
    · exact (HF.out.trans ((Fr.ofBelow HB7).mono (fun k hk => by have := hk.1; omega))).grown hg9 (fun k hk => hk.1) (fun j hj => by injection hj with hj; exact fun h => h.2 hj.symm)
    · exact hset9.out.eqv (fun d => by rw [closed_take hkl, HQ.out, HF2.out])
   case measure => first | exact meas_v hlt | (simp only [intOf]; omega)
  case neg =>
   have hltI : ¬ (k : Int) < 15 := by omega
   have hk15 : L.take k = L := List.take_of_length_le (by rw [HLL.out]; omega)
   rw [hk15] at hset
   have ER := (HF.out.block (w.heap.size + 1) ⟨by omega, by omega⟩).trans HE5.out
   have e3 := blk_cell ER 3
   obtain ⟨F, hF⟩ : ∃ F : Int → Bool, closedP L = F := ⟨_, rfl⟩
   rw [hF] at hset
   have hcall := anyL_c ls Al cl W5.heap.size w4.heap.size k F wr VR hset (links_keep HLK.out hb0) HNL2.out
   rw [HNL.out] at hcall
   obtain ⟨v, hv⟩ : ∃ v, (ls.any fun a => F a.to_) = v := ⟨_, rfl⟩
   rw [hv] at hcall
   have HRR := Lib.hid (show r = !v by
    rw [← HR.out]; unfold entP
    simp only [HC1.out, HC2.out, HC3.out, Bool.true_and]
    rw [show rolesOf ⟨r0, r1, r2, r3, r4, r5, r6, r7, r8, r9, r10, r11, r12, r13, r14⟩ = L from HLQ.out, hF, hv])
   have HCALL2 := Lib.hid hcall
   clear hcall hset hv hF ER VR hk15
   go_wp2_with fail
   refine HCALL2.out.mono ?_
   rintro e wZ ⟨rfl, hbZ⟩
   go_wp2_with fail
   go_ret
   exact ⟨by rw [HRR.out]; first | done | rfl, hb0.trans (hbZ.mono hb0.size)⟩
end Go.Proofs.YtekelchdbkjjjaaGreat
