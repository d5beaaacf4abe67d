/- slices.ContainsFunc over links; group.entity. Written by gen_b28.py. -/
import Derived.Test.YtekelchdbkjjjaaG19xB0B3
import Derived.Test.YtekelchdbkjjjaaG19xB4B12
import Derived.Test.YtekelchdbkjjjaaG19xB13B14
import Derived.Test.YtekelchdbkjjjaaG19xB15S0
import Derived.Test.YtekelchdbkjjjaaG19xB21B27
import Derived.Test.YtekelchdbkjjjaaProg
set_option linter.unusedVariables false
set_option linter.unusedSimpArgs false
set_option maxRecDepth 4000
attribute [local go_sem ↓] Go.wp_at_zero Go.wp_at_succ
namespace Go.Proofs.Ytekelchdbkjjjaa
open Go Go.RowKit
set_option maxHeartbeats 1000000 in
theorem closed_c (l : XLink) (hl : linkBd l) (g bm N : Nat) (F : Int → Bool) (w : World) (hg : w.heap[g]? = some (.cells #[.map (some bm)] 114 (0, 0))) (hset : SetI w bm N F) : Calls Try.prog 68 #[.agg (linkL l).toArray, .pointer (some ⟨g, 0, none⟩)] w (Quiet w (.bool (F l.to_))) := by
 obtain ⟨l1, l2, l3⟩ := l
 have HB2 := Lib.hid hl.2.1
 clear hl
 obtain ⟨v, hv⟩ : ∃ v, F l2 = v := ⟨_, rfl⟩
 show Calls Try.prog 68 #[.agg #[.int .i64 l1, .int .i64 l2, .int .i64 l3], .pointer (some ⟨g, 0, none⟩)] w (Quiet w (.bool (F l2)))
 rw [hv]
 have HV := Lib.hid hv
 clear hv
 go_enter Try.func68, Try.ntmps68
 go_upto_region 1 with fail
 have H := heap_alloc_new w (.cells #[.int .i64 l1, .int .i64 l2, .int .i64 l3] 81)
 have HB := below1 w (.cells #[.int .i64 l1, .int .i64 l2, .int .i64 l3] 81)
 have HS := blk_lt H
 replace hg := alloc_keep hg (Obj.cells #[.int .i64 l1, .int .i64 l2, .int .i64 l3] 81)
 generalize hW : w.alloc (Obj.cells #[.int .i64 l1, .int .i64 l2, .int .i64 l3] 81) = W at *
 clear hW
 have d1 := blk_cell H 1
 have e0 := blk_cell hg 0
 have hset2 := hset.below HB
 clear hset H hg
 go_wp2_with (at_lookup; refine wpList_look_set rfl _ _ 114 rfl 3 4 int_keyed3 imap_uty bool_uty (bool_zero _) bm N F rfl hset2 _ l2 rfl (iKey_of HB2.out) ?_)
 go_ret
 exact ⟨by rw [HV.out]; first | done | rfl, HB⟩
set_option maxHeartbeats 1000000 in
theorem idxL_c (l : List XLink) (A : Option Addr) (c : Nat) (g bm N : Nat) (F : Int → Bool) (w : World) (hg : w.heap[g]? = some (.cells #[.map (some bm)] 114 (0, 0))) (hset : SetI w bm N F) (hl : ListC LinkC 3 w (· < w.heap.size) [.slice A l.length c] l) (hn : l.length ≤ 1000) : Calls Try.prog 80 #[.slice A l.length c, .func (.func 68) #[] #[.pointer (some ⟨g, 0, none⟩)]] w (Quiet w (.int .i64 (idxI (fun a => F a.to_) l))) := by
 obtain ⟨r, hr⟩ : ∃ r, idxI (fun a => F a.to_) l = r := ⟨_, rfl⟩
 rw [hr]
 have HR := Lib.hid hr
 clear hr
 obtain ⟨n, hnl⟩ : ∃ n, l.length = n := ⟨_, rfl⟩
 rw [hnl] at hn
 have HL := Lib.hid hl
 have HG := Lib.hid hg
 have HSET := Lib.hid hset
 have HN := Lib.hid hnl
 rw [hnl]
 clear hl hnl hg hset
 go_enter Try.func80, Try.ntmps80
 go_wp2_with fail
 go_loopw [8] (fun i wr => ∃ k : Nat, k ≤ n ∧ i = .int .i64 (k : Int) ∧ Below w.heap.size w wr ∧ ∀ j (hj : j < l.length), j < k → F l[j].to_ = false) (fun i _ => n - (intOf i).toNat)
 case atStart => exact ⟨0, by omega, rfl, Below.refl _ _, fun j hj h => by omega⟩
 case round =>
  obtain ⟨k, hk, rfl, hb, hall⟩ := hrel
  have HA := Lib.hid hall
  clear hall
  have hsz := hb.size
  by_cases hlt : k < n
  case pos =>
   have hltI : (k : Int) < (n : Int) := by omega
   have hkl : k < l.length := by rw [HN.out]; exact hlt
   obtain ⟨b, o, es, hAe, hbw, hes, hat⟩ := ListC.get HL.out k hkl
   subst hAe
   obtain ⟨hes1, hlb⟩ := LinkC.lit hes
   rw [hes1] at hat
   obtain ⟨ac, hac⟩ : ∃ ac, l[k] = ac := ⟨_, rfl⟩
   rw [hac] at hat hlb
   have HLB := Lib.hid hlb
   have HAC := Lib.hid hac
   have HAR := Lib.hid ((hat.fr (Fr.ofBelow hb)).range)
   have gR := (hb.block g (blk_lt HG.out)).trans HG.out
   have sR := HSET.out.below hb
   clear hes hes1 hat hac hlb
   go_wp2_with (show wpList _ _ _ (Oper.mk (some 15) _ _ _ _ _ :: _) _ _; refine wpList_load_mid rfl 81 (.tmp 14) rfl b (o + k * 3) rfl (linkL ac) _ HAR.out Try.underlying81 rfl info_link ?_)
   refine (closed_c ac HLB.out g bm N F wr gR sR).mono ?_
   rintro e w2 ⟨rfl, hb2⟩
   have hbb := hb.trans (hb2.mono hb.size)
   cases hp : F ac.to_ with
   | true =>
    have hf := Lib.hid (show r = (k : Int) by rw [← HR.out]; exact idx_some hkl (by rw [HAC.out]; exact hp) (fun j hj hjk => HA.out j hj hjk))
    clear hp
    go_wp2_with fail
    go_ret
    exact ⟨by rw [hf.out]; first | done | rfl, hbb⟩
   | false =>
    have HP := Lib.hid hp
    clear hp
    go_wp2_with fail
    go_roundw
    case rel => exact ⟨k + 1, by omega, by go_num, hbb, fun j hj hjk => by
     rcases Nat.lt_or_ge j k with h | h
     · exact HA.out j hj h
     · have : j = k := by omega
       subst this
       rw [HAC.out]
       exact HP.out⟩
    case measure =>
     have e : wrap64 ((k : Int) + 1) = ((k + 1 : Nat) : Int) := by unfold wrap64; omega
     simp only [intOf, e]
     omega
  case neg =>
   have hltI : ¬ (k : Int) < (n : Int) := by omega
   have hf := Lib.hid (show r = -1 by rw [← HR.out]; exact idx_none (fun j hj => HA.out j hj (by have := HN.out; omega)))
   go_wp2_with fail
   go_ret
   exact ⟨by rw [hf.out]; first | done | rfl, hb⟩
set_option maxHeartbeats 1000000 in
theorem anyL_c (l : List XLink) (A : Option Addr) (c : Nat) (g bm N : Nat) (F : Int → Bool) (w : World) (hg : w.heap[g]? = some (.cells #[.map (some bm)] 114 (0, 0))) (hset : SetI w bm N F) (hl : ListC LinkC 3 w (· < w.heap.size) [.slice A l.length c] l) (hn : l.length ≤ 1000) : Calls Try.prog 67 #[.slice A l.length c, .func (.func 68) #[] #[.pointer (some ⟨g, 0, none⟩)]] w (Quiet w (.bool (l.any fun a => F a.to_))) := by
 have hcall := idxL_c l A c g bm N F w hg hset hl hn
 obtain ⟨n, hnl⟩ : ∃ n, l.length = n := ⟨_, rfl⟩
 rw [hnl] at hcall ⊢
 have hh : decide (0 ≤ idxI (fun a => F a.to_) l) = (l.any fun a => F a.to_) := by rw [idx_any]
 obtain ⟨i, hi⟩ : ∃ i, idxI (fun a => F a.to_) l = i := ⟨_, rfl⟩
 rw [hi] at hcall hh
 clear hset hg
 rw [← hh]
 clear hh hi
 go_enter Try.func67, Try.ntmps67
 go_wp2_with fail
 refine hcall.mono ?_
 clear hcall
 rintro e w2 ⟨rfl, hb2⟩
 by_cases h : 0 ≤ i
 · have hf : decide (0 ≤ i) = true := decide_eq_true h
   have HF := Lib.hid hf
   clear hf
   go_wp2_with fail
   go_ret
   exact ⟨by rw [HF.out]; first | done | rfl, hb2⟩
 · have hf : decide (0 ≤ i) = false := decide_eq_false h
   have HF := Lib.hid hf
   clear hf
   go_wp2_with fail
   go_ret
   exact ⟨by rw [HF.out]; first | done | rfl, hb2⟩
theorem mapValid_n {e : XEntity} {ch : List XAccount} {Ac Al Ah : Option Addr} {n m nl cc cl hc : Nat} {w : World} (hN : e.chart.length = n) (hM : ch.length = m) (hNL : e.links.length = nl) (hec : ListC AccountC 4 w (· < w.heap.size) [.slice Ac e.chart.length cc] e.chart) (hls : ListC LinkC 3 w (· < w.heap.size) [.slice Al e.links.length cl] e.links) (hch : ListC AccountC 4 w (· < w.heap.size) [.slice Ah ch.length hc] ch) (hn : e.chart.length ≤ 1000) (hm : ch.length ≤ 1000) (hnl : e.links.length ≤ 1000) (w2 : World) (hb : Below w.heap.size w w2) :
 Calls Try.prog 66 #[.agg (entL e.name e.currency Ac n cc Al nl cl e.joint).toArray, .slice Ah m hc] w2 (Quiet w2 (.bool (mapB e.chart ch e.links))) :=
 mapValid_c e.name e.currency Ac Al Ah n m nl cc cl hc e.joint e.chart ch e.links w2 hN hM hNL (chart_keep hec hb) (links_keep hls hb) (chart_keep hch hb) hn hm hnl
def entP (ch : List XAccount) (L : List XRole) (e : XEntity) : Bool := nameB e.name && (curB e.currency && (mapB e.chart ch e.links && !(e.links.any fun l => closedP L l.to_)))
set_option maxHeartbeats 2000000 in
theorem entity_c (g : XGroup) (cs : List Value) (x : XEntity) (xs : List Value) (w : World) (hg : GroupC w (· < w.heap.size) cs g) (hx : EntityC w (· < w.heap.size) xs x) (hn : g.chart.length ≤ 1000) (hn2 : x.chart.length ≤ 1000) (hnl : x.links.length ≤ 1000) (hs1 : x.name.size ≤ 1000) (hs2 : x.currency.size ≤ 1000) : Calls Try.prog 48 #[.agg cs.toArray, .agg xs.toArray] w (Quiet w (.bool (entP g.chart (rolesOf g.roles) x))) := by
 have hmm := @run_makeMap Try.prog
 have hmf : ∀ (fn : Fn) (first cap : Array Value) (w : World), (Instr.makeFunc fn first cap).run Try.prog w = .ok (.func fn first cap) w := fun _ _ _ _ => rfl
 obtain ⟨r, hr⟩ : ∃ r, entP g.chart (rolesOf g.roles) x = r := ⟨_, rfl⟩
 rw [hr]
 have HR := Lib.hid hr
 clear hr
 obtain ⟨Ac, cc, Ae, ce, rfl, hch, hen, hcal, hro⟩ := hg.lit
 clear hg
 obtain ⟨cur, ⟨y, m, p⟩, ch, ⟨r0, r1, r2, r3, r4, r5, r6, r7, r8, r9, r10, r11, r12, r13, r14⟩, es⟩ := g
 simp only at hch hen hro hcal hn ⊢
 obtain ⟨Ec, c2, Al, cl, rfl, hec, hel⟩ := hx.lit
 clear hx
 obtain ⟨L, hL⟩ : ∃ L, rolesL r0 r1 r2 r3 r4 r5 r6 r7 r8 r9 r10 r11 r12 r13 r14 = L := ⟨_, rfl⟩
 have hLl : L.length = 15 := by rw [← hL]; rfl
 have HLQ := Lib.hid hL
 have HLL := Lib.hid hLl
 obtain ⟨n, hnn⟩ : ∃ n, ch.length = n := ⟨_, rfl⟩
 obtain ⟨ne, hne⟩ : ∃ ne, es.length = ne := ⟨_, rfl⟩
 have HL := Lib.hid hch
 have HN := Lib.hid hnn
 have HE := Lib.hid hen
 have HNE := Lib.hid hne
 rw [hnn, hne]
 rw [hnn] at hn
 clear hL hLl hch hen hnn hne hcal
 have hrb : ∀ q ∈ L, intBd q.code := by
  rw [← HLQ.out]
  obtain ⟨b0, b1, b2, b3, b4, b5, b6, b7, b8, b9, b10, b11, b12, b13, b14⟩ := hro
  intro q hq
  simp only [rolesL, List.mem_cons, List.not_mem_nil, or_false] at hq
  rcases hq with rfl | rfl | rfl | rfl | rfl | rfl | rfl | rfl | rfl | rfl | rfl | rfl | rfl | rfl | rfl <;> assumption
 have HRB := Lib.hid hrb
 clear hrb hro
 obtain ⟨n2, hn2e⟩ : ∃ n, x.chart.length = n := ⟨_, rfl⟩
 obtain ⟨nl, hnle⟩ : ∃ n, x.links.length = n := ⟨_, rfl⟩
 have HMV := Lib.hid (mapValid_n hn2e HN.out hnle hec hel HL.out hn2 (by rw [HN.out]; exact hn) hnl)
 have HLK := Lib.hid hel
 have HNL := Lib.hid hnle
 rw [hn2e, hnle]
 obtain ⟨s, cu, ec, ls, jo⟩ := x
 simp only at HR HMV HLK HNL hs1 hs2 hnl ⊢
 have HNL2 := Lib.hid hnl
 clear hnl; clear hec hel hn2e hnle hn2
 show Calls Try.prog 48 #[.agg #[.string cur, .int .i64 y, .int .i64 m, .int .i64 p, .slice Ac n cc, .int .i64 r0, .int .i64 r1, .int .i64 r2, .int .i64 r3, .int .i64 r4, .int .i64 r5, .int .i64 r6, .int .i64 r7, .int .i64 r8, .int .i64 r9, .int .i64 r10, .int .i64 r11, .int .i64 r12, .int .i64 r13, .int .i64 r14, .slice Ae ne ce], .agg #[.string s, .string cu, .slice Ec n2 c2, .slice Al nl cl, .bool jo]] w (Quiet w (.bool r))
 go_enter Try.func48, Try.ntmps48
 go_upto_region 1 with fail
 have H := heap_alloc_new w (.cells #[.string cur, .int .i64 y, .int .i64 m, .int .i64 p, .slice Ac n cc, .int .i64 r0, .int .i64 r1, .int .i64 r2, .int .i64 r3, .int .i64 r4, .int .i64 r5, .int .i64 r6, .int .i64 r7, .int .i64 r8, .int .i64 r9, .int .i64 r10, .int .i64 r11, .int .i64 r12, .int .i64 r13, .int .i64 r14, .slice Ae ne ce] 29)
 have HB := below1 w (.cells #[.string cur, .int .i64 y, .int .i64 m, .int .i64 p, .slice Ac n cc, .int .i64 r0, .int .i64 r1, .int .i64 r2, .int .i64 r3, .int .i64 r4, .int .i64 r5, .int .i64 r6, .int .i64 r7, .int .i64 r8, .int .i64 r9, .int .i64 r10, .int .i64 r11, .int .i64 r12, .int .i64 r13, .int .i64 r14, .slice Ae ne ce] 29)
 have HS := blk_lt H
 generalize hW : w.alloc (Obj.cells #[.string cur, .int .i64 y, .int .i64 m, .int .i64 p, .slice Ac n cc, .int .i64 r0, .int .i64 r1, .int .i64 r2, .int .i64 r3, .int .i64 r4, .int .i64 r5, .int .i64 r6, .int .i64 r7, .int .i64 r8, .int .i64 r9, .int .i64 r10, .int .i64 r11, .int .i64 r12, .int .i64 r13, .int .i64 r14, .slice Ae ne ce] 29) = W at *
 have H2 := heap_alloc_new W (.cells #[.string s, .string cu, .slice Ec n2 c2, .slice Al nl cl, .bool jo] 65)
 have HB2 := below1 W (.cells #[.string s, .string cu, .slice Ec n2 c2, .slice Al nl cl, .bool jo] 65)
 have HS2 := blk_lt H2
 replace H := alloc_keep H (Obj.cells #[.string s, .string cu, .slice Ec n2 c2, .slice Al nl cl, .bool jo] 65)
 generalize hW2 : W.alloc (Obj.cells #[.string s, .string cu, .slice Ec n2 c2, .slice Al nl cl, .bool jo] 65) = W2 at *
 clear hW2
 have eW : W.heap.size = w.heap.size + 1 := by rw [← hW]; simp
 rw [eW] at H2
 clear hW
 have hb2 := HB.trans (HB2.mono HB.size)
 have hs2' := HB2.size
 have f0 := blk_cell H2 0
 have HAT := Lib.hid ((box_at (cs := [.string cur, .int .i64 y, .int .i64 m, .int .i64 p, .slice Ac n cc] ++ ([.int .i64 r0, .int .i64 r1, .int .i64 r2, .int .i64 r3, .int .i64 r4, .int .i64 r5, .int .i64 r6, .int .i64 r7, .int .i64 r8, .int .i64 r9, .int .i64 r10, .int .i64 r11, .int .i64 r12, .int .i64 r13, .int .i64 r14] ++ [.slice Ae ne ce])) H).split.2.split.1)
 have HH := Lib.hid H
 have HH2 := Lib.hid H2
 have LT1 := blk_lt H2
 clear H H2
 go_wp2_with fail
 refine (name_c s W2 hs1).mono ?_
 rintro e w3 ⟨rfl, hb3⟩
 have hb03 := hb2.trans (hb3.mono hb2.size)
 have hs3 := hb3.size
 cases hc1 : nameB s with
 | false =>
  have hf := Lib.hid (show r = false by rw [← HR.out]; unfold entP; simp only [hc1]; rfl)
  go_wp2_with fail
  go_ret
  exact ⟨by rw [hf.out]; first | done | rfl, hb03⟩
 | true =>
 have HC1 := Lib.hid hc1
 have E3 := (hb3.block _ LT1).trans HH2.out
 have f1 := blk_cell E3 1
 clear hc1 f0
 go_wp2_with fail
 refine (currency_c cu w3 hs2).mono ?_
 rintro e wC ⟨rfl, hbC⟩
 have hb0C := hb03.trans (hbC.mono hb03.size)
 have hsC := hbC.size
 cases hc2 : curB cu with
 | false =>
  have hf := Lib.hid (show r = false by rw [← HR.out]; unfold entP; simp only [hc2]; simp)
  go_wp2_with fail
  go_ret
  exact ⟨by rw [hf.out]; first | done | rfl, hb0C⟩
 | true =>
 have HC2 := Lib.hid hc2
 have HE3 := Lib.hid ((hbC.block _ (by omega)).trans E3)
 have GC := (hbC.block _ (by omega)).trans ((hb3.block _ (by omega)).trans HH.out)
 have d4 := blk_cell GC 4
 have HCALL := Lib.hid (HMV.out wC hb0C)
 clear hc2 f1 E3 GC
 go_wp2_with (show wpList _ _ _ (Oper.mk (some 19) _ _ _ _ _ :: _) _ _; refine wpList_load_row_g rfl 65 (.tmp 3) rfl (w.heap.size + 1) rfl _ _ _ _ HE3.out Try.underlying65 rfl info_entity ?_)
 refine HCALL.out.mono ?_
 rintro e w4 ⟨rfl, hb4⟩
 have hb04 := hb0C.trans (hb4.mono hb0C.size)
 have hs4 := hb4.size
 clear d4
 cases hc3 : mapB ec ch ls with
 | false =>
  have hf := Lib.hid (show r = false by rw [← HR.out]; unfold entP; simp only [hc3]; simp)
  go_wp2_with fail
  go_ret
  exact ⟨by rw [hf.out]; first | done | rfl, hb04⟩
 | true =>
 have HC3 := Lib.hid hc3
 have G4 := (hb4.block _ (by omega)).trans ((hbC.block _ (by omega)).trans ((hb3.block _ (by omega)).trans HH.out))
 have E4 := (hb4.block _ (by omega)).trans HE3.out
 clear hc3
 go_upto_region 4 with fail
 have hs0 := SetK.made Try.prog 3 4 iKey w4
 have HB5 := below1 w4 (.map #[] 0)
 have HS5 : w4.heap.size + 1 = (w4.alloc (.map #[] 0)).heap.size := by simp
 replace G4 := alloc_keep G4 (.map #[] 0)
 replace E4 := alloc_keep E4 (.map #[] 0)
 generalize hW5 : w4.alloc (Obj.map #[] 0) = W5 at *
 have H6 := heap_alloc_new W5 (.cells #[.map (some w4.heap.size)] 114)
 have HB6 := below1 W5 (.cells #[.map (some w4.heap.size)] 114)
 have HS6 := blk_lt H6
 replace G4 := alloc_keep G4 (Obj.cells #[.map (some w4.heap.size)] 114)
 replace E4 := alloc_keep E4 (Obj.cells #[.map (some w4.heap.size)] 114)
 generalize hW6 : W5.alloc (Obj.cells #[.map (some w4.heap.size)] 114) = W6 at *
 clear hW6; clear hW5
 have hset6 := hs0.below HB6
 have hs6 := HB6.size
 have HAT6 := Lib.hid ((HAT.out.fr (Fr.ofBelow (hb3.trans ((hbC.mono hs3).trans ((hb4.mono (by omega)).trans ((HB5.mono (by omega)).trans (HB6.mono (by omega)))))))).range)
 have HG6 := Lib.hid G4
 have HE6 := Lib.hid E4
 have HV6 := Lib.hid H6
 have hb06 := hb04.trans ((HB5.mono hb04.size).trans (HB6.mono (by omega)))
 clear G4 E4 H6 hs0
 go_wp2_with (show wpList _ _ _ (Oper.mk (some 27) _ _ _ _ _ :: _) _ _; refine wpList_load_mid rfl 26 (.tmp 26) rfl w.heap.size 5 rfl [.int .i64 r0, .int .i64 r1, .int .i64 r2, .int .i64 r3, .int .i64 r4, .int .i64 r5, .int .i64 r6, .int .i64 r7, .int .i64 r8, .int .i64 r9, .int .i64 r10, .int .i64 r11, .int .i64 r12, .int .i64 r13, .int .i64 r14] _ HAT6.out Try.underlying26 rfl info_roles ?_)
 refine (roles_c r0 r1 r2 r3 r4 r5 r6 r7 r8 r9 r10 r11 r12 r13 r14 W6).mono ?_
 rintro e w5 ⟨v, rfl, ⟨A, c, rfl⟩, hrl, hb5⟩
 rw [HLQ.out] at hrl
 have HROL := Lib.hid (show ListC RoleC 5 w5 (fun k => W6.heap.size ≤ k ∧ k < w5.heap.size) [.slice A L.length c] L by rw [HLL.out]; exact hrl)
 have hs5 := hb5.size
 have hbd := hb06.trans (hb5.mono hb06.size)
 have hset5 := hset6.below hb5
 have HG5 := Lib.hid ((hb5.block _ (by omega)).trans HG6.out)
 have HE5 := Lib.hid ((hb5.block _ (by omega)).trans HE6.out)
 have HV5 := Lib.hid ((hb5.block _ (by omega)).trans HV6.out)
 clear hrl hset6
 go_wp2_with fail
 go_loopw [30] (fun i wr => ∃ k : Nat, k ≤ 15 ∧ i = .int .i64 (k : Int) ∧ Fr (QX w5.heap.size w4.heap.size) w5 wr ∧ SetI wr w4.heap.size k (closedP (L.take k))) (fun i _ => 15 - (intOf i).toNat)
 case atStart => exact ⟨0, by omega, rfl, Fr.refl _ _, hset5.eqv (fun _ => rfl)⟩
 case round =>
  obtain ⟨k, hk, rfl, hfr, hset⟩ := hrel
  have HF := Lib.hid hfr
  have hsz := hfr.size
  clear hfr
  have hb0 : Below w.heap.size w wr := ((Fr.ofBelow hbd).trans (HF.out.mono (fun k (hk : k < w.heap.size) => ⟨by omega, by omega⟩))).below
  have VR := (HF.out.block W5.heap.size ⟨by omega, by omega⟩).trans HV5.out
  by_cases hlt : k < 15
  case pos =>
   have hltI : (k : Int) < 15 := by omega
   have hkl : k < L.length := by rw [HLL.out]; exact hlt
   obtain ⟨b, o, es1, hAe, hbw, hes, hat⟩ := ListC.get HROL.out k hkl
   subst hAe
   obtain ⟨q, hq⟩ : ∃ q, L[k] = q := ⟨_, rfl⟩
   have hqb := HRB.out _ (List.getElem_mem hkl)
   rw [hq] at hes hqb
   have HQ := Lib.hid hq
   obtain ⟨qn, qc, qk, qb, qm⟩ := q
   have HQB := Lib.hid hqb
   obtain ⟨hqb1, hqb2⟩ := hqb
   have hes1 : es1 = [.string qn, .int .i64 qc, .int .i64 qk, .int .i64 qb, .bool qm] := hes
   subst hes1
   have HAR := Lib.hid ((hat.fr (HF.out.mono (fun k hk => ⟨hk.2, by omega⟩))).range)
   obtain ⟨F, hF⟩ : ∃ F : Int → Bool, closedP (L.take k) = F := ⟨_, rfl⟩
   rw [hF] at hset
   have HF2 := Lib.hid hF
   clear hes hat hq hF hbw
   go_upto_region 7 with (show wpList _ _ _ (Oper.mk (some 33) _ _ _ _ _ :: _) _ _; refine wpList_load_mid rfl 118 (.tmp 32) rfl b (o + k * 5) rfl [.string qn, .int .i64 qc, .int .i64 qk, .int .i64 qb, .bool qm] _ HAR.out Try.underlying118 rfl info_role ?_)
   have H7 := heap_alloc_new wr (.cells #[.string qn, .int .i64 qc, .int .i64 qk, .int .i64 qb, .bool qm] 118)
   have HB7 := below1 wr (.cells #[.string qn, .int .i64 qc, .int .i64 qk, .int .i64 qb, .bool qm] 118)
   have HS7 := blk_lt H7
   replace VR := alloc_keep VR (Obj.cells #[.string qn, .int .i64 qc, .int .i64 qk, .int .i64 qb, .bool qm] 118)
   generalize hW7 : wr.alloc (Obj.cells #[.string qn, .int .i64 qc, .int .i64 qk, .int .i64 qb, .bool qm] 118) = W7 at *
   clear hW7
   have rr1 := blk_cell H7 1
   have rr4 := blk_cell H7 4
   have v0 := blk_cell VR 0
   have hset6 := hset.below HB7
   clear H7 VR hset
   go_wp2_with (at_mapUpdate; refine wpList_store_set rfl _ _ _ 114 rfl 3 4 int_keyed3 imap_uty bool_uty w4.heap.size k F rfl hset6 (by simp only [maxLen]; omega) iKey_inj iKey_lit _ qc rfl (!qm) rfl (iKey_of HQB.out) ?_; intro w9 hset9 hg9; replace hset9 := Lib.hid hset9)
   go_roundw
   case rel =>
    refine ⟨k + 1, by omega, by go_num, ?_, ?_⟩
    · exact (HF.out.trans ((Fr.ofBelow HB7).mono (fun k hk => by have := hk.1; omega))).grown hg9 (fun k hk => hk.1) (fun j hj => by injection hj with hj; exact fun h => h.2 hj.symm)
    · exact hset9.out.eqv (fun d => by rw [closed_take hkl, HQ.out, HF2.out])
   case measure => first | exact meas_v hlt | (simp only [intOf]; omega)
  case neg =>
   have hltI : ¬ (k : Int) < 15 := by omega
   have hk15 : L.take k = L := List.take_of_length_le (by rw [HLL.out]; omega)
   rw [hk15] at hset
   have ER := (HF.out.block (w.heap.size + 1) ⟨by omega, by omega⟩).trans HE5.out
   have e3 := blk_cell ER 3
   obtain ⟨F, hF⟩ : ∃ F : Int → Bool, closedP L = F := ⟨_, rfl⟩
   rw [hF] at hset
   have hcall := anyL_c ls Al cl W5.heap.size w4.heap.size k F wr VR hset (links_keep HLK.out hb0) HNL2.out
   rw [HNL.out] at hcall
   obtain ⟨v, hv⟩ : ∃ v, (ls.any fun a => F a.to_) = v := ⟨_, rfl⟩
   rw [hv] at hcall
   have HRR := Lib.hid (show r = !v by
    rw [← HR.out]; unfold entP
    simp only [HC1.out, HC2.out, HC3.out, Bool.true_and]
    rw [show rolesOf ⟨r0, r1, r2, r3, r4, r5, r6, r7, r8, r9, r10, r11, r12, r13, r14⟩ = L from HLQ.out, hF, hv])
   have HCALL2 := Lib.hid hcall
   clear hcall hset hv hF ER VR hk15
   go_wp2_with fail
   refine HCALL2.out.mono ?_
   rintro e wZ ⟨rfl, hbZ⟩
   go_wp2_with fail
   go_ret
   exact ⟨by rw [HRR.out]; first | done | rfl, hb0.trans (hbZ.mono hb0.size)⟩
end Go.Proofs.Ytekelchdbkjjjaa
namespace Go.Proofs.Ytekelchdbkjjjaa
open Go Go.RowKit
open Go.Maps (Keyed)
def smallE (e : XEntity) : Prop := e.chart.length ≤ 1000 ∧ e.links.length ≤ 1000 ∧ e.name.size ≤ 1000 ∧ e.currency.size ≤ 1000
def smallG (g : XGroup) : Prop := g.chart.length ≤ 1000 ∧ g.entities.length ≤ 1000 ∧ g.currency.size ≤ 1000 ∧ ∀ e ∈ g.entities, smallE e
theorem entity_n {cur : ByteArray} {y m p : Int} {Ac Ae : Option Addr} {cc ce n ne : Nat} {ch : List XAccount} {es : List XEntity} {r0 r1 r2 r3 r4 r5 r6 r7 r8 r9 r10 r11 r12 r13 r14 : Int} (hN : ch.length = n) (hE : es.length = ne) {w : World} (hg : GroupC w (· < w.heap.size) (grpL cur y m p Ac ch.length cc r0 r1 r2 r3 r4 r5 r6 r7 r8 r9 r10 r11 r12 r13 r14 Ae es.length ce) ⟨cur, ⟨y, m, p⟩, ch, ⟨r0, r1, r2, r3, r4, r5, r6, r7, r8, r9, r10, r11, r12, r13, r14⟩, es⟩) (hn : ch.length ≤ 1000)
 {s cu : ByteArray} {ec : List XAccount} {ls : List XLink} {jo : Bool} {Ec Al : Option Addr} {c2 cl n2 nl : Nat} (h2 : ec.length = n2) (h3 : ls.length = nl) (hx : EntityC w (· < w.heap.size) (entL s cu Ec ec.length c2 Al ls.length cl jo) ⟨s, cu, ec, ls, jo⟩) (hs : smallE ⟨s, cu, ec, ls, jo⟩) :
 Calls Try.prog 48 #[.agg (grpL cur y m p Ac n cc r0 r1 r2 r3 r4 r5 r6 r7 r8 r9 r10 r11 r12 r13 r14 Ae ne ce).toArray, .agg (entL s cu Ec n2 c2 Al nl cl jo).toArray] w (Quiet w (.bool (entP ch (rolesOf ⟨r0, r1, r2, r3, r4, r5, r6, r7, r8, r9, r10, r11, r12, r13, r14⟩) ⟨s, cu, ec, ls, jo⟩))) := by
 subst hN hE h2 h3
 exact entity_c _ _ _ _ w hg hx hn hs.1 hs.2.1 hs.2.2.1 hs.2.2.2
theorem accounts_n {cur : ByteArray} {y m p : Int} {Ac Ae : Option Addr} {cc ce n ne : Nat} {ch : List XAccount} {es : List XEntity} {r0 r1 r2 r3 r4 r5 r6 r7 r8 r9 r10 r11 r12 r13 r14 : Int} (hN : ch.length = n) (hE : es.length = ne) {w : World} (hg : GroupC w (· < w.heap.size) (grpL cur y m p Ac ch.length cc r0 r1 r2 r3 r4 r5 r6 r7 r8 r9 r10 r11 r12 r13 r14 Ae es.length ce) ⟨cur, ⟨y, m, p⟩, ch, ⟨r0, r1, r2, r3, r4, r5, r6, r7, r8, r9, r10, r11, r12, r13, r14⟩, es⟩) (hn : ch.length ≤ 1000) : Calls Try.prog 47 #[.agg (grpL cur y m p Ac n cc r0 r1 r2 r3 r4 r5 r6 r7 r8 r9 r10 r11 r12 r13 r14 Ae ne ce).toArray] w (Quiet w (.bool (accountsB ch ⟨r0, r1, r2, r3, r4, r5, r6, r7, r8, r9, r10, r11, r12, r13, r14⟩))) := by
 subst hN hE
 exact accounts_c _ _ w hg hn
def entRowP (ch : List XAccount) (L : List XRole) (es : List XEntity) (i : Nat) : Bool := match es[i]? with
 | none => false
 | some e => !((es.take i).any fun x => decide (x.name = e.name)) && entP ch L e
def groupP (g : XGroup) : Bool := curB g.currency && calB g.calendar.year g.calendar.month g.calendar.periods && accountsB g.chart g.roles && decide (1 ≤ g.entities.length ∧ g.entities.length ≤ 12) && !(g.entities.getD 0 {}).joint && (List.range g.entities.length).all (entRowP g.chart (rolesOf g.roles) g.entities)
theorem entRowP_at {ch : List XAccount} {L : List XRole} {es : List XEntity} {i : Nat} {e : XEntity} (h : es[i]? = some e) : entRowP ch L es i = (!((es.take i).any fun x => decide (x.name = e.name)) && entP ch L e) := by unfold entRowP; rw [h]
theorem entP_eq {ch : List XAccount} {L : List XRole} (h : rolesB ch L = true) (e : XEntity) : entP ch L e = entityB ch L e := by
 unfold entP entityB
 have h1 : (e.links.all fun l => !closedB L l.to_) = !(e.links.any fun l => closedP L l.to_) := by
  rw [List.not_any_eq_all_not]
  congr 1
  funext l
  rw [closed_eq h]
 rw [h1, show mappingB e ch = mapB e.chart ch e.links from rfl, Bool.and_assoc, Bool.and_assoc]
theorem groupP_eq (g : XGroup) : groupP g = groupB g := by
 unfold groupP groupB
 cases ha : accountsB g.chart g.roles with
 | false => simp
 | true =>
  have hr : rolesB g.chart (rolesOf g.roles) = true := by
   unfold accountsB at ha
   simp only [Bool.and_eq_true] at ha
   exact ha.2
  congr 1
  unfold entsB
  congr 1
  funext i
  unfold entRowP entRow
  cases g.entities[i]? with
  | none => rfl
  | some e => simp only [entP_eq hr]
def sKey (s : ByteArray) : Lit := .string s.data.toList
theorem sKey_inj (x y : ByteArray) (h : sKey x = sKey y) : x = y := by
 unfold sKey at h
 injection h with h
 exact ByteArray.ext (Array.ext' h)
theorem sKey_lit (x : ByteArray) : WideAt.IsKeyLit (sKey x) := by unfold sKey; trivial
theorem str_uty : Try.prog.underlying 9 = some .string := by kernel_rfl
theorem smap_uty : Try.prog.underlying 101 = some (.map 9 4) := by kernel_rfl
theorem str_keyed : Keyed Try.prog 9 := Maps.string_keyed str_uty
theorem sKey_of {s : ByteArray} (h : s.size ≤ 1000) : keyOf Try.prog 9 (.string s) = some (sKey s) := Go.WideMaps.keyOf_string_mk str_uty (by unfold maxLen; omega)
abbrev SetS (w : World) (b n : Nat) (f : ByteArray → Bool) : Prop := SetK Try.prog 9 4 sKey w b n f
theorem names_succ {es : List XEntity} {k : Nat} {e : XEntity} (hk : es[k]? = some e) {F : ByteArray → Bool} (hF : (fun d => (es.take k).any fun x => decide (x.name = d)) = F) (d : ByteArray) : (if d = e.name then true else F d) = (es.take (k + 1)).any fun x => decide (x.name = d) := by
 obtain ⟨hl, rfl⟩ := List.getElem?_eq_some_iff.1 hk
 rw [take_any_succ hl, ← hF]
 by_cases h : d = es[k].name
 · rw [if_pos h, h]; simp
 · rw [if_neg h, decide_eq_false (fun e : es[k].name = d => h e.symm), Bool.or_false]
theorem group_cur {g : XGroup} (h : curB g.currency = false) : groupP g = false := by unfold groupP; rw [h]; simp
theorem group_cal {g : XGroup} (h : calB g.calendar.year g.calendar.month g.calendar.periods = false) : groupP g = false := by unfold groupP; rw [h]; simp
theorem group_acc {g : XGroup} (h : accountsB g.chart g.roles = false) : groupP g = false := by unfold groupP; rw [h]; simp
theorem group_len {g : XGroup} (h : ¬ (1 ≤ g.entities.length ∧ g.entities.length ≤ 12)) : groupP g = false := by unfold groupP; rw [decide_eq_false h]; simp
theorem group_joint {g : XGroup} {e : XEntity} (h : g.entities[0]? = some e) (hj : e.joint = true) : groupP g = false := by unfold groupP; rw [List.getD_eq_getElem?_getD, h, Option.getD_some, hj]; simp
theorem group_row {g : XGroup} {k : Nat} (hk : k < g.entities.length) (h : entRowP g.chart (rolesOf g.roles) g.entities k = false) : groupP g = false := by unfold groupP; rw [all_range_false hk h]; simp
theorem group_all {g : XGroup} {e : XEntity} (h1 : curB g.currency = true) (h2 : calB g.calendar.year g.calendar.month g.calendar.periods = true) (h3 : accountsB g.chart g.roles = true) (h4 : 1 ≤ g.entities.length ∧ g.entities.length ≤ 12) (h5 : g.entities[0]? = some e) (hj : e.joint = false) (h : ∀ k, k < g.entities.length → entRowP g.chart (rolesOf g.roles) g.entities k = true) : groupP g = true := by
 unfold groupP
 rw [h1, h2, h3, decide_eq_true h4, List.getD_eq_getElem?_getD, h5, Option.getD_some, hj, all_range_true h]; rfl
set_option maxHeartbeats 4000000 in
theorem group_c (g : XGroup) (cs : List Value) (w : World) (hg : GroupC w (· < w.heap.size) cs g) (hsm : smallG g) : Calls Try.prog 38 #[.agg cs.toArray] w (Quiet w (.bool (groupP g))) := by
 have hmm := @run_makeMap Try.prog
 obtain ⟨r, hr⟩ : ∃ r, groupP g = r := ⟨_, rfl⟩
 rw [hr]
 have HR := Lib.hid hr
 have HGC := Lib.hid hg
 obtain ⟨hn, hne1, hcs, hse⟩ := hsm
 clear hr
 obtain ⟨Ac, cc, Ae, ce, rfl, hch, hen, hcal, hro⟩ := hg.lit
 clear hg
 obtain ⟨cur, ⟨y, m, p⟩, ch, ⟨r0, r1, r2, r3, r4, r5, r6, r7, r8, r9, r10, r11, r12, r13, r14⟩, es⟩ := g
 simp only at hcs hne1 hse HR hch hen hro hcal hn ⊢
 have HSE := Lib.hid hse
 have HNN := Lib.hid hn
 obtain ⟨L, hL⟩ : ∃ L, rolesL r0 r1 r2 r3 r4 r5 r6 r7 r8 r9 r10 r11 r12 r13 r14 = L := ⟨_, rfl⟩
 have hLl : L.length = 15 := by rw [← hL]; rfl
 have HLQ := Lib.hid hL
 have HLL := Lib.hid hLl
 obtain ⟨n, hnl⟩ : ∃ n, ch.length = n := ⟨_, rfl⟩
 obtain ⟨ne, hne⟩ : ∃ ne, es.length = ne := ⟨_, rfl⟩
 have HL := Lib.hid hch
 have HN := Lib.hid hnl
 have HE := Lib.hid hen
 have HNE := Lib.hid hne
 rw [hnl, hne]
 rw [hnl] at hn
 clear hL hLl hch hen hnl hne hcal; clear hro hse
 show Calls Try.prog 38 #[.agg #[.string cur, .int .i64 y, .int .i64 m, .int .i64 p, .slice Ac n cc, .int .i64 r0, .int .i64 r1, .int .i64 r2, .int .i64 r3, .int .i64 r4, .int .i64 r5, .int .i64 r6, .int .i64 r7, .int .i64 r8, .int .i64 r9, .int .i64 r10, .int .i64 r11, .int .i64 r12, .int .i64 r13, .int .i64 r14, .slice Ae ne ce]] w (Quiet w (.bool r))
 go_enter Try.func38, Try.ntmps38
 go_upto_region 1 with fail
 have H := heap_alloc_new w (.cells #[.string cur, .int .i64 y, .int .i64 m, .int .i64 p, .slice Ac n cc, .int .i64 r0, .int .i64 r1, .int .i64 r2, .int .i64 r3, .int .i64 r4, .int .i64 r5, .int .i64 r6, .int .i64 r7, .int .i64 r8, .int .i64 r9, .int .i64 r10, .int .i64 r11, .int .i64 r12, .int .i64 r13, .int .i64 r14, .slice Ae ne ce] 29)
 have HB := below1 w (.cells #[.string cur, .int .i64 y, .int .i64 m, .int .i64 p, .slice Ac n cc, .int .i64 r0, .int .i64 r1, .int .i64 r2, .int .i64 r3, .int .i64 r4, .int .i64 r5, .int .i64 r6, .int .i64 r7, .int .i64 r8, .int .i64 r9, .int .i64 r10, .int .i64 r11, .int .i64 r12, .int .i64 r13, .int .i64 r14, .slice Ae ne ce] 29)
 have HS := blk_lt H
 generalize hW : w.alloc (Obj.cells #[.string cur, .int .i64 y, .int .i64 m, .int .i64 p, .slice Ac n cc, .int .i64 r0, .int .i64 r1, .int .i64 r2, .int .i64 r3, .int .i64 r4, .int .i64 r5, .int .i64 r6, .int .i64 r7, .int .i64 r8, .int .i64 r9, .int .i64 r10, .int .i64 r11, .int .i64 r12, .int .i64 r13, .int .i64 r14, .slice Ae ne ce] 29) = W at *
 clear hW
 have f0 := blk_cell H 0
 have HH := Lib.hid H
 clear H
 go_wp2_with fail
 refine (currency_c cur W hcs).mono ?_
 rintro e w2 ⟨rfl, hb2⟩
 have hb02 := HB.trans (hb2.mono HB.size)
 have hs2 := hb2.size
 cases hc1 : curB cur with
 | false =>
  have hf := Lib.hid (show r = false by rw [← HR.out]; exact group_cur hc1)
  go_wp2_with fail
  go_ret
  exact ⟨by rw [hf.out]; first | done | rfl, hb02⟩
 | true =>
 have HC1 := Lib.hid hc1
 have G2 := (hb2.block _ HS).trans HH.out
 have f1 := blk_cell G2 1
 have f2 := blk_cell G2 2
 have f3 := blk_cell G2 3
 clear hc1 f0
 go_wp2_with fail
 refine (calValid_c y m p w2).mono ?_
 rintro e w3 ⟨rfl, hb3⟩
 have hb03 := hb02.trans (hb3.mono hb02.size)
 have hs3 := hb3.size
 cases hc2 : calB y m p with
 | false =>
  have hf := Lib.hid (show r = false by rw [← HR.out]; exact group_cal hc2)
  go_wp2_with fail
  go_ret
  exact ⟨by rw [hf.out]; first | done | rfl, hb03⟩
 | true =>
 have HC2 := Lib.hid hc2
 have HG3 := Lib.hid ((hb3.block _ (by omega)).trans G2)
 have HCA := Lib.hid (accounts_n HN.out HNE.out (GroupC.keep HGC.out hb03) HNN.out)
 clear hc2 f1 f2 f3 G2
 go_wp2_with (show wpList _ _ _ (Oper.mk (some 17) _ _ _ _ _ :: _) _ _; refine wpList_load_row_g rfl 29 (.tmp 1) rfl w.heap.size rfl _ _ _ _ HG3.out Try.underlying29 rfl info_group ?_)
 refine HCA.out.mono ?_
 rintro e w4 ⟨rfl, hb4⟩
 have hb04 := hb03.trans (hb4.mono hb03.size)
 have hs4 := hb4.size
 cases hc3 : accountsB ch ⟨r0, r1, r2, r3, r4, r5, r6, r7, r8, r9, r10, r11, r12, r13, r14⟩ with
 | false =>
  have hf := Lib.hid (show r = false by rw [← HR.out]; exact group_acc hc3)
  go_wp2_with fail
  go_ret
  exact ⟨by rw [hf.out]; first | done | rfl, hb04⟩
 | true =>
 have HC3 := Lib.hid hc3
 have G4 := (hb4.block _ (by omega)).trans HG3.out
 have f20 := blk_cell G4 20
 clear hc3
 by_cases h1 : ne < 1
 case pos =>
  have h1I : (ne : Int) < 1 := by omega
  have hf := Lib.hid (show r = false by rw [← HR.out]; exact group_len (fun h => by have := h.1; have := HNE.out; simp only at *; omega))
  go_wp2_with fail
  go_ret
  exact ⟨by rw [hf.out]; first | done | rfl, hb04⟩
 case neg =>
 have h1I : ¬ (ne : Int) < 1 := by omega
 by_cases h2 : 12 < ne
 case pos =>
  have h2I : 12 < (ne : Int) := by omega
  have hf := Lib.hid (show r = false by rw [← HR.out]; exact group_len (fun h => by have := h.2; have := HNE.out; simp only at *; omega))
  go_wp2_with fail
  go_ret
  exact ⟨by rw [hf.out]; first | done | rfl, hb04⟩
 case neg =>
 have h2I : ¬ 12 < (ne : Int) := by omega
 have h3I : (0 : Int) < (ne : Int) := by omega
 have hl0 : 0 < es.length := by rw [HNE.out]; omega
 obtain ⟨b, o, hAe, hbw, hel⟩ := ListC.base HE.out (by omega)
 subst hAe
 obtain ⟨es0, hes0, hat0⟩ := hel 0 hl0
 have HEL := Lib.hid hel
 obtain ⟨Ec, c2, Al, cl, rfl, _, _⟩ := hes0.lit
 obtain ⟨x0, hx0⟩ : ∃ x0, es[0] = x0 := ⟨_, rfl⟩
 rw [hx0] at hat0
 have HX0 := Lib.hid (show es[0]? = some x0 by rw [List.getElem?_eq_getElem hl0, hx0])
 have j0 := (hat0.fr (Fr.ofBelow hb04)).c (j := 4) rfl
 obtain ⟨J, hJ⟩ : ∃ J, x0.joint = J := ⟨_, rfl⟩
 rw [hJ, Nat.zero_mul, Nat.add_zero] at j0
 have HJ := Lib.hid hJ
 clear hes0 hat0 hel hx0 hJ
 cases J with
 | true =>
  have hf := Lib.hid (show r = false by rw [← HR.out]; exact group_joint HX0.out HJ.out)
  go_wp2_with fail
  go_ret
  exact ⟨by rw [hf.out]; first | done | rfl, hb04⟩
 | false =>
 have HG4 := Lib.hid G4
 clear G4
 go_upto_region 4 with fail
 have hs0 := SetK.made Try.prog 9 4 sKey w4
 have HB5 := below1 w4 (.map #[] 0)
 have HS5 : w4.heap.size + 1 = (w4.alloc (.map #[] 0)).heap.size := by simp
 have G5 := alloc_keep HG4.out (.map #[] 0)
 generalize hW5 : w4.alloc (Obj.map #[] 0) = W5 at *
 clear hW5 f20 j0
 have f20 := blk_cell G5 20
 have HG5 := Lib.hid G5
 have hb05 := hb04.trans (HB5.mono hb04.size)
 clear G5
 go_wp2_with fail
 go_loopw [44] (fun i wr => ∃ k : Nat, k ≤ ne ∧ i = .int .i64 (k : Int) ∧ Fr (QX W5.heap.size w4.heap.size) W5 wr ∧ SetS wr w4.heap.size k (fun d => (es.take k).any fun x => decide (x.name = d)) ∧ ∀ j, j < k → entRowP ch (rolesOf ⟨r0, r1, r2, r3, r4, r5, r6, r7, r8, r9, r10, r11, r12, r13, r14⟩) es j = true) (fun i _ => ne - (intOf i).toNat)
 case atStart => exact ⟨0, by omega, rfl, Fr.refl _ _, hs0.eqv (fun _ => rfl), fun j hj => by omega⟩
 case round =>
  obtain ⟨k, hk, rfl, hfr, hset, hall⟩ := hrel
  have HA := Lib.hid hall
  have HF := Lib.hid hfr
  have hsz := hfr.size
  clear hall hfr
  have hb0 : Below w.heap.size w wr := ((Fr.ofBelow hb05).trans (HF.out.mono (fun k (hk : k < w.heap.size) => ⟨by omega, by omega⟩))).below
  have hs0' := hb0.size
  by_cases hlt : k < ne
  case pos =>
   have hltI : (k : Int) < (ne : Int) := by omega
   have hkl : k < es.length := by rw [HNE.out]; exact hlt
   obtain ⟨es1, hes, hat⟩ := HEL.out k hkl
   obtain ⟨Ec, c2, Al, cl, rfl, _, _⟩ := hes.lit
   obtain ⟨x, hx⟩ : ∃ x, es[k] = x := ⟨_, rfl⟩
   have hsx := HSE.out _ (List.getElem_mem hkl)
   rw [hx] at hes hat hsx
   have HX := Lib.hid (show es[k]? = some x by rw [List.getElem?_eq_getElem hkl, hx])
   obtain ⟨s, cu, ec, ls, jo⟩ := x
   simp only at hes hat
   have HKEY := Lib.hid (sKey_of (s := s) hsx.2.2.1)
   have hE := fun (w2 : World) (hb : Below w.heap.size w w2) => fun {n2 nl : Nat} (h2 : ec.length = n2) (h3 : ls.length = nl) => entity_n HN.out HNE.out (GroupC.keep HGC.out hb) HNN.out h2 h3 (EntityC.keep hes hb) hsx
   have HAR0 := (hat.fr (Fr.ofBelow hb0)).range
   obtain ⟨n2, hn2⟩ : ∃ n, ec.length = n := ⟨_, rfl⟩
   obtain ⟨nl, hnl⟩ : ∃ n, ls.length = n := ⟨_, rfl⟩
   rw [hn2, hnl] at HAR0
   have HAR := Lib.hid HAR0
   have HEN := Lib.hid (fun (w2 : World) (hb : Below w.heap.size w w2) => hE w2 hb hn2 hnl)
   have E6 := (HF.out.block w.heap.size ⟨by omega, by omega⟩).trans HG5.out
   obtain ⟨F, hF⟩ : ∃ F : ByteArray → Bool, (fun d => (es.take k).any fun x => decide (x.name = d)) = F := ⟨_, rfl⟩
   rw [hF] at hset
   have HF2 := Lib.hid hF
   clear hes hat hx hE HAR0 hF hsx hn2 hnl
   go_upto_region 7 with (show wpList _ _ _ (Oper.mk (some 47) _ _ _ _ _ :: _) _ _; refine wpList_load_mid rfl 65 (.tmp 46) rfl b (o + k * 5) rfl [.string s, .string cu, .slice Ec n2 c2, .slice Al nl cl, .bool jo] _ HAR.out Try.underlying65 rfl info_entity ?_)
   have H6 := heap_alloc_new wr (.cells #[.string s, .string cu, .slice Ec n2 c2, .slice Al nl cl, .bool jo] 65)
   have HB6 := below1 wr (.cells #[.string s, .string cu, .slice Ec n2 c2, .slice Al nl cl, .bool jo] 65)
   have HS6 := blk_lt H6
   replace E6 := alloc_keep E6 (Obj.cells #[.string s, .string cu, .slice Ec n2 c2, .slice Al nl cl, .bool jo] 65)
   generalize hW6 : wr.alloc (Obj.cells #[.string s, .string cu, .slice Ec n2 c2, .slice Al nl cl, .bool jo] 65) = W6 at *
   clear hW6
   have hset6 := hset.below HB6
   have hs6 := HB6.size
   have hb06 := hb0.trans (HB6.mono hb0.size)
   have k0 := blk_cell H6 0
   have HE6 := Lib.hid E6
   have HX6 := Lib.hid H6
   clear hset H6 E6
   cases hcont : F s with
   | true =>
    have hf := Lib.hid (show r = false by rw [← HR.out]; exact group_row hkl (by rw [entRowP_at HX.out, show ((es.take k).any fun x => decide (x.name = s)) = true from (congrFun HF2.out s).trans hcont]; rfl))
    go_wp2_with (at_lookup; refine wpList_look_set rfl _ _ 101 rfl 9 4 str_keyed smap_uty bool_uty (bool_zero _) w4.heap.size k F rfl hset6 (.string s) s rfl HKEY.out ?_)
    go_ret
    exact ⟨by rw [hf.out]; first | done | rfl, hb06⟩
   | false =>
    have hcall := HEN.out W6 hb06
    obtain ⟨v, hv⟩ : ∃ v, entP ch (rolesOf ⟨r0, r1, r2, r3, r4, r5, r6, r7, r8, r9, r10, r11, r12, r13, r14⟩) ⟨s, cu, ec, ls, jo⟩ = v := ⟨_, rfl⟩
    rw [hv] at hcall
    have HROW := Lib.hid (show entRowP ch (rolesOf ⟨r0, r1, r2, r3, r4, r5, r6, r7, r8, r9, r10, r11, r12, r13, r14⟩) es k = v by rw [entRowP_at HX.out, hv, show ((es.take k).any fun x => decide (x.name = s)) = false from (congrFun HF2.out s).trans hcont]; rfl)
    have HCALL := Lib.hid hcall
    clear hv hcall
    go_wp2_with (first | (at_lookup; refine wpList_look_set rfl _ _ 101 rfl 9 4 str_keyed smap_uty bool_uty (bool_zero _) w4.heap.size k F rfl hset6 (.string s) s rfl HKEY.out ?_) | (show wpList _ _ _ (Oper.mk (some 53) _ _ _ _ _ :: _) _ _; refine wpList_load_row_g rfl 29 (.tmp 1) rfl w.heap.size rfl _ _ _ _ HE6.out Try.underlying29 rfl info_group ?_) | (show wpList _ _ _ (Oper.mk (some 54) _ _ _ _ _ :: _) _ _; refine wpList_load_row_g rfl 65 (.tmp 5) rfl wr.heap.size rfl _ _ _ _ HX6.out Try.underlying65 rfl info_entity ?_))
    refine HCALL.out.mono ?_
    rintro e wA ⟨rfl, hbA⟩
    have hsetA := hset6.below hbA
    have hsA := hbA.size
    have hb0A := hb06.trans (hbA.mono hb06.size)
    cases v with
    | false =>
     have hf := Lib.hid (show r = false by rw [← HR.out]; exact group_row hkl HROW.out)
     go_wp2_with fail
     go_ret
     exact ⟨by rw [hf.out]; first | done | rfl, hb0A⟩
    | true =>
     have KA := (hbA.block _ HS6).trans HX6.out
     have k0 := blk_cell KA 0
     clear KA
     go_wp2_with (at_mapUpdate; refine wpList_store_set rfl _ _ _ 101 rfl 9 4 str_keyed smap_uty bool_uty w4.heap.size k F rfl hsetA (by simp only [maxLen]; omega) sKey_inj sKey_lit (.string s) s rfl true rfl HKEY.out ?_; intro wB hsetB hgB; replace hsetB := Lib.hid hsetB)
     go_roundw
     case rel =>
      refine ⟨k + 1, by omega, by go_num, ?_, ?_, ?_⟩
      · exact (HF.out.trans ((Fr.ofBelow (HB6.trans (hbA.mono HB6.size))).mono (fun k hk => by have := hk.1; omega))).grown hgB (fun k hk => hk.1) (fun j hj => by injection hj with hj; exact fun h => h.2 hj.symm)
      · exact hsetB.out.eqv (fun d => names_succ HX.out HF2.out d)
      · intro j hj
        rcases Nat.lt_or_ge j k with h | h
        · exact HA.out j h
        · have : j = k := by omega
          subst this
          exact HROW.out
     case measure => first | exact meas_v hlt | (simp only [intOf]; omega)
  case neg =>
   have hltI : ¬ (k : Int) < (ne : Int) := by omega
   have hf := Lib.hid (show r = true by
    rw [← HR.out]
    exact group_all HC1.out HC2.out HC3.out ⟨by have := HNE.out; simp only; omega, by have := HNE.out; simp only; omega⟩ HX0.out HJ.out (fun j hj => HA.out j (by have := HNE.out; simp only at hj; omega)))
   go_wp2_with fail
   go_ret
   exact ⟨by rw [hf.out]; first | done | rfl, hb0⟩
end Go.Proofs.Ytekelchdbkjjjaa
namespace Go.Proofs.Ytekelchdbkjjjaa
open Go Go.RowKit
def If (P : Prop) (w : World) (e : Ending) (w' : World) : Prop := ∃ b, e = .returned (.bool b) ∧ (b = true → P) ∧ Below w.heap.size w w'
theorem If.no {P : Prop} {w w' : World} (h : Below w.heap.size w w') : If P w (.returned (.bool false)) w' := ⟨false, rfl, (fun h => by cases h), h⟩
theorem If.yes {P : Prop} {w w' : World} (hp : P) (h : Below w.heap.size w w') : If P w (.returned (.bool true)) w' := ⟨true, rfl, fun _ => hp, h⟩
def szE (e : XEntity) : Prop := e.name.size ≤ 140737488355327 ∧ e.currency.size ≤ 140737488355327
def szG (g : XGroup) : Prop := g.currency.size ≤ 140737488355327 ∧ ∀ e ∈ g.entities, szE e
def fewE (e : XEntity) : Prop := e.chart.length ≤ 40 ∧ e.links.length ≤ 60 ∧ e.name.size ≤ 60 ∧ e.currency.size ≤ 60
def fewG (g : XGroup) : Prop := g.chart.length ≤ 60 ∧ g.entities.length ≤ 14 ∧ g.currency.size ≤ 20 ∧ ∀ e ∈ g.entities, fewE e
theorem fewG.small {g : XGroup} (h : fewG g) : smallG g := by
 obtain ⟨h1, h2, h3, h4⟩ := h
 refine ⟨by omega, by omega, by omega, fun e he => ?_⟩
 obtain ⟨a, b, c, d⟩ := h4 e he
 exact ⟨by omega, by omega, by omega, by omega⟩
set_option maxHeartbeats 2000000 in
theorem few_c (g : XGroup) (cs : List Value) (w : World) (hg : GroupC w (· < w.heap.size) cs g) (hsz : szG g) : Calls Try.prog 14 #[.agg cs.toArray] w (If (fewG g) w) := by
 obtain ⟨Ac, cc, Ae, ce, rfl, hch, hen, hcal, hro⟩ := hg.lit
 clear hg hro hcal
 have hbn := hch.cap.2
 have hbe := hen.cap.2
 clear hch
 obtain ⟨P, hP⟩ : ∃ P, fewG g = P := ⟨_, rfl⟩
 rw [hP]
 have HP := Lib.hid (show (g.chart.length ≤ 60 ∧ g.entities.length ≤ 14 ∧ g.currency.size ≤ 20 ∧ ∀ e ∈ g.entities, fewE e) → P from fun h => hP ▸ h)
 obtain ⟨cur, ⟨y, m, p⟩, ch, ⟨r0, r1, r2, r3, r4, r5, r6, r7, r8, r9, r10, r11, r12, r13, r14⟩, es⟩ := g
 obtain ⟨hsc, hse⟩ := hsz
 simp only at hen hbn hbe HP hsc hse ⊢
 have HSE := Lib.hid hse
 obtain ⟨n, hnl⟩ : ∃ n, ch.length = n := ⟨_, rfl⟩
 obtain ⟨ne, hne⟩ : ∃ ne, es.length = ne := ⟨_, rfl⟩
 have HE := Lib.hid hen
 have HNE := Lib.hid hne
 have HN := Lib.hid hnl
 rw [hnl, hne]
 rw [hne] at hbe
 rw [hnl] at hbn
 unfold maxLen at hbe hbn
 clear hen hnl hne hP hse
 show Calls Try.prog 14 #[.agg #[.string cur, .int .i64 y, .int .i64 m, .int .i64 p, .slice Ac n cc, .int .i64 r0, .int .i64 r1, .int .i64 r2, .int .i64 r3, .int .i64 r4, .int .i64 r5, .int .i64 r6, .int .i64 r7, .int .i64 r8, .int .i64 r9, .int .i64 r10, .int .i64 r11, .int .i64 r12, .int .i64 r13, .int .i64 r14, .slice Ae ne ce]] w (If P w)
 go_enter Try.func14, Try.ntmps14
 go_upto_region 1 with fail
 have H := heap_alloc_new w (.cells #[.string cur, .int .i64 y, .int .i64 m, .int .i64 p, .slice Ac n cc, .int .i64 r0, .int .i64 r1, .int .i64 r2, .int .i64 r3, .int .i64 r4, .int .i64 r5, .int .i64 r6, .int .i64 r7, .int .i64 r8, .int .i64 r9, .int .i64 r10, .int .i64 r11, .int .i64 r12, .int .i64 r13, .int .i64 r14, .slice Ae ne ce] 29)
 have HB := below1 w (.cells #[.string cur, .int .i64 y, .int .i64 m, .int .i64 p, .slice Ac n cc, .int .i64 r0, .int .i64 r1, .int .i64 r2, .int .i64 r3, .int .i64 r4, .int .i64 r5, .int .i64 r6, .int .i64 r7, .int .i64 r8, .int .i64 r9, .int .i64 r10, .int .i64 r11, .int .i64 r12, .int .i64 r13, .int .i64 r14, .slice Ae ne ce] 29)
 have HS := blk_lt H
 generalize hW : w.alloc (Obj.cells #[.string cur, .int .i64 y, .int .i64 m, .int .i64 p, .slice Ac n cc, .int .i64 r0, .int .i64 r1, .int .i64 r2, .int .i64 r3, .int .i64 r4, .int .i64 r5, .int .i64 r6, .int .i64 r7, .int .i64 r8, .int .i64 r9, .int .i64 r10, .int .i64 r11, .int .i64 r12, .int .i64 r13, .int .i64 r14, .slice Ae ne ce] 29) = W at *
 clear hW
 have HH := Lib.hid H
 clear H
 go_wp2_with fail
 go_loopw [3] (fun i wr => ∃ k : Nat, k ≤ ne ∧ i = .int .i64 (k : Int) ∧ Below W.heap.size W wr ∧ ∀ j (hj : j < es.length), j < k → fewE es[j]) (fun i _ => ne - (intOf i).toNat)
 case atStart => exact ⟨0, by omega, rfl, Below.refl _ _, fun j hj h => by omega⟩
 case round =>
  obtain ⟨k, hk, rfl, hb, hall⟩ := hrel
  have HA := Lib.hid hall
  have hszr := hb.size
  clear hall
  have hb0 := HB.trans (hb.mono HB.size)
  have GR := (hb.block w.heap.size HS).trans HH.out
  have d20 := blk_cell GR 20
  by_cases hlt : k < ne
  case pos =>
   have hltI : (k : Int) < (ne : Int) := by omega
   have hkl : k < es.length := by rw [HNE.out]; exact hlt
   obtain ⟨b, o, es1, hAe, hbw, hes, hat⟩ := ListC.get HE.out k hkl
   subst hAe
   obtain ⟨Ec, c2, Al, cl, rfl, _, _⟩ := hes.lit
   obtain ⟨x, hx⟩ : ∃ x, es[k] = x := ⟨_, rfl⟩
   have hsx := HSE.out _ (List.getElem_mem hkl)
   rw [hx] at hat hsx
   have HX := Lib.hid hx
   obtain ⟨s, cu, ec, ls, jo⟩ := x
   obtain ⟨hx1, hx2⟩ := hsx
   simp only at hx1 hx2
   have HAR0 := (hat.fr (Fr.ofBelow hb0)).range
   obtain ⟨n2, hn2⟩ : ∃ n, ec.length = n := ⟨_, rfl⟩
   obtain ⟨nl, hnl⟩ : ∃ n, ls.length = n := ⟨_, rfl⟩
   rw [hn2, hnl] at HAR0
   have HAR := Lib.hid HAR0
   have HN2 := Lib.hid hn2
   have HNL := Lib.hid hnl
   obtain ⟨z1, hz1⟩ : ∃ z, s.size = z := ⟨_, rfl⟩
   obtain ⟨z2, hz2⟩ : ∃ z, cu.size = z := ⟨_, rfl⟩
   clear hes hat hx HAR0 hn2 hnl hbw GR
   go_upto_region 5 with (show wpList _ _ _ (Oper.mk (some 16) _ _ _ _ _ :: _) _ _; refine wpList_load_mid rfl 65 (.tmp 15) rfl b (o + k * 5) rfl [.string s, .string cu, .slice Ec n2 c2, .slice Al nl cl, .bool jo] _ HAR.out Try.underlying65 rfl info_entity ?_)
   have H6 := heap_alloc_new wr (.cells #[.string s, .string cu, .slice Ec n2 c2, .slice Al nl cl, .bool jo] 65)
   have HB6 := below1 wr (.cells #[.string s, .string cu, .slice Ec n2 c2, .slice Al nl cl, .bool jo] 65)
   have HS6 := blk_lt H6
   generalize hW6 : wr.alloc (Obj.cells #[.string s, .string cu, .slice Ec n2 c2, .slice Al nl cl, .bool jo] 65) = W6 at *
   clear hW6
   have hb06 := hb0.trans (HB6.mono hb0.size)
   have f0 := blk_cell H6 0
   have f1 := blk_cell H6 1
   have f2 := blk_cell H6 2
   have f3 := blk_cell H6 3
   clear H6 d20
   by_cases h1 : 40 < n2
   case pos =>
    have h1I : 40 < (n2 : Int) := by omega
    go_wp2_with fail
    go_ret
    exact If.no hb06
   case neg =>
   have h1I : ¬ 40 < (n2 : Int) := by omega
   by_cases h2 : 60 < nl
   case pos =>
    have h2I : 60 < (nl : Int) := by omega
    go_wp2_with fail
    go_ret
    exact If.no hb06
   case neg =>
   have h2I : ¬ 60 < (nl : Int) := by omega
   by_cases h3 : 60 < s.size + cu.size
   case pos =>
    have h3I : 60 < (s.size : Int) + (cu.size : Int) := by omega
    go_wp2_with fail
    go_ret
    exact If.no hb06
   case neg =>
   have h3I : ¬ 60 < (s.size : Int) + (cu.size : Int) := by omega
   have HROW := Lib.hid (show fewE ⟨s, cu, ec, ls, jo⟩ from ⟨by have := HN2.out; simp only; omega, by have := HNL.out; simp only; omega, by simp only; omega, by simp only; omega⟩)
   go_wp2_with fail
   go_roundw
   case rel => exact ⟨k + 1, by omega, by go_num, hb.trans (HB6.mono hszr), fun j hj hjk => by
    rcases Nat.lt_or_ge j k with h | h
    · exact HA.out j hj h
    · have : j = k := by omega
      subst this
      rw [HX.out]
      exact HROW.out⟩
   case measure => first | exact meas_v hlt | (simp only [intOf]; omega)
  case neg =>
   have hltI : ¬ (k : Int) < (ne : Int) := by omega
   have d4 := blk_cell GR 4
   have d0 := blk_cell GR 0
   clear GR
   have HALL := Lib.hid (show ∀ e ∈ es, fewE e by
    intro e he
    obtain ⟨j, hj, rfl⟩ := List.getElem_of_mem he
    exact HA.out j hj (by have := HNE.out; omega))
   by_cases h1 : n ≤ 60
   case neg =>
    have h1I : ¬ (n : Int) ≤ 60 := by omega
    go_wp2_with fail
    go_ret
    exact If.no hb0
   case pos =>
   have h1I : (n : Int) ≤ 60 := by omega
   by_cases h2 : ne ≤ 14
   case neg =>
    have h2I : ¬ (ne : Int) ≤ 14 := by omega
    go_wp2_with fail
    go_ret
    exact If.no hb0
   case pos =>
   have h2I : (ne : Int) ≤ 14 := by omega
   by_cases h3 : cur.size ≤ 20
   case neg =>
    have h3I : ¬ (cur.size : Int) ≤ 20 := by omega
    go_wp2_with fail
    go_ret
    exact If.no hb0
   case pos =>
    have h3I : (cur.size : Int) ≤ 20 := by omega
    have HY := Lib.hid (show P from HP.out ⟨by have := HN.out; omega, by have := HNE.out; omega, h3, HALL.out⟩)
    go_wp2_with fail
    go_ret
    exact If.yes HY.out hb0
abbrev itemL (x : XItem) : List Value := [.int .i64 x.ref.entry, .int .i64 x.ref.line, .int .i64 x.entity, .int .i64 x.account, .int .i64 x.partner, .int .i64 x.date, .int .i64 x.amount]
theorem ItemC.lit {w : World} {Q : Nat → Prop} {cs : List Value} {x : XItem} (h : ItemC w Q cs x) : cs = itemL x := by
 obtain ⟨c0, c1, c2, c3, c4, c5, rfl, h0, ⟨rfl, h1⟩, ⟨rfl, h2⟩, ⟨rfl, h3⟩, ⟨rfl, h4⟩, ⟨rfl, h5⟩⟩ := h
 obtain ⟨d0, d1, rfl, ⟨rfl, _⟩, ⟨rfl, _⟩⟩ := h0
 rfl
def monB (n : Int) : Bool := decide (-1000000000000 ≤ n ∧ n ≤ 1000000000000)
set_option maxHeartbeats 1000000 in
theorem money_c (n : Int) (w : World) : Calls Try.prog 70 #[.int .i64 n] w (Quiet w (.bool (monB n))) := by
 by_cases h1 : -1000000000000 ≤ n
 case neg =>
  have hf := Lib.hid (show monB n = false from decide_eq_false (fun h => h1 h.1))
  rw [hf.out]
  go_enter Try.func70, Try.ntmps70
  go_wp2_with fail
  go_ret
  exact ⟨rfl, Below.refl _ _⟩
 case pos =>
 by_cases h2 : n ≤ 1000000000000
 case neg =>
  have hf := Lib.hid (show monB n = false from decide_eq_false (fun h => h2 h.2))
  rw [hf.out]
  go_enter Try.func70, Try.ntmps70
  go_wp2_with fail
  go_ret
  exact ⟨rfl, Below.refl _ _⟩
 case pos =>
  have hf := Lib.hid (show monB n = true from decide_eq_true ⟨h1, h2⟩)
  rw [hf.out]
  go_enter Try.func70, Try.ntmps70
  go_wp2_with fail
  go_ret
  exact ⟨rfl, Below.refl _ _⟩
def PostC (w : World) (p : XPosting × Int) (e : Ending) (w' : World) : Prop := ∃ A c, e = .returned (.tuple #[.agg #[.int .i64 p.1.kind, .int .i64 p.1.entity, .int .i64 p.1.other, .int .i64 p.1.rule, .slice A p.1.parts.length c], .int .i64 p.2]) ∧
 ListC PartC 2 w' (fun k => w.heap.size ≤ k ∧ k < w'.heap.size) [.slice A p.1.parts.length c] p.1.parts ∧ Below w.heap.size w w'
theorem PostC.bad {w w' : World} {e : Int} (hb : Below w.heap.size w w') : PostC w ({}, e) (.returned (.tuple #[.agg #[.int .i64 0, .int .i64 0, .int .i64 0, .int .i64 0, .slice none 0 0], .int .i64 e])) w' := ⟨none, 0, rfl, listC0 _ _ _ _, hb⟩
theorem setRow_keep {w : World} {g b : Nat} {x : Obj} {cs : Array Value} (h : w.heap[b]? = some x) (hne : b ≠ g) : (w.setRow g cs).heap[b]? = some x := ((fr_setRow w g cs).block b hne).trans h
section
variable {P : Program} (w : World)
theorem run_app_none (base : Nat) (t ty e : TypeId) (i : TypeInfo) (size : Nat) (ht : P.underlying t = some (.slice e)) (hi : P.info? e = some i)
 (v : Value) (n : Nat) (xs : List Value) (hown : w.ownsRow base e size v n xs) (c : Nat) : (Builtin.append_ #[t, t] ty #[v, .slice none 0 c]).run P w = .ok v w := by
 rcases hown.2 with ⟨rfl, rfl⟩ | ⟨g, cap, cur, rfl, _, _, hnc, _⟩
 · simp [Builtin.append_, run_underlying ht, sizeOf, typeInfo, hi, Builtin.lenOf, Builtin.firstCells]
 · simp [Builtin.append_, run_underlying ht, sizeOf, typeInfo, hi, Builtin.lenOf, Builtin.firstCells, hnc, storeCells]
theorem run_app (base : Nat) (t ty e : TypeId) (i : TypeInfo) (z : Value) (size bytes : Nat) (ht : P.underlying t = some (.slice e)) (hi : P.info? e = some i) (hz : i.zero = some z)
 (hsize : i.size = size) (hby : i.bytes = bytes) (hzs : z.cells.size = size) (hsz : 0 < size)
 (v : Value) (n : Nat) (xs : List Value) (hown : w.ownsRow base e size v n xs)
 (Q : Nat → Prop) (A : Option Addr) (m c : Nat) (news : List Value) (hr : Rd w Q A m size news) (h1 : ∀ u ∈ news, u.oneCell' = true)
 (h63 : n + m ≤ maxLen) (hbytes : (n + m) * bytes ≤ 140737488355328) (hbase : base ≤ w.heap.size) :
 ∃ v' w', (Builtin.append_ #[t, t] ty #[v, .slice A m c]).run P w = .ok v' w' ∧ w'.ownsRow base e size v' (n + m) (xs ++ news) ∧ w.grownBy w' v.ownBlock ∧
  (v'.ownBlock = v.ownBlock ∨ v'.ownBlock = some w.heap.size) := by
 rcases A with _ | ad
 · have hm : m = 0 := by
    rcases Nat.eq_zero_or_pos m with h0 | h0
    · exact h0
    · obtain ⟨ad, h, _⟩ := hr.2 h0
      cases h
   subst hm
   have hn : news = [] := List.eq_nil_of_length_eq_zero (by simpa using hr.1)
   subst hn
   exact ⟨v, w, run_app_none w base t ty e i size ht hi v n xs hown c, by simpa using hown, World.grownBy.refl w _, .inl rfl⟩
 · have hcells : ∀ j u, news[j]? = some u → w.cell? (ad.add j) = some u := by
    intro j u hu
    rcases Nat.eq_zero_or_pos m with h0 | h0
    · subst h0
      have hn : news = [] := List.eq_nil_of_length_eq_zero (by simpa using hr.1)
      subst hn
      simp at hu
    · obtain ⟨ad', h, hc⟩ := hr.2 h0
      injection h with h
      subst h
      exact (hc.2 j u hu).1
   obtain ⟨v', w', hrun, h2, h3, _, h5⟩ := run_append_own_at (P := P) w base t ty e i z size bytes ht hi hz hsize hby hzs hsz v n xs hown ad m c news hr.1 hcells h1 h63 hbytes hbase
   exact ⟨v', w', hrun, h2, h3, h5⟩
theorem wp_app {o : Oper} {a : Act} {K : Act → World → Prop} {Q' : Exit → Act → World → Prop} (s x : Operand) (t : TypeId)
 (ho : o.op = .call { callee := .builtin .append, args := #[s, x], argTypes := #[t, t] })
 (base : Nat) (e : TypeId) (i : TypeInfo) (z : Value) (size bytes : Nat) (ht : P.underlying t = some (.slice e)) (hi : P.info? e = some i) (hz : i.zero = some z)
 (hsize : i.size = size) (hby : i.bytes = bytes) (hzs : z.cells.size = size) (hsz : 0 < size)
 (v : Value) (n : Nat) (xs : List Value) (hs : a.eval s = v) (hown : w.ownsRow base e size v n xs)
 (Q : Nat → Prop) (A : Option Addr) (m c : Nat) (news : List Value) (hx : a.eval x = .slice A m c) (hr : Rd w Q A m size news) (h1 : ∀ u ∈ news, u.oneCell' = true)
 (h63 : n + m ≤ maxLen) (hbytes : (n + m) * bytes ≤ 140737488355328) (hbase : base ≤ w.heap.size)
 (h : ∀ v' w', w'.ownsRow base e size v' (n + m) (xs ++ news) → w.grownBy w' v.ownBlock → (v'.ownBlock = v.ownBlock ∨ v'.ownBlock = some w.heap.size) → K (a.put o.dst v') w') : o.wp P a w K Q' := by
 obtain ⟨v', w', hrun, h2, h3, h4⟩ := run_app (P := P) w base t o.type e i z size bytes ht hi hz hsize hby hzs hsz v n xs hown Q A m c news hr h1 h63 hbytes hbase
 unfold Oper.wp execOp
 simp only [ho, resolve, invoke, builtin, Sem.run_bind, Sem.run_pure, Result.andThen_ok, List.map_toArray, List.map_cons, List.map_nil, hs, hx, hrun]
 exact h v' w' h2 h3 h4
theorem wpList_app {ops : Array Oper} {rest : List Oper} {o : Oper} {a : Act} {Q' : Exit → Act → World → Prop} (hgd : o.guard = none) (s x : Operand) (t : TypeId)
 (ho : o.op = .call { callee := .builtin .append, args := #[s, x], argTypes := #[t, t] })
 (base : Nat) (e : TypeId) (i : TypeInfo) (z : Value) (size bytes : Nat) (ht : P.underlying t = some (.slice e)) (hi : P.info? e = some i) (hz : i.zero = some z)
 (hsize : i.size = size) (hby : i.bytes = bytes) (hzs : z.cells.size = size) (hsz : 0 < size)
 (v : Value) (n : Nat) (xs : List Value) (hs : a.eval s = v) (hown : w.ownsRow base e size v n xs)
 (Q : Nat → Prop) (A : Option Addr) (m c : Nat) (news : List Value) (hx : a.eval x = .slice A m c) (hr : Rd w Q A m size news) (h1 : ∀ u ∈ news, u.oneCell' = true)
 (h63 : n + m ≤ maxLen) (hbytes : (n + m) * bytes ≤ 140737488355328) (hbase : base ≤ w.heap.size)
 (h : ∀ v' w', w'.ownsRow base e size v' (n + m) (xs ++ news) → w.grownBy w' v.ownBlock → (v'.ownBlock = v.ownBlock ∨ v'.ownBlock = some w.heap.size) → wpList P ops Q' rest (a.put o.dst v') w') : wpList P ops Q' (o :: rest) a w :=
 wpList_plain hgd fun _ hK => wp_app w s x t ho base e i z size bytes ht hi hz hsize hby hzs hsz v n xs hs hown Q A m c news hx hr h1 h63 hbytes hbase fun v' w' h2 h3 h4 => hK _ _ (h v' w' h2 h3 h4)
theorem step_app {ops : Array Oper} {o : Oper} {a : Act} {K : Act → World → Prop} {Q' : Exit → Act → World → Prop} {E : Prop} (hgd : o.guard = none) (s x : Operand) (t : TypeId)
 (ho : o.op = .call { callee := .builtin .append, args := #[s, x], argTypes := #[t, t] })
 (base : Nat) (e : TypeId) (i : TypeInfo) (z : Value) (size bytes : Nat) (ht : P.underlying t = some (.slice e)) (hi : P.info? e = some i) (hz : i.zero = some z)
 (hsize : i.size = size) (hby : i.bytes = bytes) (hzs : z.cells.size = size) (hsz : 0 < size)
 (v : Value) (n : Nat) (xs : List Value) (hs : a.eval s = v) (hown : w.ownsRow base e size v n xs)
 (Q : Nat → Prop) (A : Option Addr) (m c : Nat) (news : List Value) (hx : a.eval x = .slice A m c) (hr : Rd w Q A m size news) (h1 : ∀ u ∈ news, u.oneCell' = true)
 (h63 : n + m ≤ maxLen) (hbytes : (n + m) * bytes ≤ 140737488355328) (hbase : base ≤ w.heap.size)
 (h : ∀ v' w', w'.ownsRow base e size v' (n + m) (xs ++ news) → w.grownBy w' v.ownBlock → (v'.ownBlock = v.ownBlock ∨ v'.ownBlock = some w.heap.size) → K (a.put o.dst v') w') :
 if Region.wanted o (yielded ops a.tmps) = true then Oper.wp P o a w K Q' else E := by
 have hw : Region.wanted o (yielded ops a.tmps) = true := by simp [Region.wanted, hgd]
 rw [if_pos hw]
 exact wp_app w s x t ho base e i z size bytes ht hi hz hsize hby hzs hsz v n xs hs hown Q A m c news hx hr h1 h63 hbytes hbase h
end
theorem rd_new {w : World} {g n size : Nat} {T : TypeId} {xs : List Value} (h : w.heap[g]? = some (.cells xs.toArray T (0, 0))) (hl : xs.length = n * size) : Rd w (fun _ => True) (some ⟨g, 0, none⟩) n size xs :=
 ⟨hl, fun _ => ⟨⟨g, 0, none⟩, rfl, (box_at h).mono (fun _ _ => trivial)⟩⟩
theorem own_listC {α : Type} {El : World → (Nat → Prop) → List Value → α → Prop} {f : α → List Value} {sz : Nat} (hf : ∀ x, (f x).length = sz) {w : World} {Q : Nat → Prop} {base : Nat} {e : TypeId} {v : Value} {xs : List α} (h : w.ownsRow base e sz v xs.length (xs.flatMap f)) (hE : ∀ x ∈ xs, El w Q (f x) x) (hQ : ∀ g, v.ownBlock = some g → Q g) (hm : xs.length ≤ 1000) : ListC El sz w Q [v] xs := by
 rcases Nat.eq_zero_or_pos xs.length with h0 | h0
 · have hx : xs = [] := List.eq_nil_of_length_eq_zero h0
   subst hx
   rcases h.2 with ⟨rfl, _⟩ | ⟨g, cap, cur, rfl, _⟩
   · exact listC0 _ _ _ _
   · rename_i h2
     exact ⟨_, cap, rfl, by simp, h2.2.2.2.1, fun h => absurd h (by simp)⟩
 · obtain ⟨g, cap, rfl, h1, h2⟩ : ∃ g cap, v = .slice (some ⟨g, 0, none⟩) xs.length cap ∧ xs.length ≤ cap ∧ cap ≤ maxLen := by
    rcases h.2 with ⟨_, hz⟩ | ⟨g, cap, cur, hv, _, _, h3, h4, _⟩
    · omega
    · exact ⟨g, cap, hv, h3, h4⟩
   refine ⟨_, cap, rfl, h1, h2, fun _ => ⟨g, 0, rfl, hQ g rfl, fun i x hx => ⟨f x, hE x (List.mem_of_getElem? hx), ?_⟩⟩⟩
   have hat : At w Q ⟨g, 0, none⟩ (xs.flatMap f) := ⟨hQ g rfl, fun j u hu => ⟨h.cells (g := g) rfl j u hu, own_unfrozen h (g := g) rfl j⟩⟩
   have := flat_at f hf xs 0 hat i x hx
   exact this
theorem results_cell {P : Program} {fn : Func} {p : Tmp} {ty : TypeId} (h : fn.results = #[.cell p ty]) (tmps : Array Value) (w : World) (g : Nat) (T : TypeId) (cs : Array Value) (fr : Nat × Nat) (d : TypeDesc)
 (hp : tmps.getD p undef = .pointer (some ⟨g, 0, none⟩)) (hg : w.heap[g]? = some (.cells cs T fr))
 (hu : P.underlying ty = some d) (hd : (match d with | .struct _ | .array _ _ => true | _ => false) = true) (hi : (P.info? ty).map (·.size) = some cs.size) :
 (results fn tmps).run P w = .ok (.agg cs) w := by
 have hp' : tmps[p]?.getD undef = .pointer (some ⟨g, 0, none⟩) := by simpa using hp
 simp [results, h, hp', asAddr, run_loadVar_row w g T ty cs fr d hg hu hd hi]
set_option maxHeartbeats 1000000 in
theorem sRoles_c (w : World) : Calls Try.prog 18 #[] w (fun e w' => e = .returned (.agg #[.int .i64 1500, .int .i64 1600, .int .i64 1700, .int .i64 1200, .int .i64 3100, .int .i64 3200, .int .i64 3300, .int .i64 3400, .int .i64 3500, .int .i64 4500, .int .i64 4600, .int .i64 4700, .int .i64 5500, .int .i64 5600, .int .i64 5700]) ∧ Below w.heap.size w w') := by
 go_enter Try.func18, Try.ntmps18
 go_wp2_with fail
 refine bodyPost_ret (v := _) (results_cell rfl _ _ w.heap.size 26 _ (0, 0) _ rfl (heap_alloc_new _ _) Try.underlying26 rfl (by rw [info_roles]; rfl)) rfl ⟨rfl, (Below.refl _ _).alloc (Nat.le_refl _) _⟩
theorem info_accA : (Try.prog.info? 72).map (fun i => (i.zero, i.size, i.bytes)) = some (some (.agg #[.int .i64 0, .int .i64 0, .int .i64 0, .int .i64 0]), 4, 32) := by kernel_rfl
theorem info_linkA : (Try.prog.info? 81).map (fun i => (i.zero, i.size, i.bytes)) = some (some (.agg #[.int .i64 0, .int .i64 0, .int .i64 0]), 3, 24) := by kernel_rfl
theorem accs_uty : Try.prog.underlying 24 = some (.slice 72) := by kernel_rfl
theorem links_uty : Try.prog.underlying 63 = some (.slice 81) := by kernel_rfl
theorem echart_at : ∀ k : Nat, k < 14 → echartS[k]? = some ⟨10 * ((k : Int) + 1), kindsS.getD k 0, 0, 0⟩ := by decide +kernel
theorem elinks_at : ∀ k : Nat, k < 14 → elinksS[k]? = some ⟨10 * ((k : Int) + 1), tosS.getD k 0, -25567⟩ := by decide +kernel
theorem own_shape {w : World} {base : Nat} {e : TypeId} {size n : Nat} {v : Value} {xs : List Value} (h : w.ownsRow base e size v n xs) : ∃ A n c, v = .slice A n c := by
 rcases h.2 with ⟨rfl, _⟩ | ⟨g, cap, cur, rfl, _⟩
 · exact ⟨_, _, _, rfl⟩
 · exact ⟨_, _, _, rfl⟩
theorem own_same {w w' : World} {base : Nat} {e : TypeId} {size n : Nat} {v : Value} {xs : List Value} (h : w.ownsRow base e size v n xs) (hb : ∀ g, v.ownBlock = some g → w'.heap[g]? = w.heap[g]?) : w'.ownsRow base e size v n xs := by
 refine ⟨h.1, ?_⟩
 rcases h.2 with h1 | ⟨g, cap, cur, rfl, h1, h2, h3⟩
 · exact .inl h1
 · exact .inr ⟨g, cap, cur, rfl, h1, (hb g rfl).trans h2, h3⟩
theorem wrap10 {k : Nat} (h : k < 14) : IntKind.i64.wrap (10 * IntKind.i64.wrap ((k : Int) + 1)) = 10 * ((k : Int) + 1) := by
 rw [IntKind.wrap_i64, IntKind.wrap_i64]; omega
theorem ent_step {W4 wr wb w2 : World} {eb i n nB s sB : Nat} {e eB : TypeId} {vA vB v2 : Value} {xs xsB : List Value} (heb : eb < W4.heap.size) (hF : Fr (QX W4.heap.size eb) W4 wr) (hwb : Below wr.heap.size wr wb) (hg : wb.grownBy w2 vA.ownBlock)
 (hA : ∀ g, vA.ownBlock = some g → W4.heap.size ≤ g) (hB : wr.ownsRow W4.heap.size eB sB vB nB xsB) (hN : ∀ g, vA.ownBlock = some g → vB.ownBlock ≠ some g) (hat : v2.ownBlock = vA.ownBlock ∨ v2.ownBlock = some wb.heap.size) (h2 : w2.ownsRow W4.heap.size e s v2 n xs) :
 (w2.setCell ⟨eb, i, none⟩ v2).ownsRow W4.heap.size e s v2 n xs ∧ (w2.setCell ⟨eb, i, none⟩ v2).ownsRow W4.heap.size eB sB vB nB xsB ∧ Fr (QX W4.heap.size eb) W4 (w2.setCell ⟨eb, i, none⟩ v2) ∧ (∀ g, v2.ownBlock = some g → vB.ownBlock ≠ some g) := by
 refine ⟨own_same h2 (fun g hg' => ?_), own_same hB (fun g hg' => ?_), ?_, fun g hg' hb => ?_⟩
 · have := (h2.lt _ hg').1
   exact Below.heap_setCell w2 ⟨eb, i, none⟩ v2 g (by show g ≠ eb; omega)
 · have h3 := hB.lt _ hg'
   have hsz := hwb.size
   rw [Below.heap_setCell w2 ⟨eb, i, none⟩ v2 g (by show g ≠ eb; omega), hg.block g (by omega) (fun e => hN g e.symm hg'), hwb.block g (by omega)]
 · have hsz := hF.size
   refine Fr.setCell (((hF.trans ((Fr.ofBelow hwb).mono (fun k hk => by have := hk.1; omega))).grown hg (fun k hk => hk.1) (fun k hk hq => ?_))) (fun h => h.2 rfl) v2
   have := hA k hk
   have := hq.1
   omega
 · rcases hat with h | h
   · exact hN g (h ▸ hg') hb
   · rw [h] at hg'
     injection hg' with hg'
     have := (hB.lt _ hb).2
     have := hwb.size
     omega
instance (n : Int) : Decidable (intBd n) := by unfold intBd; infer_instance
theorem echart_bd : ∀ x ∈ echartS, accB x := by
 show ∀ x ∈ echartS, intBd x.code ∧ intBd x.kind ∧ intBd x.basis ∧ intBd x.parent
 decide +kernel
theorem elinks_bd : ∀ x ∈ elinksS, linkBd x := by
 show ∀ x ∈ elinksS, intBd x.from_ ∧ intBd x.to_ ∧ intBd x.since
 decide +kernel
theorem accC_of {w : World} {Q : Nat → Prop} {x : XAccount} (h : accB x) : AccountC w Q (accL x) x := ⟨[_], [_], [_], [_], rfl, ⟨rfl, h.1⟩, ⟨rfl, h.2.1⟩, ⟨rfl, h.2.2.1⟩, ⟨rfl, h.2.2.2⟩⟩
theorem linkC_of {w : World} {Q : Nat → Prop} {x : XLink} (h : linkBd x) : LinkC w Q (linkL x) x := ⟨[_], [_], [_], rfl, ⟨rfl, h.1⟩, ⟨rfl, h.2.1⟩, ⟨rfl, h.2.2⟩⟩
theorem take_flat {α : Type} {f : α → List Value} {l : List α} {k : Nat} {x : α} (h : l[k]? = some x) : (l.take (k + 1)).flatMap f = (l.take k).flatMap f ++ f x := by
 rw [List.take_add_one, h, List.flatMap_append]; simp
set_option maxHeartbeats 4000000 in
theorem sEntity_c (nm cu : ByteArray) (w : World) : Calls Try.prog 19 #[.string nm, .string cu] w (fun e w' => ∃ vs : List Value, e = .returned (.agg vs.toArray) ∧ EntityC w' (fun k => w.heap.size ≤ k ∧ k < w'.heap.size) vs (entS nm cu false) ∧ Below w.heap.size w w') := by
 obtain ⟨ia, hia, hzia, hsia, hbia⟩ := info_parts info_accA
 obtain ⟨il, hil, hzil, hsil, hbil⟩ := info_parts info_linkA
 go_enter Try.func19, Try.ntmps19
 go_upto_region 4 with fail
 have HZ := heap_alloc_new w (.cells #[.string ⟨#[]⟩, .string ⟨#[]⟩, .slice none 0 0, .slice none 0 0, .bool false] 65)
 have eb1 := below1 w (.cells #[.string ⟨#[]⟩, .string ⟨#[]⟩, .slice none 0 0, .slice none 0 0, .bool false] 65)
 have ez1 : (w.alloc (.cells #[.string ⟨#[]⟩, .string ⟨#[]⟩, .slice none 0 0, .slice none 0 0, .bool false] 65)).heap.size = w.heap.size + 1 := by simp
 generalize w.alloc (Obj.cells #[.string ⟨#[]⟩, .string ⟨#[]⟩, .slice none 0 0, .slice none 0 0, .bool false] 65) = W1 at *
 have HT := heap_alloc_new W1 (.cells #[.int .i64 1010, .int .i64 1100, .int .i64 1200, .int .i64 1300, .int .i64 1500, .int .i64 2000, .int .i64 2100, .int .i64 3000, .int .i64 3300, .int .i64 4000, .int .i64 4100, .int .i64 4700, .int .i64 5000, .int .i64 5100] 3)
 have eb2 := below1 W1 (.cells #[.int .i64 1010, .int .i64 1100, .int .i64 1200, .int .i64 1300, .int .i64 1500, .int .i64 2000, .int .i64 2100, .int .i64 3000, .int .i64 3300, .int .i64 4000, .int .i64 4100, .int .i64 4700, .int .i64 5000, .int .i64 5100] 3)
 have ez2 : (W1.alloc (.cells #[.int .i64 1010, .int .i64 1100, .int .i64 1200, .int .i64 1300, .int .i64 1500, .int .i64 2000, .int .i64 2100, .int .i64 3000, .int .i64 3300, .int .i64 4000, .int .i64 4100, .int .i64 4700, .int .i64 5000, .int .i64 5100] 3)).heap.size = W1.heap.size + 1 := by simp
 replace HZ := alloc_keep HZ (Obj.cells #[.int .i64 1010, .int .i64 1100, .int .i64 1200, .int .i64 1300, .int .i64 1500, .int .i64 2000, .int .i64 2100, .int .i64 3000, .int .i64 3300, .int .i64 4000, .int .i64 4100, .int .i64 4700, .int .i64 5000, .int .i64 5100] 3)
 generalize W1.alloc (Obj.cells #[.int .i64 1010, .int .i64 1100, .int .i64 1200, .int .i64 1300, .int .i64 1500, .int .i64 2000, .int .i64 2100, .int .i64 3000, .int .i64 3300, .int .i64 4000, .int .i64 4100, .int .i64 4700, .int .i64 5000, .int .i64 5100] 3) = W2 at *
 have HK := heap_alloc_new W2 (.cells #[.int .i64 1, .int .i64 1, .int .i64 1, .int .i64 1, .int .i64 1, .int .i64 2, .int .i64 2, .int .i64 3, .int .i64 3, .int .i64 4, .int .i64 4, .int .i64 4, .int .i64 5, .int .i64 5] 3)
 have eb3 := below1 W2 (.cells #[.int .i64 1, .int .i64 1, .int .i64 1, .int .i64 1, .int .i64 1, .int .i64 2, .int .i64 2, .int .i64 3, .int .i64 3, .int .i64 4, .int .i64 4, .int .i64 4, .int .i64 5, .int .i64 5] 3)
 have ez3 : (W2.alloc (.cells #[.int .i64 1, .int .i64 1, .int .i64 1, .int .i64 1, .int .i64 1, .int .i64 2, .int .i64 2, .int .i64 3, .int .i64 3, .int .i64 4, .int .i64 4, .int .i64 4, .int .i64 5, .int .i64 5] 3)).heap.size = W2.heap.size + 1 := by simp
 replace HZ := alloc_keep HZ (Obj.cells #[.int .i64 1, .int .i64 1, .int .i64 1, .int .i64 1, .int .i64 1, .int .i64 2, .int .i64 2, .int .i64 3, .int .i64 3, .int .i64 4, .int .i64 4, .int .i64 4, .int .i64 5, .int .i64 5] 3)
 replace HT := alloc_keep HT (Obj.cells #[.int .i64 1, .int .i64 1, .int .i64 1, .int .i64 1, .int .i64 1, .int .i64 2, .int .i64 2, .int .i64 3, .int .i64 3, .int .i64 4, .int .i64 4, .int .i64 4, .int .i64 5, .int .i64 5] 3)
 generalize W2.alloc (Obj.cells #[.int .i64 1, .int .i64 1, .int .i64 1, .int .i64 1, .int .i64 1, .int .i64 2, .int .i64 2, .int .i64 3, .int .i64 3, .int .i64 4, .int .i64 4, .int .i64 4, .int .i64 5, .int .i64 5] 3) = W3 at *
 have HE := heap_alloc_new W3 (.cells #[.string nm, .string cu, .slice none 0 0, .slice none 0 0, .bool false] 65)
 have eb4 := below1 W3 (.cells #[.string nm, .string cu, .slice none 0 0, .slice none 0 0, .bool false] 65)
 have ez4 : (W3.alloc (.cells #[.string nm, .string cu, .slice none 0 0, .slice none 0 0, .bool false] 65)).heap.size = W3.heap.size + 1 := by simp
 replace HZ := alloc_keep HZ (Obj.cells #[.string nm, .string cu, .slice none 0 0, .slice none 0 0, .bool false] 65)
 replace HT := alloc_keep HT (Obj.cells #[.string nm, .string cu, .slice none 0 0, .slice none 0 0, .bool false] 65)
 replace HK := alloc_keep HK (Obj.cells #[.string nm, .string cu, .slice none 0 0, .slice none 0 0, .bool false] 65)
 generalize W3.alloc (Obj.cells #[.string nm, .string cu, .slice none 0 0, .slice none 0 0, .bool false] 65) = W4 at *
 rw [ez1] at HT
 rw [ez2, ez1] at HK
 rw [ez3, ez2, ez1] at HE
 have hb4 : Below w.heap.size w W4 := eb1.trans ((eb2.mono (by omega)).trans ((eb3.mono (by omega)).trans (eb4.mono (by omega))))
 have hz4 : W4.heap.size = w.heap.size + 4 := by omega
 have HZ' := Lib.hid HZ
 have HTO := Lib.hid (show W4.heap[w.heap.size + 1]? = some (.cells (iv tosS).toArray 3 (0, 0)) from HT)
 have HKI := Lib.hid (show W4.heap[w.heap.size + 1 + 1]? = some (.cells (iv kindsS).toArray 3 (0, 0)) from HK)
 have HE' := Lib.hid HE
 have HZ4 := Lib.hid hz4
 clear HZ HT HK HE ez1 ez2 ez3 ez4 eb1 eb2 eb3 eb4 hz4
 go_wp2_with fail
 go_loopw [8] (fun i wr => ∃ (k : Nat) (vC vL : Value), k ≤ 14 ∧ i = .int .i64 (k : Int) ∧ Fr (QX W4.heap.size (w.heap.size + 1 + 1 + 1)) W4 wr ∧ wr.heap[w.heap.size + 1 + 1 + 1]? = some (.cells #[.string nm, .string cu, vC, vL, .bool false] 65 (0, 0)) ∧ wr.ownsRow W4.heap.size 72 4 vC k ((echartS.take k).flatMap accL) ∧ wr.ownsRow W4.heap.size 81 3 vL k ((elinksS.take k).flatMap linkL) ∧ (∀ g, vC.ownBlock = some g → vL.ownBlock ≠ some g)) (fun i _ => 14 - (intOf i).toNat)
 case atStart => exact ⟨0, _, _, by omega, rfl, Fr.refl _ _, HE'.out, World.ownsRow_nil _ _ _ _, World.ownsRow_nil _ _ _ _, fun g h => by cases h⟩
 case round =>
  obtain ⟨k, vC, vL, hk, rfl, hfr, hE, hoC, hoL, hne⟩ := hrel
  have HF := Lib.hid hfr
  have hsz := hfr.size
  have HEW := Lib.hid hE
  have HOC := Lib.hid hoC
  have HOL := Lib.hid hoL
  have HNE := Lib.hid hne
  clear hfr hE hoC hoL hne
  by_cases hlt : k < 14
  case pos =>
   have hltI : (k : Int) < 14 := by omega
   obtain ⟨K1, hK1⟩ : ∃ x, kindsS.getD k 0 = x := ⟨_, rfl⟩
   obtain ⟨K2, hK2⟩ : ∃ x, tosS.getD k 0 = x := ⟨_, rfl⟩
   have hkc : wr.cell? ⟨w.heap.size + 1 + 1, k, none⟩ = some (.int .i64 K1) := by
    rw [(HF.out.cell (p := ⟨w.heap.size + 1 + 1, k, none⟩) ⟨by have := HZ4.out; show w.heap.size + 1 + 1 < _; omega, by show w.heap.size + 1 + 1 ≠ _; omega⟩), blk_cell HKI.out k]
    rw [← hK1]
    simp only [iv, List.map_toArray, List.getElem?_toArray, List.getElem?_map, List.getD_eq_getElem?_getD]
    rw [List.getElem?_eq_getElem (show k < kindsS.length from hlt)]; rfl
   have htc : wr.cell? ⟨w.heap.size + 1, k, none⟩ = some (.int .i64 K2) := by
    rw [(HF.out.cell (p := ⟨w.heap.size + 1, k, none⟩) ⟨by have := HZ4.out; show w.heap.size + 1 < _; omega, by show w.heap.size + 1 ≠ _; omega⟩), blk_cell HTO.out k]
    rw [← hK2]
    simp only [iv, List.map_toArray, List.getElem?_toArray, List.getElem?_map, List.getD_eq_getElem?_getD]
    rw [List.getElem?_eq_getElem (show k < tosS.length from hlt)]; rfl
   have HA := Lib.hid (take_flat (f := accL) (echart_at k hlt))
   have HL := Lib.hid (take_flat (f := linkL) (elinks_at k hlt))
   rw [hK1] at HA
   rw [hK2] at HL
   have c2 := blk_cell HEW.out 2
   have c3 := blk_cell HEW.out 3
   have c2A : ∀ o : Obj, (wr.alloc o).cell? ⟨w.heap.size + 1 + 1 + 1, 2, none⟩ = some vC := fun o => blk_cell (alloc_keep HEW.out o) 2
   have hkA : ∀ o : Obj, (wr.alloc o).cell? ⟨w.heap.size + 1 + 1, k, none⟩ = some (.int .i64 K1) := fun o => ((below1 wr o).cell (p := ⟨w.heap.size + 1 + 1, k, none⟩) (by have := HZ4.out; show w.heap.size + 1 + 1 < _; omega)).trans hkc
   have HKC := Lib.hid hkc
   have HTC := Lib.hid htc
   clear hK1 hK2
   have NEC := Lib.hid (show some (w.heap.size + 1 + 1 + 1) ≠ vC.ownBlock from fun e => by have := (HOC.out.lt _ e.symm).1; have := HZ4.out; omega)
   have NEL := Lib.hid (show some (w.heap.size + 1 + 1 + 1) ≠ vL.ownBlock from fun e => by have := (HOL.out.lt _ e.symm).1; have := HZ4.out; omega)
   have hnm := HZ4.out
   go_upto_region 7 with fail
   go_cut [31] from 20 to 32 (fun v wx => ∃ A2 n2 cc2, v = .slice A2 n2 cc2 ∧ wx.heap[w.heap.size + 1 + 1 + 1]? = some (.cells #[.string nm, .string cu, .slice A2 n2 cc2, vL, .bool false] 65 (0, 0)) ∧ wx.ownsRow W4.heap.size 72 4 (.slice A2 n2 cc2) (k + 1) ((echartS.take (k + 1)).flatMap accL) ∧ wx.ownsRow W4.heap.size 81 3 vL k ((elinksS.take k).flatMap linkL) ∧ Fr (QX W4.heap.size (w.heap.size + 1 + 1 + 1)) W4 wx ∧ (∀ g, (Value.slice A2 n2 cc2).ownBlock = some g → vL.ownBlock ≠ some g))
   case first =>
    go_region_law (refine step_app _ (by rfl) _ _ 24 (by rfl) W4.heap.size 72 ia _ 4 32 accs_uty hia hzia hsia hbia rfl (by decide) vC k ((echartS.take k).flatMap accL) (by rfl) (by exact (own_below HOC.out (((Below.refl _ _).alloc (Nat.le_refl _) _).drew))) (fun _ => True) (some ⟨_, 0, none⟩) 1 1 [.int .i64 (IntKind.i64.wrap (10 * IntKind.i64.wrap ((k : Int) + 1))), .int .i64 K1, .int .i64 0, .int .i64 0] (by rfl) (by exact rd_new (w := World.drew (wr.alloc _)) (heap_alloc_new wr _) rfl) (by simp [Value.oneCell']) (by unfold maxLen; omega) (by omega) (by simp; omega) ?_; intro v2 w2 hown2 hg2 hat2; obtain ⟨A2, n2, cc2, rfl⟩ := own_shape hown2; have hE2 := (hg2.block (w.heap.size + 1 + 1 + 1) (blk_lt (alloc_keep HEW.out _)) NEC.out).trans (alloc_keep HEW.out _); have hc2 := blk_cell hE2 2; have hf2 := blk_frozen hE2 2)
    all_goals (go_wp2_with fail)
    all_goals go_meet
    all_goals (obtain ⟨h1, h2, h3, h4⟩ := ent_step (i := 2) (by have := HZ4.out; omega) HF.out (((Below.refl _ _).alloc (Nat.le_refl _) _).drew) hg2 (fun g h => (HOC.out.lt _ h).1) HOL.out HNE.out hat2 hown2; rw [wrap10 hlt, ← HA.out] at h1; exact ⟨_, _, _, rfl, heap_setCell_same hE2 2 _, h1, h2, h3, h4⟩)
   case rest =>
    obtain ⟨A2, n2, cc2, rfl, hE, hoC, hoL, hfr, hne⟩ := hcut
    have HEC := Lib.hid hE
    have HOC2 := Lib.hid hoC
    have HOL2 := Lib.hid hoL
    have HFC := Lib.hid hfr
    have HNE2 := Lib.hid hne
    have c3 := blk_cell hE 3
    have hsc := hfr.size
    clear hE hoC hoL hfr hne c2A hkA c2
    have htc2 : wc.cell? ⟨w.heap.size + 1, k, none⟩ = some (.int .i64 K2) :=
     (HFC.out.cell (p := ⟨w.heap.size + 1, k, none⟩) ⟨by have := HZ4.out; show w.heap.size + 1 < _; omega, by show w.heap.size + 1 ≠ _; omega⟩).trans ((HF.out.cell (p := ⟨w.heap.size + 1, k, none⟩) ⟨by have := HZ4.out; show w.heap.size + 1 < _; omega, by show w.heap.size + 1 ≠ _; omega⟩).symm.trans HTC.out)
    have c3A : ∀ o : Obj, (wc.alloc o).cell? ⟨w.heap.size + 1 + 1 + 1, 3, none⟩ = some vL := fun o => blk_cell (alloc_keep HEC.out o) 3
    have htA : ∀ o : Obj, (wc.alloc o).cell? ⟨w.heap.size + 1, k, none⟩ = some (.int .i64 K2) := fun o => ((below1 wc o).cell (p := ⟨w.heap.size + 1, k, none⟩) (by have := HZ4.out; show w.heap.size + 1 < _; omega)).trans htc2
    go_upto_region 8 with fail
    go_region_law (refine step_app _ (by rfl) _ _ 63 (by rfl) W4.heap.size 81 il _ 3 24 links_uty hil hzil hsil hbil rfl (by decide) vL k ((elinksS.take k).flatMap linkL) (by rfl) (by exact (own_below HOL2.out (((Below.refl _ _).alloc (Nat.le_refl _) _).drew))) (fun _ => True) (some ⟨_, 0, none⟩) 1 1 [.int .i64 (IntKind.i64.wrap (10 * IntKind.i64.wrap ((k : Int) + 1))), .int .i64 K2, .int .i64 (-25567)] (by rfl) (by exact rd_new (w := World.drew (wc.alloc _)) (heap_alloc_new wc _) rfl) (by simp [Value.oneCell']) (by unfold maxLen; omega) (by omega) (by simp; omega) ?_; intro v2 w2 hown2 hg2 hat2; obtain ⟨A3, n3, cc3, rfl⟩ := own_shape hown2; have hE2 := (hg2.block (w.heap.size + 1 + 1 + 1) (blk_lt (alloc_keep HEC.out _)) NEL.out).trans (alloc_keep HEC.out _); have hc2 := blk_cell hE2 3; have hf2 := blk_frozen hE2 3)
    all_goals (go_wp2_with fail)
    all_goals (
     go_roundw
     case rel =>
      obtain ⟨h1, h2, h3, h4⟩ := ent_step (i := 3) (by have := HZ4.out; omega) HFC.out (((Below.refl _ _).alloc (Nat.le_refl _) _).drew) hg2 (fun g h => (HOL2.out.lt _ h).1) HOC2.out (fun g h h' => HNE2.out g h' h) hat2 hown2
      rw [wrap10 hlt, ← HL.out] at h1
      exact ⟨k + 1, _, _, by omega, by go_num, h3, heap_setCell_same hE2 3 _, h2, h1, fun g h h' => h4 g h' h⟩
     case measure => first | exact meas_v hlt | (simp only [intOf]; omega))
  case neg =>
   have hltI : ¬ (k : Int) < 14 := by omega
   have hk14 : k = 14 := by omega
   have HOC3 := Lib.hid (show wr.ownsRow W4.heap.size 72 4 vC echartS.length (echartS.flatMap accL) by have h := HOC.out; rw [hk14] at h; exact h)
   have HOL3 := Lib.hid (show wr.ownsRow W4.heap.size 81 3 vL elinksS.length (elinksS.flatMap linkL) by have h := HOL.out; rw [hk14] at h; exact h)
   clear hk14
   have HZR := Lib.hid ((HF.out.block w.heap.size ⟨by have := HZ4.out; omega, by omega⟩).trans HZ'.out)
   have LTR := blk_lt HZR.out
   go_wp2_with (first | (show wpList _ _ _ (Oper.mk (some 46) _ _ _ _ _ :: _) _ _; refine wpList_load_row_g rfl 65 (.tmp 7) rfl (w.heap.size + 1 + 1 + 1) rfl _ _ _ _ HEW.out Try.underlying65 rfl info_entity ?_) | (show wpList _ _ _ (Oper.mk none (Op.store _ (Operand.tmp 4) _) _ _ _ _ :: _) _ _; refine wpList_store_row rfl 65 (.tmp 4) (.tmp 46) rfl w.heap.size #[.string nm, .string cu, vC, vL, .bool false] rfl rfl 65 #[.string ⟨#[]⟩, .string ⟨#[]⟩, .slice none 0 0, .slice none 0 0, .bool false] HZR.out info_entity rfl (by obtain ⟨_, _, _, rfl⟩ := own_shape HOC3.out; obtain ⟨_, _, _, rfl⟩ := own_shape HOL3.out; simp [Value.oneCell']) ?_))
   refine bodyPost_ret (v := _) (results_cell rfl _ _ w.heap.size 65 _ (0, 0) _ rfl (heap_setRow HZR.out _) Try.underlying65 rfl info_entity) rfl ?_
   have hsz' := HF.out.size
   have hz := HZ4.out
   have hb9 : Below w.heap.size w (wr.setRow w.heap.size #[.string nm, .string cu, vC, vL, .bool false]) := below_setRow (((Fr.ofBelow hb4).trans (HF.out.mono (fun k (hk : k < w.heap.size) => ⟨by omega, by omega⟩))).below) (Nat.le_refl _) _
   have hsr : (wr.setRow w.heap.size #[.string nm, .string cu, vC, vL, .bool false]).heap.size = wr.heap.size := by simp
   have o1 := own_same (w' := wr.setRow w.heap.size #[.string nm, .string cu, vC, vL, .bool false]) HOC3.out (fun g hg => (fr_setRow wr w.heap.size _).block g (by have := (HOC3.out.lt _ hg).1; show g ≠ _; omega))
   have o2 := own_same (w' := wr.setRow w.heap.size #[.string nm, .string cu, vC, vL, .bool false]) HOL3.out (fun g hg => (fr_setRow wr w.heap.size _).block g (by have := (HOL3.out.lt _ hg).1; show g ≠ _; omega))
   have l1 := own_listC (El := AccountC) (f := accL) (fun _ => rfl) o1 (Q := fun k => w.heap.size ≤ k ∧ k < (wr.setRow w.heap.size #[.string nm, .string cu, vC, vL, .bool false]).heap.size) (fun x hx => accC_of (echart_bd x hx)) (fun g hg => by have := o1.lt _ hg; omega) (by decide)
   have l2 := own_listC (El := LinkC) (f := linkL) (fun _ => rfl) o2 (Q := fun k => w.heap.size ≤ k ∧ k < (wr.setRow w.heap.size #[.string nm, .string cu, vC, vL, .bool false]).heap.size) (fun x hx => linkC_of (elinks_bd x hx)) (fun g hg => by have := o2.lt _ hg; omega) (by decide)
   exact ⟨[.string nm, .string cu, vC, vL, .bool false], rfl, ⟨[_], [_], [_], [_], [_], rfl, rfl, rfl, l1, l2, rfl⟩, hb9⟩
end Go.Proofs.Ytekelchdbkjjjaa
