/- slices.ContainsFunc over links; group.entity. Written by gen_b28.py. -/
import Derived.Test.YtnigokmjehemaaaProg
import Derived.Test.YtnigokmjehemaaaB27MapValid
namespace Go.Proofs.Ytnigokmjehemaaa
open Go Go.RowKit
set_option linter.unusedVariables false
set_option linter.unusedSimpArgs false
set_option maxRecDepth 4000
attribute [local go_sem ↓] Go.wp_at_zero Go.wp_at_succ
set_option maxHeartbeats 1000000 in
theorem closed_c (l : XLink) (hl : linkBd l) (g bm N : Nat) (F : Int → Bool) (w : World) (hg : w.heap[g]? = some (.cells #[.map (some bm)] 204 (0, 0))) (hset : SetI w bm N F) : Calls Try.prog 169 #[.agg (linkL l).toArray, .pointer (some ⟨g, 0, none⟩)] w (Quiet w (.bool (F l.to_))) := by
  obtain ⟨l1, l2, l3⟩ := l
  have HB2 := Lib.hid hl.2.1
  clear hl
  obtain ⟨v, hv⟩ : ∃ v, F l2 = v := ⟨_, rfl⟩
  show Calls Try.prog 169 #[.agg #[.int .i64 l1, .int .i64 l2, .int .i64 l3], .pointer (some ⟨g, 0, none⟩)] w (Quiet w (.bool (F l2)))
  rw [hv]
  have HV := Lib.hid hv
  clear hv
  go_enter Try.func169, Try.ntmps169
  go_upto_region 1 with fail
  have H := heap_alloc_new w (.cells #[.int .i64 l1, .int .i64 l2, .int .i64 l3] 182)
  have HB := below1 w (.cells #[.int .i64 l1, .int .i64 l2, .int .i64 l3] 182)
  have HS : w.heap.size < (w.alloc (.cells #[.int .i64 l1, .int .i64 l2, .int .i64 l3] 182)).heap.size := blk_lt H
  replace hg := alloc_keep hg (Obj.cells #[.int .i64 l1, .int .i64 l2, .int .i64 l3] 182)
  generalize hW : w.alloc (Obj.cells #[.int .i64 l1, .int .i64 l2, .int .i64 l3] 182) = W at *
  clear hW
  have d1 := blk_cell H 1
  have e0 := blk_cell hg 0
  have hset2 := hset.below HB
  clear hset H hg
  go_wp2_with (at_lookup; refine wpList_look_set rfl _ _ 204 rfl 3 4 int_keyed3 imap_uty bool_uty (bool_zero _) bm N F rfl hset2 _ l2 rfl (iKey_of HB2.out) ?_)
  go_ret
  exact ⟨by rw [HV.out]; first | done | rfl, HB⟩
set_option maxHeartbeats 1000000 in
theorem idxL_c (l : List XLink) (A : Option Addr) (c : Nat) (g bm N : Nat) (F : Int → Bool) (w : World) (hg : w.heap[g]? = some (.cells #[.map (some bm)] 204 (0, 0))) (hset : SetI w bm N F) (hl : ListC LinkC 3 w (· < w.heap.size) [.slice A l.length c] l) (hn : l.length ≤ 1000) : Calls Try.prog 194 #[.slice A l.length c, .func (.func 169) #[] #[.pointer (some ⟨g, 0, none⟩)]] w (Quiet w (.int .i64 (idxI (fun a => F a.to_) l))) := by
  obtain ⟨r, hr⟩ : ∃ r, idxI (fun a => F a.to_) l = r := ⟨_, rfl⟩
  rw [hr]
  have HR := Lib.hid hr
  clear hr
  obtain ⟨n, hnl⟩ : ∃ n, l.length = n := ⟨_, rfl⟩
  rw [hnl] at hn
  have HL := Lib.hid hl
  have HG := Lib.hid hg
  have HSET := Lib.hid hset
  have HN := Lib.hid hnl
  rw [hnl]
  clear hl hnl hg hset
  go_enter Try.func194, Try.ntmps194
  go_wp2_with fail
  go_loopw [8] (fun i wr => ∃ k : Nat, k ≤ n ∧ i = .int .i64 (k : Int) ∧ Below w.heap.size w wr ∧ ∀ j (hj : j < l.length), j < k → F l[j].to_ = false) (fun i _ => n - (intOf i).toNat)
  case atStart => exact ⟨0, by omega, rfl, Below.refl _ _, fun j hj h => by omega⟩
  case round =>
    obtain ⟨k, hk, rfl, hb, hall⟩ := hrel
    have HA := Lib.hid hall
    clear hall
    have hsz := hb.size
    by_cases hlt : k < n
    case pos =>
      have hltI : (k : Int) < (n : Int) := by omega
      have hkl : k < l.length := by rw [HN.out]; exact hlt
      obtain ⟨b, o, es, hAe, hbw, hes, hat⟩ := ListC.get HL.out k hkl
      subst hAe
      obtain ⟨hes1, hlb⟩ := LinkC.lit hes
      rw [hes1] at hat
      obtain ⟨ac, hac⟩ : ∃ ac, l[k] = ac := ⟨_, rfl⟩
      rw [hac] at hat hlb
      have HLB := Lib.hid hlb
      have HAC := Lib.hid hac
      have HAR := Lib.hid ((hat.fr (Fr.ofBelow hb)).range)
      have gR := (hb.block g (blk_lt HG.out)).trans HG.out
      have sR := HSET.out.below hb
      clear hes hes1 hat hac hlb
      go_wp2_with (show wpList _ _ _ (Oper.mk (some 15) _ _ _ _ _ :: _) _ _; refine wpList_load_mid rfl 182 (.tmp 14) rfl b (o + k * 3) rfl (linkL ac) _ HAR.out Try.underlying182 rfl info_link ?_)
      refine (closed_c ac HLB.out g bm N F wr gR sR).mono ?_
      rintro e w2 ⟨rfl, hb2⟩
      have hbb := hb.trans (hb2.mono hb.size)
      cases hp : F ac.to_ with
      | true =>
        have hf := Lib.hid (show r = (k : Int) by rw [← HR.out]; exact idx_some hkl (by rw [HAC.out]; exact hp) (fun j hj hjk => HA.out j hj hjk))
        clear hp
        go_wp2_with fail
        go_ret
        exact ⟨by rw [hf.out]; first | done | rfl, hbb⟩
      | false =>
        have HP := Lib.hid hp
        clear hp
        go_wp2_with fail
        go_roundw
        case rel => exact ⟨k + 1, by omega, by go_num, hbb, fun j hj hjk => by
          rcases Nat.lt_or_ge j k with h | h
          · exact HA.out j hj h
          · have : j = k := by omega
            subst this
            rw [HAC.out]
            exact HP.out⟩
        case measure =>
          have e : wrap64 ((k : Int) + 1) = ((k + 1 : Nat) : Int) := by unfold wrap64; omega
          simp only [intOf, e]
          omega
    case neg =>
      have hltI : ¬ (k : Int) < (n : Int) := by omega
      have hf := Lib.hid (show r = -1 by rw [← HR.out]; exact idx_none (fun j hj => HA.out j hj (by have := HN.out; omega)))
      go_wp2_with fail
      go_ret
      exact ⟨by rw [hf.out]; first | done | rfl, hb⟩
set_option maxHeartbeats 1000000 in
theorem anyL_c (l : List XLink) (A : Option Addr) (c : Nat) (g bm N : Nat) (F : Int → Bool) (w : World) (hg : w.heap[g]? = some (.cells #[.map (some bm)] 204 (0, 0))) (hset : SetI w bm N F) (hl : ListC LinkC 3 w (· < w.heap.size) [.slice A l.length c] l) (hn : l.length ≤ 1000) : Calls Try.prog 168 #[.slice A l.length c, .func (.func 169) #[] #[.pointer (some ⟨g, 0, none⟩)]] w (Quiet w (.bool (l.any fun a => F a.to_))) := by
  have hcall := idxL_c l A c g bm N F w hg hset hl hn
  obtain ⟨n, hnl⟩ : ∃ n, l.length = n := ⟨_, rfl⟩
  rw [hnl] at hcall ⊢
  have hh : decide (0 ≤ idxI (fun a => F a.to_) l) = (l.any fun a => F a.to_) := by rw [idx_any]
  obtain ⟨i, hi⟩ : ∃ i, idxI (fun a => F a.to_) l = i := ⟨_, rfl⟩
  rw [hi] at hcall hh
  clear hset hg
  rw [← hh]
  clear hh hi
  go_enter Try.func168, Try.ntmps168
  go_wp2_with fail
  refine hcall.mono ?_
  clear hcall
  rintro e w2 ⟨rfl, hb2⟩
  by_cases h : 0 ≤ i
  · have hf : decide (0 ≤ i) = true := decide_eq_true h
    have HF := Lib.hid hf
    clear hf
    go_wp2_with fail
    go_ret
    exact ⟨by rw [HF.out]; first | done | rfl, hb2⟩
  · have hf : decide (0 ≤ i) = false := decide_eq_false h
    have HF := Lib.hid hf
    clear hf
    go_wp2_with fail
    go_ret
    exact ⟨by rw [HF.out]; first | done | rfl, hb2⟩
theorem grp2 {w : World} {g : XGroup} {cs : List Value} (h : GroupC w (· < w.heap.size) cs g) : True := trivial
theorem mapValid_n {e : XEntity} {ch : List XAccount} {Ac Al Ah : Option Addr} {n m nl cc cl hc : Nat} {w : World} (hN : e.chart.length = n) (hM : ch.length = m) (hNL : e.links.length = nl) (hec : ListC AccountC 4 w (· < w.heap.size) [.slice Ac e.chart.length cc] e.chart) (hls : ListC LinkC 3 w (· < w.heap.size) [.slice Al e.links.length cl] e.links) (hch : ListC AccountC 4 w (· < w.heap.size) [.slice Ah ch.length hc] ch) (hn : e.chart.length ≤ 1000) (hm : ch.length ≤ 1000) (hnl : e.links.length ≤ 1000) (w2 : World) (hb : Below w.heap.size w w2) :
    Calls Try.prog 167 #[.agg (entL e.name e.currency Ac n cc Al nl cl e.joint).toArray, .slice Ah m hc] w2 (Quiet w2 (.bool (mapB e.chart ch e.links))) :=
  mapValid_c e.name e.currency Ac Al Ah n m nl cc cl hc e.joint e.chart ch e.links w2 hN hM hNL (chart_keep hec hb) (links_keep hls hb) (chart_keep hch hb) hn hm hnl
def entP (ch : List XAccount) (L : List XRole) (e : XEntity) : Bool := nameB e.name && (curB e.currency && (mapB e.chart ch e.links && !(e.links.any fun l => closedP L l.to_)))
set_option maxHeartbeats 2000000 in
theorem entity_c (g : XGroup) (cs : List Value) (x : XEntity) (xs : List Value) (w : World) (hg : GroupC w (· < w.heap.size) cs g) (hx : EntityC w (· < w.heap.size) xs x) (hn : g.chart.length ≤ 1000) (hn2 : x.chart.length ≤ 1000) (hnl : x.links.length ≤ 1000) (hs1 : x.name.size ≤ 1000) (hs2 : x.currency.size ≤ 1000) : Calls Try.prog 121 #[.agg cs.toArray, .agg xs.toArray] w (Quiet w (.bool (entP g.chart (rolesOf g.roles) x))) := by
  have hmm := @run_makeMap Try.prog
  have hmf : ∀ (fn : Fn) (first cap : Array Value) (w : World), (Instr.makeFunc fn first cap).run Try.prog w = .ok (.func fn first cap) w := fun _ _ _ _ => rfl
  obtain ⟨r, hr⟩ : ∃ r, entP g.chart (rolesOf g.roles) x = r := ⟨_, rfl⟩
  rw [hr]
  have HR := Lib.hid hr
  clear hr
  obtain ⟨Ac, cc, Ae, ce, rfl, hch, hen, hcal, hro⟩ := hg.lit
  clear hg
  obtain ⟨cur, ⟨y, m, p⟩, ch, ⟨r0, r1, r2, r3, r4, r5, r6, r7, r8, r9, r10, r11, r12, r13, r14⟩, es⟩ := g
  simp only at hch hen hro hcal hn ⊢
  obtain ⟨Ec, c2, Al, cl, rfl, hec, hel⟩ := hx.lit
  clear hx
  obtain ⟨L, hL⟩ : ∃ L, rolesL r0 r1 r2 r3 r4 r5 r6 r7 r8 r9 r10 r11 r12 r13 r14 = L := ⟨_, rfl⟩
  have hLl : L.length = 15 := by rw [← hL]; rfl
  have HLQ := Lib.hid hL
  have HLL := Lib.hid hLl
  obtain ⟨n, hnn⟩ : ∃ n, ch.length = n := ⟨_, rfl⟩
  obtain ⟨ne, hne⟩ : ∃ ne, es.length = ne := ⟨_, rfl⟩
  have HL := Lib.hid hch
  have HN := Lib.hid hnn
  have HE := Lib.hid hen
  have HNE := Lib.hid hne
  rw [hnn, hne]
  rw [hnn] at hn
  clear hL hLl hch hen hnn hne hcal
  have hrb : ∀ q ∈ L, intBd q.code := by
    rw [← HLQ.out]
    obtain ⟨b0, b1, b2, b3, b4, b5, b6, b7, b8, b9, b10, b11, b12, b13, b14⟩ := hro
    intro q hq
    simp only [rolesL, List.mem_cons, List.not_mem_nil, or_false] at hq
    rcases hq with rfl | rfl | rfl | rfl | rfl | rfl | rfl | rfl | rfl | rfl | rfl | rfl | rfl | rfl | rfl <;> assumption
  have HRB := Lib.hid hrb
  clear hrb hro
  obtain ⟨n2, hn2e⟩ : ∃ n, x.chart.length = n := ⟨_, rfl⟩
  obtain ⟨nl, hnle⟩ : ∃ n, x.links.length = n := ⟨_, rfl⟩
  have HMV := Lib.hid (mapValid_n hn2e HN.out hnle hec hel HL.out hn2 (by rw [HN.out]; exact hn) hnl)
  have HLK := Lib.hid hel
  have HNL := Lib.hid hnle
  rw [hn2e, hnle]
  obtain ⟨s, cu, ec, ls, jo⟩ := x
  simp only at HR HMV HLK HNL hs1 hs2 hnl ⊢
  have HNL2 := Lib.hid hnl
  clear hnl
  clear hec hel hn2e hnle hn2
  show Calls Try.prog 121 #[.agg #[.string cur, .int .i64 y, .int .i64 m, .int .i64 p, .slice Ac n cc, .int .i64 r0, .int .i64 r1, .int .i64 r2, .int .i64 r3, .int .i64 r4, .int .i64 r5, .int .i64 r6, .int .i64 r7, .int .i64 r8, .int .i64 r9, .int .i64 r10, .int .i64 r11, .int .i64 r12, .int .i64 r13, .int .i64 r14, .slice Ae ne ce], .agg #[.string s, .string cu, .slice Ec n2 c2, .slice Al nl cl, .bool jo]] w (Quiet w (.bool r))
  go_enter Try.func121, Try.ntmps121
  go_upto_region 1 with fail
  have H := heap_alloc_new w (.cells #[.string cur, .int .i64 y, .int .i64 m, .int .i64 p, .slice Ac n cc, .int .i64 r0, .int .i64 r1, .int .i64 r2, .int .i64 r3, .int .i64 r4, .int .i64 r5, .int .i64 r6, .int .i64 r7, .int .i64 r8, .int .i64 r9, .int .i64 r10, .int .i64 r11, .int .i64 r12, .int .i64 r13, .int .i64 r14, .slice Ae ne ce] 29)
  have HB := below1 w (.cells #[.string cur, .int .i64 y, .int .i64 m, .int .i64 p, .slice Ac n cc, .int .i64 r0, .int .i64 r1, .int .i64 r2, .int .i64 r3, .int .i64 r4, .int .i64 r5, .int .i64 r6, .int .i64 r7, .int .i64 r8, .int .i64 r9, .int .i64 r10, .int .i64 r11, .int .i64 r12, .int .i64 r13, .int .i64 r14, .slice Ae ne ce] 29)
  have HS : w.heap.size < (w.alloc (.cells #[.string cur, .int .i64 y, .int .i64 m, .int .i64 p, .slice Ac n cc, .int .i64 r0, .int .i64 r1, .int .i64 r2, .int .i64 r3, .int .i64 r4, .int .i64 r5, .int .i64 r6, .int .i64 r7, .int .i64 r8, .int .i64 r9, .int .i64 r10, .int .i64 r11, .int .i64 r12, .int .i64 r13, .int .i64 r14, .slice Ae ne ce] 29)).heap.size := blk_lt H
  generalize hW : w.alloc (Obj.cells #[.string cur, .int .i64 y, .int .i64 m, .int .i64 p, .slice Ac n cc, .int .i64 r0, .int .i64 r1, .int .i64 r2, .int .i64 r3, .int .i64 r4, .int .i64 r5, .int .i64 r6, .int .i64 r7, .int .i64 r8, .int .i64 r9, .int .i64 r10, .int .i64 r11, .int .i64 r12, .int .i64 r13, .int .i64 r14, .slice Ae ne ce] 29) = W at *
  have H2 := heap_alloc_new W (.cells #[.string s, .string cu, .slice Ec n2 c2, .slice Al nl cl, .bool jo] 113)
  have HB2 := below1 W (.cells #[.string s, .string cu, .slice Ec n2 c2, .slice Al nl cl, .bool jo] 113)
  have HS2 : W.heap.size < (W.alloc (.cells #[.string s, .string cu, .slice Ec n2 c2, .slice Al nl cl, .bool jo] 113)).heap.size := blk_lt H2
  replace H := alloc_keep H (Obj.cells #[.string s, .string cu, .slice Ec n2 c2, .slice Al nl cl, .bool jo] 113)
  generalize hW2 : W.alloc (Obj.cells #[.string s, .string cu, .slice Ec n2 c2, .slice Al nl cl, .bool jo] 113) = W2 at *
  clear hW2
  have eW : W.heap.size = w.heap.size + 1 := by rw [← hW]; simp
  rw [eW] at H2
  clear hW
  have hb2 := HB.trans (HB2.mono HB.size)
  have hs2' := HB2.size
  have f0 := blk_cell H2 0
  have HAT := Lib.hid ((box_at (cs := [.string cur, .int .i64 y, .int .i64 m, .int .i64 p, .slice Ac n cc] ++ ([.int .i64 r0, .int .i64 r1, .int .i64 r2, .int .i64 r3, .int .i64 r4, .int .i64 r5, .int .i64 r6, .int .i64 r7, .int .i64 r8, .int .i64 r9, .int .i64 r10, .int .i64 r11, .int .i64 r12, .int .i64 r13, .int .i64 r14] ++ [.slice Ae ne ce])) H).split.2.split.1)
  have HH := Lib.hid H
  have HH2 := Lib.hid H2
  have LT1 := blk_lt H2
  clear H H2
  go_wp2_with fail
  refine (name_c s W2 hs1).mono ?_
  rintro e w3 ⟨rfl, hb3⟩
  have hb03 := hb2.trans (hb3.mono hb2.size)
  have hs3 := hb3.size
  cases hc1 : nameB s with
  | false =>
    have hf := Lib.hid (show r = false by rw [← HR.out]; unfold entP; simp only [hc1]; rfl)
    go_wp2_with fail
    go_ret
    exact ⟨by rw [hf.out]; first | done | rfl, hb03⟩
  | true =>
  have HC1 := Lib.hid hc1
  have E3 := (hb3.block _ LT1).trans HH2.out
  have f1 := blk_cell E3 1
  clear hc1 f0
  go_wp2_with fail
  refine (currency_c cu w3 hs2).mono ?_
  rintro e wC ⟨rfl, hbC⟩
  have hb0C := hb03.trans (hbC.mono hb03.size)
  have hsC := hbC.size
  cases hc2 : curB cu with
  | false =>
    have hf := Lib.hid (show r = false by rw [← HR.out]; unfold entP; simp only [hc2]; simp)
    go_wp2_with fail
    go_ret
    exact ⟨by rw [hf.out]; first | done | rfl, hb0C⟩
  | true =>
  have HC2 := Lib.hid hc2
  have HE3 := Lib.hid ((hbC.block _ (by omega)).trans E3)
  have GC := (hbC.block _ (by omega)).trans ((hb3.block _ (by omega)).trans HH.out)
  have d4 := blk_cell GC 4
  have HCALL := Lib.hid (HMV.out wC hb0C)
  clear hc2 f1 E3 GC
  go_wp2_with (show wpList _ _ _ (Oper.mk (some 19) _ _ _ _ _ :: _) _ _; refine wpList_load_row_g rfl 113 (.tmp 3) rfl (w.heap.size + 1) rfl _ _ _ _ HE3.out Try.underlying113 rfl info_entity ?_)
  refine HCALL.out.mono ?_
  rintro e w4 ⟨rfl, hb4⟩
  have hb04 := hb0C.trans (hb4.mono hb0C.size)
  have hs4 := hb4.size
  clear d4
  cases hc3 : mapB ec ch ls with
  | false =>
    have hf := Lib.hid (show r = false by rw [← HR.out]; unfold entP; simp only [hc3]; simp)
    go_wp2_with fail
    go_ret
    exact ⟨by rw [hf.out]; first | done | rfl, hb04⟩
  | true =>
  have HC3 := Lib.hid hc3
  have G4 := (hb4.block _ (by omega)).trans ((hbC.block _ (by omega)).trans ((hb3.block _ (by omega)).trans HH.out))
  have E4 := (hb4.block _ (by omega)).trans HE3.out
  clear hc3
  go_upto_region 4 with fail
  have hs0 := SetK.made Try.prog 3 4 iKey w4
  have HB5 := below1 w4 (.map #[] 0)
  have HS5 : w4.heap.size + 1 = (w4.alloc (.map #[] 0)).heap.size := by simp
  replace G4 := alloc_keep G4 (.map #[] 0)
  replace E4 := alloc_keep E4 (.map #[] 0)
  generalize hW5 : w4.alloc (Obj.map #[] 0) = W5 at *
  have H6 := heap_alloc_new W5 (.cells #[.map (some w4.heap.size)] 204)
  have HB6 := below1 W5 (.cells #[.map (some w4.heap.size)] 204)
  have HS6 : W5.heap.size < (W5.alloc (.cells #[.map (some w4.heap.size)] 204)).heap.size := blk_lt H6
  replace G4 := alloc_keep G4 (Obj.cells #[.map (some w4.heap.size)] 204)
  replace E4 := alloc_keep E4 (Obj.cells #[.map (some w4.heap.size)] 204)
  generalize hW6 : W5.alloc (Obj.cells #[.map (some w4.heap.size)] 204) = W6 at *
  clear hW6
  clear hW5
  have hset6 := hs0.below HB6
  have hs6 := HB6.size
  have HAT6 := Lib.hid ((HAT.out.fr (Fr.ofBelow (hb3.trans ((hbC.mono hs3).trans ((hb4.mono (by omega)).trans ((HB5.mono (by omega)).trans (HB6.mono (by omega)))))))).range)
  have HG6 := Lib.hid G4
  have HE6 := Lib.hid E4
  have HV6 := Lib.hid H6
  have hb06 := hb04.trans ((HB5.mono hb04.size).trans (HB6.mono (by omega)))
  clear G4 E4 H6 hs0
  go_wp2_with (show wpList _ _ _ (Oper.mk (some 27) _ _ _ _ _ :: _) _ _; refine wpList_load_mid rfl 26 (.tmp 26) rfl w.heap.size 5 rfl [.int .i64 r0, .int .i64 r1, .int .i64 r2, .int .i64 r3, .int .i64 r4, .int .i64 r5, .int .i64 r6, .int .i64 r7, .int .i64 r8, .int .i64 r9, .int .i64 r10, .int .i64 r11, .int .i64 r12, .int .i64 r13, .int .i64 r14] _ HAT6.out Try.underlying26 rfl info_roles ?_)
  refine (roles_c r0 r1 r2 r3 r4 r5 r6 r7 r8 r9 r10 r11 r12 r13 r14 W6).mono ?_
  rintro e w5 ⟨v, rfl, ⟨A, c, rfl⟩, hrl, hb5⟩
  rw [HLQ.out] at hrl
  have HROL := Lib.hid (show ListC RoleC 5 w5 (fun k => W6.heap.size ≤ k ∧ k < w5.heap.size) [.slice A L.length c] L by rw [HLL.out]; exact hrl)
  have hs5 := hb5.size
  have hbd := hb06.trans (hb5.mono hb06.size)
  have hset5 := hset6.below hb5
  have HG5 := Lib.hid ((hb5.block _ (by omega)).trans HG6.out)
  have HE5 := Lib.hid ((hb5.block _ (by omega)).trans HE6.out)
  have HV5 := Lib.hid ((hb5.block _ (by omega)).trans HV6.out)
  clear hrl hset6
  go_wp2_with fail
  go_loopw [30] (fun i wr => ∃ k : Nat, k ≤ 15 ∧ i = .int .i64 (k : Int) ∧ Fr (QX w5.heap.size w4.heap.size) w5 wr ∧ SetI wr w4.heap.size k (closedP (L.take k))) (fun i _ => 15 - (intOf i).toNat)
  case atStart => exact ⟨0, by omega, rfl, Fr.refl _ _, hset5.eqv (fun _ => rfl)⟩
  case round =>
    obtain ⟨k, hk, rfl, hfr, hset⟩ := hrel
    have HF := Lib.hid hfr
    have hsz := hfr.size
    clear hfr
    have hb0 : Below w.heap.size w wr := ((Fr.ofBelow hbd).trans (HF.out.mono (fun k (hk : k < w.heap.size) => ⟨by omega, by omega⟩))).below
    have VR := (HF.out.block W5.heap.size ⟨by omega, by omega⟩).trans HV5.out
    by_cases hlt : k < 15
    case pos =>
      have hltI : (k : Int) < 15 := by omega
      have hkl : k < L.length := by rw [HLL.out]; exact hlt
      obtain ⟨b, o, es1, hAe, hbw, hes, hat⟩ := ListC.get HROL.out k hkl
      subst hAe
      obtain ⟨q, hq⟩ : ∃ q, L[k] = q := ⟨_, rfl⟩
      have hqb := HRB.out _ (List.getElem_mem hkl)
      rw [hq] at hes hqb
      have HQ := Lib.hid hq
      obtain ⟨qn, qc, qk, qb, qm⟩ := q
      have HQB := Lib.hid hqb
      obtain ⟨hqb1, hqb2⟩ := hqb
      have hes1 : es1 = [.string qn, .int .i64 qc, .int .i64 qk, .int .i64 qb, .bool qm] := hes
      subst hes1
      have HAR := Lib.hid ((hat.fr (HF.out.mono (fun k hk => ⟨hk.2, by omega⟩))).range)
      obtain ⟨F, hF⟩ : ∃ F : Int → Bool, closedP (L.take k) = F := ⟨_, rfl⟩
      rw [hF] at hset
      have HF2 := Lib.hid hF
      clear hes hat hq hF hbw
      go_upto_region 7 with (show wpList _ _ _ (Oper.mk (some 33) _ _ _ _ _ :: _) _ _; refine wpList_load_mid rfl 208 (.tmp 32) rfl b (o + k * 5) rfl [.string qn, .int .i64 qc, .int .i64 qk, .int .i64 qb, .bool qm] _ HAR.out Try.underlying208 rfl info_role ?_)
      have H7 := heap_alloc_new wr (.cells #[.string qn, .int .i64 qc, .int .i64 qk, .int .i64 qb, .bool qm] 208)
      have HB7 := below1 wr (.cells #[.string qn, .int .i64 qc, .int .i64 qk, .int .i64 qb, .bool qm] 208)
      have HS7 : wr.heap.size < (wr.alloc (.cells #[.string qn, .int .i64 qc, .int .i64 qk, .int .i64 qb, .bool qm] 208)).heap.size := blk_lt H7
      replace VR := alloc_keep VR (Obj.cells #[.string qn, .int .i64 qc, .int .i64 qk, .int .i64 qb, .bool qm] 208)
      generalize hW7 : wr.alloc (Obj.cells #[.string qn, .int .i64 qc, .int .i64 qk, .int .i64 qb, .bool qm] 208) = W7 at *
      clear hW7
      have rr1 := blk_cell H7 1
      have rr4 := blk_cell H7 4
      have v0 := blk_cell VR 0
      have hset6 := hset.below HB7
      clear H7 VR hset
      go_wp2_with (at_mapUpdate; refine wpList_store_set rfl _ _ _ 204 rfl 3 4 int_keyed3 imap_uty bool_uty w4.heap.size k F rfl hset6 (by simp only [maxLen]; omega) iKey_inj iKey_lit _ qc rfl (!qm) rfl (iKey_of HQB.out) ?_; intro w9 hset9 hg9; replace hset9 := Lib.hid hset9)
      go_roundw
      case rel =>
        refine ⟨k + 1, by omega, by go_num, ?_, ?_⟩
        · exact (HF.out.trans ((Fr.ofBelow HB7).mono (fun k hk => by have := hk.1; omega))).grown hg9 (fun k hk => hk.1) (fun j hj => by injection hj with hj; exact fun h => h.2 hj.symm)
        · exact hset9.out.eqv (fun d => by rw [closed_take hkl, HQ.out, HF2.out])
      case measure => first | exact meas_v hlt | (simp only [intOf]; omega)
    case neg =>
      have hltI : ¬ (k : Int) < 15 := by omega
      have hk15 : L.take k = L := List.take_of_length_le (by rw [HLL.out]; omega)
      rw [hk15] at hset
      have ER := (HF.out.block (w.heap.size + 1) ⟨by omega, by omega⟩).trans HE5.out
      have e3 := blk_cell ER 3
      obtain ⟨F, hF⟩ : ∃ F : Int → Bool, closedP L = F := ⟨_, rfl⟩
      rw [hF] at hset
      have hcall := anyL_c ls Al cl W5.heap.size w4.heap.size k F wr VR hset (links_keep HLK.out hb0) HNL2.out
      rw [HNL.out] at hcall
      obtain ⟨v, hv⟩ : ∃ v, (ls.any fun a => F a.to_) = v := ⟨_, rfl⟩
      rw [hv] at hcall
      have HRR := Lib.hid (show r = !v by
        rw [← HR.out]; unfold entP
        simp only [HC1.out, HC2.out, HC3.out, Bool.true_and]
        rw [show rolesOf ⟨r0, r1, r2, r3, r4, r5, r6, r7, r8, r9, r10, r11, r12, r13, r14⟩ = L from HLQ.out, hF, hv])
      have HCALL2 := Lib.hid hcall
      clear hcall hset hv hF ER VR hk15
      go_wp2_with fail
      refine HCALL2.out.mono ?_
      rintro e wZ ⟨rfl, hbZ⟩
      go_wp2_with fail
      go_ret
      exact ⟨by rw [HRR.out]; first | done | rfl, hb0.trans (hbZ.mono hb0.size)⟩
end Go.Proofs.Ytnigokmjehemaaa
