/- The reference writer of books. Written by gen_k3.py. -/
import Derived.Test.YtgdibeegheddmaaYK2RefGrp
namespace Go.Proofs.Ytgdibeegheddmaa
open Go Go.RowKit
set_option linter.unusedVariables false
set_option linter.unusedSimpArgs false
attribute [local go_sem ↓] Go.wp_at_zero Go.wp_at_succ
/-- Books are small. -/
structure FewBks (x : XBooks) : Prop where
  group : FewGrp x.group
  ents : x.entries.length ≤ 100
  rates : x.rates.length ≤ 200
  holds : x.holdings.length ≤ 200
  mats : x.matches_.length ≤ 50
  stocks : x.stocks.length ≤ 200
  rules : x.rules.size ≤ 9000
  eachE : ∀ y ∈ x.entries, y.lines.length ≤ 100 ∧ y.text.size ≤ 1000
  eachR : ∀ y ∈ x.rates, y.currency.size ≤ 1000
  eachM : ∀ y ∈ x.matches_, y.left.length ≤ 100 ∧ y.right.length ≤ 100
theorem entLen {y : XEntry} (h : y.lines.length ≤ 100 ∧ y.text.size ≤ 1000) : (encEntry y).length ≤ 5000 := by have := encEntry_len y; omega
theorem ratLen {y : XRate} (h : y.currency.size ≤ 1000) : (encRate y).length ≤ 5000 := by have := encRate_len y; omega
theorem matLen {y : XMatch} (h : y.left.length ≤ 100 ∧ y.right.length ≤ 100) : (encMatch y).length ≤ 5000 := by have := encMatch_len y; omega
theorem FewBks.len {x : XBooks} (h : FewBks x) : (encBooks x).length ≤ 8000000 := by
  have h1 := h.group.len
  have h2 := flat_le_m encEntry 5000 x.entries (fun y hy => entLen (h.eachE y hy))
  have h3 := flat_le_m encRate 5000 x.rates (fun y hy => ratLen (h.eachR y hy))
  have h4 := flat_le_m encHolding 40 x.holdings (fun y hy => encHolding_len y)
  have h5 := flat_le_m encMatch 5000 x.matches_ (fun y hy => matLen (h.eachM y hy))
  have h6 := flat_le_m encStock 50 x.stocks (fun y hy => encStock_len y)
  have h7 := encS_len x.rules
  have g2 := enc_len (x.entries.length : Int)
  have g3 := enc_len (x.rates.length : Int)
  have g4 := enc_len (x.holdings.length : Int)
  have g5 := enc_len (x.matches_.length : Int)
  have g6 := enc_len (x.stocks.length : Int)
  have := h.ents
  have := h.rates
  have := h.holds
  have := h.mats
  have := h.stocks
  have := h.rules
  simp only [encBooks, encL, List.length_append] at *
  omega
set_option maxHeartbeats 8000000 in
set_option maxRecDepth 100000 in
theorem rBooks_c (x : XBooks) (cx : List Value) (w : World) (hx : BooksC w (· < w.heap.size) cx x) (hf : FewBks x) :
    Calls Try.prog 55 #[.agg cx.toArray] w (NewP w (encBooks x)) := by
  have qG := hf.group
  have q1 := hf.ents
  have q2 := hf.rates
  have q3 := hf.holds
  have q4 := hf.mats
  have q5 := hf.stocks
  have q6 := hf.rules
  have qE := Lib.hid hf.eachE
  have qR := Lib.hid hf.eachR
  have qM := Lib.hid hf.eachM
  have HX := Lib.hid hx
  clear hx hf
  go_enter Try.func55, Try.ntmps55
  go_upto_region 1 with fail
  have hbox : (w.alloc (Obj.cells cx.toArray 67)).heap[w.heap.size]? = some (Obj.cells cx.toArray 67) := heap_alloc_new w _
  generalize hW : w.alloc (Obj.cells cx.toArray 67) = W at *
  have hbW : Below w.heap.size w W := by rw [← hW]; exact below1 w _
  have hWs : w.heap.size < W.heap.size := by rw [← hW]; simp
  clear hW
  obtain ⟨⟨lg, fg, mg⟩, ⟨l21, f21, m21⟩, ⟨l22, f22, m22⟩, ⟨l23, f23, m23⟩, ⟨l24, f24, m24⟩, ⟨l25, f25, m25⟩, C26⟩ := BooksC.at_ (HX.out.keep hbW) (box_at hbox)
  have FG := Lib.hid fg
  have RG := Lib.hid mg
  obtain ⟨A21, c21, rfl, _, _, hel21⟩ := f21
  have C21 := m21.c (j := 0) rfl
  have HL21 := Lib.hid hel21
  obtain ⟨A22, c22, rfl, _, _, hel22⟩ := f22
  have C22 := m22.c (j := 0) rfl
  have HL22 := Lib.hid hel22
  obtain ⟨A23, c23, rfl, _, _, hel23⟩ := f23
  have C23 := m23.c (j := 0) rfl
  have HL23 := Lib.hid hel23
  obtain ⟨A24, c24, rfl, _, _, hel24⟩ := f24
  have C24 := m24.c (j := 0) rfl
  have HL24 := Lib.hid hel24
  obtain ⟨A25, c25, rfl, _, _, hel25⟩ := f25
  have C25 := m25.c (j := 0) rfl
  have HL25 := Lib.hid hel25
  simp only [Nat.zero_add, Nat.add_zero] at C21 C22 C23 C24 C25 C26
  clear hbox fg mg m21 m22 m23 m24 m25 hel21 hel22 hel23 hel24 hel25
  refine wp_region_inv2 7 (Ks W [.val (.pointer (some ⟨w.heap.size, 0, none⟩)), .val (.agg lg.toArray), .row (encGroup x.group), .val (.pointer (some ⟨w.heap.size, 21, none⟩)), .val (.slice A21 x.entries.length c21), .val (.int .i64 (x.entries.length : Int)), .row (enc (x.entries.length : Int))])
    (fun w' => Below W.heap.size W w') (by kernel_rfl) (by kernel_rfl) (by kernel_rfl) (by decide) (by kernel_rfl) (by kernel_rfl) (Below.refl _ _).drew ?_ ?_
  · refine ⟨?_, ?_, ?_, ?_, ?_, ?_, ?_, trivial⟩
    · intro listed A0 w2 hI hd hnd K hK
      have e0 := hI.slot hnd 1 _ rfl (by kernel_rfl)
      have hS := hI.world
      refine wanted_go rfl ?_
      clear hI hd hnd
      go_simp
      exact hK.out _ _ hS (Ks.of rfl rfl) (fun _ _ h => h)
    · intro listed A0 w2 hI hd hnd K hK
      have e0 := hI.depv hd 0 9 _ rfl rfl rfl (by kernel_rfl)
      have hS := hI.world
      have hrange := (RG.out.fr (Fr.ofBelow hS)).range
      have hisize : (Try.prog.info? 60).map (·.size) = some lg.length := by rw [info60, (FG.out).len]
      refine wanted_go rfl ?_
      clear hI hd hnd
      refine wp_load_mid 60 (.tmp 9) rfl _ _ (by simpa [Act.eval, Array.getD_eq_getD_getElem?] using e0) _ _ hrange Try.underlying60 rfl hisize ?_
      exact hK.out _ _ hS (Ks.of rfl rfl) (fun _ _ h => h)
    · intro listed A0 w2 hI hd hnd K hK
      have e0 := hI.depv hd 1 10 _ rfl rfl rfl (by kernel_rfl)
      have hS := hI.world
      refine wanted_go rfl ?_
      clear hI hd hnd
      go_simp
      go_at_call 73
      refine (rGroup_c x.group lg w2 (FG.out.keep hS) qG).mono ?_
      rintro e w3 hP
      obtain ⟨v, rfl, h1, h2, h3⟩ := NewP.from hP hS
      exact hK.out _ _ h1 (Ks.of rfl h2) (Ks.keep h3)
    · intro listed A0 w2 hI hd hnd K hK
      have e0 := hI.slot hnd 1 _ rfl (by kernel_rfl)
      have hS := hI.world
      refine wanted_go rfl ?_
      clear hI hd hnd
      go_simp
      exact hK.out _ _ hS (Ks.of rfl rfl) (fun _ _ h => h)
    · intro listed A0 w2 hI hd hnd K hK
      have e0 := hI.depv hd 3 12 _ rfl rfl rfl (by kernel_rfl)
      have hS := hI.world
      have hcc : w2.cell? ⟨w.heap.size, 21, none⟩ = _ := (hS.cell (p := ⟨w.heap.size, 21, none⟩) hWs).trans C21
      refine wanted_go rfl ?_
      clear hI hd hnd
      go_simp
      exact hK.out _ _ hS (Ks.of rfl rfl) (fun _ _ h => h)
    · intro listed A0 w2 hI hd hnd K hK
      have e0 := hI.depv hd 4 13 _ rfl rfl rfl (by kernel_rfl)
      have hS := hI.world
      refine wanted_go rfl ?_
      clear hI hd hnd
      go_simp
      exact hK.out _ _ hS (Ks.of rfl rfl) (fun _ _ h => h)
    · intro listed A0 w2 hI hd hnd K hK
      have e0 := hI.depv hd 5 14 _ rfl rfl rfl (by kernel_rfl)
      have hS := hI.world
      refine wanted_go rfl ?_
      clear hI hd hnd
      go_simp
      go_at_call 14
      refine (refInt_c (x.entries.length : Int) w2 (by first | exact And.left (by assumption) | omega) (by first | exact And.right (by assumption) | omega)).mono ?_
      rintro e w3 hP
      obtain ⟨v, rfl, h1, h2, h3⟩ := NewP.from hP hS
      exact hK.out _ _ h1 (Ks.of rfl h2) (Ks.keep h3)
  · intro f A0 w2 hI
    obtain ⟨x0, g0, h0⟩ := hI.got 0 _ 9 rfl rfl rfl
    obtain ⟨x1, g1, h1⟩ := hI.got 1 _ 10 rfl rfl rfl
    obtain ⟨x2, g2, h2⟩ := hI.got 2 _ 11 rfl rfl rfl
    obtain ⟨x3, g3, h3⟩ := hI.got 3 _ 12 rfl rfl rfl
    obtain ⟨x4, g4, h4⟩ := hI.got 4 _ 13 rfl rfl rfl
    obtain ⟨x5, g5, h5⟩ := hI.got 5 _ 14 rfl rfl rfl
    obtain ⟨x6, g6, h6⟩ := hI.got 6 _ 15 rfl rfl rfl
    have hS := hI.world
    have o16 := hI.oldHead 16 (by kernel_rfl)
    have o3 := hI.oldHead 3 (by kernel_rfl)
    have hA : A0 = _ := hI.tmps [(9, x0), (10, x1), (11, x2), (12, x3), (13, x4), (14, x5), (15, x6), (16, undef), (3, undef)] (by simp only [List.mem_cons, List.not_mem_nil, or_false, forall_eq_or_imp, forall_eq]; exact ⟨g0, g1, g2, g3, g4, g5, g6, o16, o3⟩) (by kernel_rfl)
    have k2 : NewBytes W w2 x2 (encGroup x.group) := h2 _ rfl
    have k6 : NewBytes W w2 x6 (enc (x.entries.length : Int)) := h6 _ rfl
    clear h0 g0 h1 g1 h2 g2 h3 g3 h4 g4 h5 g5 h6 g6 o16 o3 hI
    simp only [setAll, List.foldl, List.setIfInBounds_toArray, List.set_cons_zero, List.set_cons_succ] at hA
    rw [hA]
    clear hA
    have hgl := qG.len
    have hl8 := enc_len (x.entries.length : Int)
    obtain ⟨P0, hP0⟩ : ∃ P, encGroup x.group ++ enc (x.entries.length : Int) = P := ⟨_, rfl⟩
    have hP0l : P0.length ≤ 600000 := by rw [← hP0]; simp only [List.length_append]; omega
    have HP0 := Lib.hid hP0
    clear hP0
    obtain ⟨Ar, cr, rfl, _, _⟩ := k6.1.form
    have k6h := Lib.hid k6
    have k2h := Lib.hid k2
    show wpAny _ _ _ _ (f + 1 + 1) _ _ _
    refine wpAny_all (rs := [7]) (by kernel_rfl) (by simp) ?_
    intro i hi
    obtain rfl : i = 7 := by simpa using hi
    refine wpOp_step (o := _) rfl (fun K hK => ?_)
    refine step_appB _ rfl (.tmp 11) (.tmp 15) rfl _ (encGroup x.group) rfl k2.1 (· < w2.heap.size) Ar cr (enc (x.entries.length : Int)) rfl (k6.1.rd (fun k hk => k6.1.lt hk)).2 (by unfold Lim; omega) ?_
    intro v13 w13 hby hg hat
    have hn_0 := k2h.out.app hby hg hat
    rw [HP0.out] at hn_0
    refine hK _ _ ?_
    refine wpAny_all (rs := [8]) (by kernel_rfl) (by simp) ?_
    intro i hi
    obtain rfl : i = 8 := by simpa using hi
    refine wpOp_step (o := _) rfl (fun K hK => ?_)
    refine wanted_go rfl ?_
    go_simp
    refine hK _ _ ?_
    refine wpAny_done (by kernel_rfl) ?_ _
    clear hby k2 k6 hK
    go_wp2_with fail
    go_loopw [3, 4] (fun o i wr => ∃ k : Nat, k ≤ x.entries.length ∧ i = .int .i64 (k : Int) ∧ NewBytes W wr o (P0 ++ (x.entries.take k).flatMap encEntry)) (fun _ i _ => x.entries.length - (intOf i).toNat)
    case atStart => exact ⟨0, by omega, rfl, by simpa using hn_0⟩
    case round =>
      obtain ⟨k, hk, rfl, hn⟩ := hrel
      have K21 := (hn.2.2.cell (p := ⟨w.heap.size, 21, none⟩) hWs).trans C21
      by_cases hlt : k < x.entries.length
      · have hltI : (k : Int) < (x.entries.length : Int) := by omega
        obtain ⟨b2, o2, rfl, hbb, hi⟩ := HL21.out (by omega)
        obtain ⟨es, hes, hae⟩ := hi k x.entries[k] (List.getElem?_eq_getElem hlt)
        have hrange := (hae.fr (Fr.ofBelow hn.2.2)).range
        have hHE := Lib.hid (hes.keep hn.2.2)
        have HIe := Lib.hid (show (Try.prog.info? 34).map (·.size) = some es.length by rw [info34, hes.len])
        have HT := Lib.hid (take_flat encEntry x.entries k hlt)
        have hmem : x.entries[k] ∈ x.entries := List.getElem_mem hlt
        have hl5 := entLen (qE.out _ hmem)
        have hl6 := flat_take_m encEntry 5000 k x.entries (fun y hy => entLen (qE.out y hy))
        clear hi hae hes hmem
        go_wp2_with (refine wpList_load_mid rfl 34 (.tmp 28) rfl b2 (o2 + k * 7) rfl es _ hrange Try.underlying34 rfl HIe.out ?_)
        refine (rEntry_c x.entries[k] es wr hHE.out (by have := (qE.out _ (List.getElem_mem hlt)).1; omega) (by have := (qE.out _ (List.getElem_mem hlt)).2; omega)).mono ?_
        rintro e w5 ⟨v5, rfl, hm5⟩
        have hn5 := hn.keep hm5.2.2
        obtain ⟨A5, c5, rfl, _, _⟩ := hm5.1.form
        clear hrange
        go_wp2_with (at_builtin; go_loud (refine wpList_appB _ rfl (.tmp 24) (.tmp 30) rfl _ (P0 ++ (x.entries.take k).flatMap encEntry) rfl hn5.1 (· < w5.heap.size) A5 c5 (encEntry x.entries[k]) rfl (hm5.1.rd (fun k hk => hm5.1.lt hk)).2 (by unfold Lim; simp only [List.length_append]; omega) ?_); intro v6 w6 hby6 hg6 hat6)
        go_roundw
        case rel =>
          refine ⟨k + 1, by omega, by go_num, ?_⟩
          rw [HT.out, ← List.append_assoc]
          exact hn5.app hby6 hg6 hat6
        case measure => simp [intOf]; omega
      · have hkk : k = x.entries.length := by omega
        subst hkk
        rw [List.take_length] at hn
        have hltI : ¬ ((x.entries.length : Nat) : Int) < (x.entries.length : Int) := by omega
        have hl6 := flat_le_m encEntry 5000 x.entries (fun y hy => entLen (qE.out y hy))
        obtain ⟨Q0, hQ0⟩ : ∃ Q, P0 ++ x.entries.flatMap encEntry = Q := ⟨_, rfl⟩
        have hQ0l : Q0.length ≤ 5500000 := by rw [← hQ0]; simp only [List.length_append]; omega
        rw [hQ0] at hn
        have HQ0 := Lib.hid hQ0
        clear hQ0 hl6
        obtain ⟨Aq, cq, rfl, _, _⟩ := hn.1.form
        have K22 := (hn.2.2.cell (p := ⟨w.heap.size, 22, none⟩) hWs).trans C22
        go_wp2_with fail
        refine (refInt_c (x.rates.length : Int) wr (by omega) (by omega)).mono ?_
        rintro e w7 ⟨v7, rfl, hm7⟩
        have hn7 := hn.keep hm7.2.2
        obtain ⟨A7, c7, rfl, _, _⟩ := hm7.1.form
        have hl8 := enc_len (x.rates.length : Int)
        obtain ⟨P1, hP1⟩ : ∃ P, Q0 ++ enc (x.rates.length : Int) = P := ⟨_, rfl⟩
        have hP1l : P1.length ≤ 5500100 := by rw [← hP1]; simp only [List.length_append]; omega
        have HP1 := Lib.hid hP1
        clear hP1
        go_wp2_with (at_builtin; go_loud (refine wpList_appB _ rfl (.tmp 32) (.tmp 36) rfl _ Q0 rfl hn7.1 (· < w7.heap.size) A7 c7 (enc (x.rates.length : Int)) rfl (hm7.1.rd (fun k hk => hm7.1.lt hk)).2 (by unfold Lim; omega) ?_); intro v8 w8 hby8 hg8 hat8)
        have hn_1 := hn7.app hby8 hg8 hat8
        rw [HP1.out] at hn_1
        clear hby8
        go_loopw [3, 5] (fun o i wr => ∃ k : Nat, k ≤ x.rates.length ∧ i = .int .i64 (k : Int) ∧ NewBytes W wr o (P1 ++ (x.rates.take k).flatMap encRate)) (fun _ i _ => x.rates.length - (intOf i).toNat)
        case atStart => exact ⟨0, by omega, rfl, by simpa using hn_1⟩
        case round =>
          obtain ⟨k, hk, rfl, hn⟩ := hrel
          have K22 := (hn.2.2.cell (p := ⟨w.heap.size, 22, none⟩) hWs).trans C22
          by_cases hlt : k < x.rates.length
          · have hltI : (k : Int) < (x.rates.length : Int) := by omega
            obtain ⟨b2, o2, rfl, hbb, hi⟩ := HL22.out (by omega)
            obtain ⟨es, hes, hae⟩ := hi k x.rates[k] (List.getElem?_eq_getElem hlt)
            have hrange := (hae.fr (Fr.ofBelow hn.2.2)).range
            have hHE := Lib.hid (hes.keep hn.2.2)
            have HIe := Lib.hid (show (Try.prog.info? 36).map (·.size) = some es.length by rw [info36, hes.len])
            have HT := Lib.hid (take_flat encRate x.rates k hlt)
            have hmem : x.rates[k] ∈ x.rates := List.getElem_mem hlt
            have hl5 := ratLen (qR.out _ hmem)
            have hl6 := flat_take_m encRate 5000 k x.rates (fun y hy => ratLen (qR.out y hy))
            clear hi hae hes hmem
            go_wp2_with (refine wpList_load_mid rfl 36 (.tmp 49) rfl b2 (o2 + k * 4) rfl es _ hrange Try.underlying36 rfl HIe.out ?_)
            refine (rRate_a x.rates[k] es wr hHE.out (by have := qR.out _ (List.getElem_mem hlt); omega)).mono ?_
            rintro e w5 ⟨v5, rfl, hm5⟩
            have hn5 := hn.keep hm5.2.2
            obtain ⟨A5, c5, rfl, _, _⟩ := hm5.1.form
            clear hrange
            go_wp2_with (at_builtin; go_loud (refine wpList_appB _ rfl (.tmp 45) (.tmp 51) rfl _ (P1 ++ (x.rates.take k).flatMap encRate) rfl hn5.1 (· < w5.heap.size) A5 c5 (encRate x.rates[k]) rfl (hm5.1.rd (fun k hk => hm5.1.lt hk)).2 (by unfold Lim; simp only [List.length_append]; omega) ?_); intro v6 w6 hby6 hg6 hat6)
            go_roundw
            case rel =>
              refine ⟨k + 1, by omega, by go_num, ?_⟩
              rw [HT.out, ← List.append_assoc]
              exact hn5.app hby6 hg6 hat6
            case measure => simp [intOf]; omega
          · have hkk : k = x.rates.length := by omega
            subst hkk
            rw [List.take_length] at hn
            have hltI : ¬ ((x.rates.length : Nat) : Int) < (x.rates.length : Int) := by omega
            have hl6 := flat_le_m encRate 5000 x.rates (fun y hy => ratLen (qR.out y hy))
            obtain ⟨Q1, hQ1⟩ : ∃ Q, P1 ++ x.rates.flatMap encRate = Q := ⟨_, rfl⟩
            have hQ1l : Q1.length ≤ 10500000 := by rw [← hQ1]; simp only [List.length_append]; omega
            rw [hQ1] at hn
            have HQ1 := Lib.hid hQ1
            clear hQ1 hl6
            obtain ⟨Aq, cq, rfl, _, _⟩ := hn.1.form
            have K23 := (hn.2.2.cell (p := ⟨w.heap.size, 23, none⟩) hWs).trans C23
            go_wp2_with fail
            refine (refInt_c (x.holdings.length : Int) wr (by omega) (by omega)).mono ?_
            rintro e w7 ⟨v7, rfl, hm7⟩
            have hn7 := hn.keep hm7.2.2
            obtain ⟨A7, c7, rfl, _, _⟩ := hm7.1.form
            have hl8 := enc_len (x.holdings.length : Int)
            obtain ⟨P2, hP2⟩ : ∃ P, Q1 ++ enc (x.holdings.length : Int) = P := ⟨_, rfl⟩
            have hP2l : P2.length ≤ 10500100 := by rw [← hP2]; simp only [List.length_append]; omega
            have HP2 := Lib.hid hP2
            clear hP2
            go_wp2_with (at_builtin; go_loud (refine wpList_appB _ rfl (.tmp 53) (.tmp 57) rfl _ Q1 rfl hn7.1 (· < w7.heap.size) A7 c7 (enc (x.holdings.length : Int)) rfl (hm7.1.rd (fun k hk => hm7.1.lt hk)).2 (by unfold Lim; omega) ?_); intro v8 w8 hby8 hg8 hat8)
            have hn_2 := hn7.app hby8 hg8 hat8
            rw [HP2.out] at hn_2
            clear hby8
            go_loopw [3, 6] (fun o i wr => ∃ k : Nat, k ≤ x.holdings.length ∧ i = .int .i64 (k : Int) ∧ NewBytes W wr o (P2 ++ (x.holdings.take k).flatMap encHolding)) (fun _ i _ => x.holdings.length - (intOf i).toNat)
            case atStart => exact ⟨0, by omega, rfl, by simpa using hn_2⟩
            case round =>
              obtain ⟨k, hk, rfl, hn⟩ := hrel
              have K23 := (hn.2.2.cell (p := ⟨w.heap.size, 23, none⟩) hWs).trans C23
              by_cases hlt : k < x.holdings.length
              · have hltI : (k : Int) < (x.holdings.length : Int) := by omega
                obtain ⟨b2, o2, rfl, hbb, hi⟩ := HL23.out (by omega)
                obtain ⟨es, hes, hae⟩ := hi k x.holdings[k] (List.getElem?_eq_getElem hlt)
                have hrange := (hae.fr (Fr.ofBelow hn.2.2)).range
                have hHE := Lib.hid (hes.keep hn.2.2)
                have HIe := Lib.hid (show (Try.prog.info? 38).map (·.size) = some es.length by rw [info38, hes.len])
                have HT := Lib.hid (take_flat encHolding x.holdings k hlt)
                have hmem : x.holdings[k] ∈ x.holdings := List.getElem_mem hlt
                have hl5 := encHolding_len x.holdings[k]
                have hl6 := flat_take_m encHolding 40 k x.holdings (fun y hy => encHolding_len y)
                clear hi hae hes hmem
                go_wp2_with (refine wpList_load_mid rfl 38 (.tmp 70) rfl b2 (o2 + k * 4) rfl es _ hrange Try.underlying38 rfl HIe.out ?_)
                refine (rHolding_a x.holdings[k] es wr hHE.out).mono ?_
                rintro e w5 ⟨v5, rfl, hm5⟩
                have hn5 := hn.keep hm5.2.2
                obtain ⟨A5, c5, rfl, _, _⟩ := hm5.1.form
                clear hrange
                go_wp2_with (at_builtin; go_loud (refine wpList_appB _ rfl (.tmp 66) (.tmp 72) rfl _ (P2 ++ (x.holdings.take k).flatMap encHolding) rfl hn5.1 (· < w5.heap.size) A5 c5 (encHolding x.holdings[k]) rfl (hm5.1.rd (fun k hk => hm5.1.lt hk)).2 (by unfold Lim; simp only [List.length_append]; omega) ?_); intro v6 w6 hby6 hg6 hat6)
                go_roundw
                case rel =>
                  refine ⟨k + 1, by omega, by go_num, ?_⟩
                  rw [HT.out, ← List.append_assoc]
                  exact hn5.app hby6 hg6 hat6
                case measure => simp [intOf]; omega
              · have hkk : k = x.holdings.length := by omega
                subst hkk
                rw [List.take_length] at hn
                have hltI : ¬ ((x.holdings.length : Nat) : Int) < (x.holdings.length : Int) := by omega
                have hl6 := flat_le_m encHolding 40 x.holdings (fun y hy => encHolding_len y)
                obtain ⟨Q2, hQ2⟩ : ∃ Q, P2 ++ x.holdings.flatMap encHolding = Q := ⟨_, rfl⟩
                have hQ2l : Q2.length ≤ 15500000 := by rw [← hQ2]; simp only [List.length_append]; omega
                rw [hQ2] at hn
                have HQ2 := Lib.hid hQ2
                clear hQ2 hl6
                obtain ⟨Aq, cq, rfl, _, _⟩ := hn.1.form
                have K24 := (hn.2.2.cell (p := ⟨w.heap.size, 24, none⟩) hWs).trans C24
                go_wp2_with fail
                refine (refInt_c (x.matches_.length : Int) wr (by omega) (by omega)).mono ?_
                rintro e w7 ⟨v7, rfl, hm7⟩
                have hn7 := hn.keep hm7.2.2
                obtain ⟨A7, c7, rfl, _, _⟩ := hm7.1.form
                have hl8 := enc_len (x.matches_.length : Int)
                obtain ⟨P3, hP3⟩ : ∃ P, Q2 ++ enc (x.matches_.length : Int) = P := ⟨_, rfl⟩
                have hP3l : P3.length ≤ 15500100 := by rw [← hP3]; simp only [List.length_append]; omega
                have HP3 := Lib.hid hP3
                clear hP3
                go_wp2_with (at_builtin; go_loud (refine wpList_appB _ rfl (.tmp 74) (.tmp 78) rfl _ Q2 rfl hn7.1 (· < w7.heap.size) A7 c7 (enc (x.matches_.length : Int)) rfl (hm7.1.rd (fun k hk => hm7.1.lt hk)).2 (by unfold Lim; omega) ?_); intro v8 w8 hby8 hg8 hat8)
                have hn_3 := hn7.app hby8 hg8 hat8
                rw [HP3.out] at hn_3
                clear hby8
                go_loopw [3, 7] (fun o i wr => ∃ k : Nat, k ≤ x.matches_.length ∧ i = .int .i64 (k : Int) ∧ NewBytes W wr o (P3 ++ (x.matches_.take k).flatMap encMatch)) (fun _ i _ => x.matches_.length - (intOf i).toNat)
                case atStart => exact ⟨0, by omega, rfl, by simpa using hn_3⟩
                case round =>
                  obtain ⟨k, hk, rfl, hn⟩ := hrel
                  have K24 := (hn.2.2.cell (p := ⟨w.heap.size, 24, none⟩) hWs).trans C24
                  by_cases hlt : k < x.matches_.length
                  · have hltI : (k : Int) < (x.matches_.length : Int) := by omega
                    obtain ⟨b2, o2, rfl, hbb, hi⟩ := HL24.out (by omega)
                    obtain ⟨es, hes, hae⟩ := hi k x.matches_[k] (List.getElem?_eq_getElem hlt)
                    have hrange := (hae.fr (Fr.ofBelow hn.2.2)).range
                    have hHE := Lib.hid (hes.keep hn.2.2)
                    have HIe := Lib.hid (show (Try.prog.info? 41).map (·.size) = some es.length by rw [info41, hes.len])
                    have HT := Lib.hid (take_flat encMatch x.matches_ k hlt)
                    have hmem : x.matches_[k] ∈ x.matches_ := List.getElem_mem hlt
                    have hl5 := matLen (qM.out _ hmem)
                    have hl6 := flat_take_m encMatch 5000 k x.matches_ (fun y hy => matLen (qM.out y hy))
                    clear hi hae hes hmem
                    go_wp2_with (refine wpList_load_mid rfl 41 (.tmp 91) rfl b2 (o2 + k * 4) rfl es _ hrange Try.underlying41 rfl HIe.out ?_)
                    refine (rMatch_c x.matches_[k] es wr hHE.out (by have := (qM.out _ (List.getElem_mem hlt)).1; omega) (by have := (qM.out _ (List.getElem_mem hlt)).2; omega)).mono ?_
                    rintro e w5 ⟨v5, rfl, hm5⟩
                    have hn5 := hn.keep hm5.2.2
                    obtain ⟨A5, c5, rfl, _, _⟩ := hm5.1.form
                    clear hrange
                    go_wp2_with (at_builtin; go_loud (refine wpList_appB _ rfl (.tmp 87) (.tmp 93) rfl _ (P3 ++ (x.matches_.take k).flatMap encMatch) rfl hn5.1 (· < w5.heap.size) A5 c5 (encMatch x.matches_[k]) rfl (hm5.1.rd (fun k hk => hm5.1.lt hk)).2 (by unfold Lim; simp only [List.length_append]; omega) ?_); intro v6 w6 hby6 hg6 hat6)
                    go_roundw
                    case rel =>
                      refine ⟨k + 1, by omega, by go_num, ?_⟩
                      rw [HT.out, ← List.append_assoc]
                      exact hn5.app hby6 hg6 hat6
                    case measure => simp [intOf]; omega
                  · have hkk : k = x.matches_.length := by omega
                    subst hkk
                    rw [List.take_length] at hn
                    have hltI : ¬ ((x.matches_.length : Nat) : Int) < (x.matches_.length : Int) := by omega
                    have hl6 := flat_le_m encMatch 5000 x.matches_ (fun y hy => matLen (qM.out y hy))
                    obtain ⟨Q3, hQ3⟩ : ∃ Q, P3 ++ x.matches_.flatMap encMatch = Q := ⟨_, rfl⟩
                    have hQ3l : Q3.length ≤ 20500000 := by rw [← hQ3]; simp only [List.length_append]; omega
                    rw [hQ3] at hn
                    have HQ3 := Lib.hid hQ3
                    clear hQ3 hl6
                    obtain ⟨Aq, cq, rfl, _, _⟩ := hn.1.form
                    have K25 := (hn.2.2.cell (p := ⟨w.heap.size, 25, none⟩) hWs).trans C25
                    go_wp2_with fail
                    refine (refInt_c (x.stocks.length : Int) wr (by omega) (by omega)).mono ?_
                    rintro e w7 ⟨v7, rfl, hm7⟩
                    have hn7 := hn.keep hm7.2.2
                    obtain ⟨A7, c7, rfl, _, _⟩ := hm7.1.form
                    have hl8 := enc_len (x.stocks.length : Int)
                    obtain ⟨P4, hP4⟩ : ∃ P, Q3 ++ enc (x.stocks.length : Int) = P := ⟨_, rfl⟩
                    have hP4l : P4.length ≤ 20500100 := by rw [← hP4]; simp only [List.length_append]; omega
                    have HP4 := Lib.hid hP4
                    clear hP4
                    go_wp2_with (at_builtin; go_loud (refine wpList_appB _ rfl (.tmp 95) (.tmp 99) rfl _ Q3 rfl hn7.1 (· < w7.heap.size) A7 c7 (enc (x.stocks.length : Int)) rfl (hm7.1.rd (fun k hk => hm7.1.lt hk)).2 (by unfold Lim; omega) ?_); intro v8 w8 hby8 hg8 hat8)
                    have hn_4 := hn7.app hby8 hg8 hat8
                    rw [HP4.out] at hn_4
                    clear hby8
                    go_loopw [3, 8] (fun o i wr => ∃ k : Nat, k ≤ x.stocks.length ∧ i = .int .i64 (k : Int) ∧ NewBytes W wr o (P4 ++ (x.stocks.take k).flatMap encStock)) (fun _ i _ => x.stocks.length - (intOf i).toNat)
                    case atStart => exact ⟨0, by omega, rfl, by simpa using hn_4⟩
                    case round =>
                      obtain ⟨k, hk, rfl, hn⟩ := hrel
                      have K25 := (hn.2.2.cell (p := ⟨w.heap.size, 25, none⟩) hWs).trans C25
                      by_cases hlt : k < x.stocks.length
                      · have hltI : (k : Int) < (x.stocks.length : Int) := by omega
                        obtain ⟨b2, o2, rfl, hbb, hi⟩ := HL25.out (by omega)
                        obtain ⟨es, hes, hae⟩ := hi k x.stocks[k] (List.getElem?_eq_getElem hlt)
                        have hrange := (hae.fr (Fr.ofBelow hn.2.2)).range
                        have hHE := Lib.hid (hes.keep hn.2.2)
                        have HIe := Lib.hid (show (Try.prog.info? 43).map (·.size) = some es.length by rw [info43, hes.len])
                        have HT := Lib.hid (take_flat encStock x.stocks k hlt)
                        have hmem : x.stocks[k] ∈ x.stocks := List.getElem_mem hlt
                        have hl5 := encStock_len x.stocks[k]
                        have hl6 := flat_take_m encStock 50 k x.stocks (fun y hy => encStock_len y)
                        clear hi hae hes hmem
                        go_wp2_with (refine wpList_load_mid rfl 43 (.tmp 112) rfl b2 (o2 + k * 5) rfl es _ hrange Try.underlying43 rfl HIe.out ?_)
                        refine (rStock_a x.stocks[k] es wr hHE.out).mono ?_
                        rintro e w5 ⟨v5, rfl, hm5⟩
                        have hn5 := hn.keep hm5.2.2
                        obtain ⟨A5, c5, rfl, _, _⟩ := hm5.1.form
                        clear hrange
                        go_wp2_with (at_builtin; go_loud (refine wpList_appB _ rfl (.tmp 108) (.tmp 114) rfl _ (P4 ++ (x.stocks.take k).flatMap encStock) rfl hn5.1 (· < w5.heap.size) A5 c5 (encStock x.stocks[k]) rfl (hm5.1.rd (fun k hk => hm5.1.lt hk)).2 (by unfold Lim; simp only [List.length_append]; omega) ?_); intro v6 w6 hby6 hg6 hat6)
                        go_roundw
                        case rel =>
                          refine ⟨k + 1, by omega, by go_num, ?_⟩
                          rw [HT.out, ← List.append_assoc]
                          exact hn5.app hby6 hg6 hat6
                        case measure => simp [intOf]; omega
                      · have hkk : k = x.stocks.length := by omega
                        subst hkk
                        rw [List.take_length] at hn
                        have hltI : ¬ ((x.stocks.length : Nat) : Int) < (x.stocks.length : Int) := by omega
                        have hl6 := flat_le_m encStock 50 x.stocks (fun y hy => encStock_len y)
                        obtain ⟨Q4, hQ4⟩ : ∃ Q, P4 ++ x.stocks.flatMap encStock = Q := ⟨_, rfl⟩
                        have hQ4l : Q4.length ≤ 25500000 := by rw [← hQ4]; simp only [List.length_append]; omega
                        rw [hQ4] at hn
                        have HQ4 := Lib.hid hQ4
                        clear hQ4 hl6
                        obtain ⟨Aq, cq, rfl, _, _⟩ := hn.1.form
                        have K26 := (hn.2.2.cell (p := ⟨w.heap.size, 26, none⟩) hWs).trans C26
                        go_wp2_with fail
                        refine (text_c x.rules wr (by omega)).mono ?_
                        rintro e w7 ⟨v7, rfl, hm7⟩
                        have hn7 := hn.keep hm7.2.2
                        obtain ⟨A7, c7, rfl, _, _⟩ := hm7.1.form
                        have hl8 := encS_len x.rules
                        go_wp2_with (at_builtin; go_loud (refine wpList_appB _ rfl (.tmp 116) (.tmp 119) rfl _ Q4 rfl hn7.1 (· < w7.heap.size) A7 c7 (encS x.rules) rfl (hm7.1.rd (fun k hk => hm7.1.lt hk)).2 (by unfold Lim; omega) ?_); intro v8 w8 hby8 hg8 hat8)
                        go_ret
                        have e : encBooks x = Q4 ++ encS x.rules := by
                          rw [← HQ4.out, ← HP4.out, ← HQ3.out, ← HP3.out, ← HQ2.out, ← HP2.out, ← HQ1.out, ← HP1.out, ← HQ0.out, ← HP0.out]
                          simp only [encBooks, encL, List.append_assoc]
                        rw [e]
                        exact NewP.below ⟨_, rfl, hn7.app hby8 hg8 hat8⟩ hbW
end Go.Proofs.Ytgdibeegheddmaa
