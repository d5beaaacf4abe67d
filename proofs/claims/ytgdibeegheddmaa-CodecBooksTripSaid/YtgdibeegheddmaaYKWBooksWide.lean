/- The reference's SameBooks for books of any usual size. Written by gen_kw.py out of K1, K2, K3, K5. -/
import Derived.Test.YtgdibeegheddmaaYK5Books
import Derived.Test.YtgdibeegheddmaaYPa
namespace Go.Proofs.Ytgdibeegheddmaa
open Go Go.RowKit
set_option linter.unusedVariables false
set_option linter.unusedSimpArgs false
section
attribute [local go_sem ↓] Go.wp_at_zero Go.wp_at_succ
structure FewEntW (y : XEntity) : Prop where
  name : y.name.size ≤ 20000
  cur : y.currency.size ≤ 20000
  chart : y.chart.length ≤ 20000
  links : y.links.length ≤ 20000
theorem FewEntW.len {y : XEntity} (h : FewEntW y) : (encEntity y).length ≤ 2000000 := by
  have h1 := encS_len y.name
  have h2 := encS_len y.currency
  have h3 := encL_len_n encAccount 40 encAccount_len y.chart
  have h4 := encL_len_n encLink 30 encLink_len y.links
  have h5 := encB_len y.joint
  have := h.name
  have := h.cur
  have := h.chart
  have := h.links
  simp only [encEntity, List.length_append]
  omega
set_option maxHeartbeats 1000000 in
set_option maxRecDepth 100000 in
theorem rEntityW_c (x : XEntity) (cx : List Value) (w : World) (hx : EntityC w (· < w.heap.size) cx x) (hf : FewEntW x) :
    Calls Try.prog 85 #[.agg cx.toArray] w (NewP w (encEntity x)) := by
  have q1 := hf.name
  have q2 := hf.cur
  have q3 := hf.chart
  have q4 := hf.links
  have HX := Lib.hid hx
  clear hx
  go_enter Try.func85, Try.ntmps85
  go_wp2_with fail
  have hbox : (w.alloc (Obj.cells cx.toArray 133)).heap[w.heap.size]? = some (Obj.cells cx.toArray 133) := heap_alloc_new w _
  generalize hW : w.alloc (Obj.cells cx.toArray 133) = W at *
  have hbW : Below w.heap.size w W := by rw [← hW]; exact below1 w _
  have hWs : w.heap.size < W.heap.size := by rw [← hW]; simp
  clear hW
  obtain ⟨C0, C1, ⟨cc, hcc0, acc⟩, ⟨cl, hcl, acl⟩, ⟨C4, _⟩⟩ := EntityC.at_ (HX.out.keep hbW) (box_at hbox)
  have hlc := hcc0.len
  obtain ⟨vc, rfl⟩ := List.length_eq_one_iff.1 hlc
  have HA := Lib.hid hcc0
  have C2 := acc.c (j := 0) rfl
  obtain ⟨Al, cal, rfl, _, _, hel⟩ := hcl
  have C3 := acl.c (j := 0) rfl
  simp only [Nat.zero_add, Nat.add_zero] at C0 C1 C2 C3 C4
  have hLL : (encS x.name ++ encS x.currency ++ encL encAccount x.chart ++ enc (x.links.length : Int)).length ≤ 100000000000 := by
    have h1 := encS_len x.name
    have h2 := encS_len x.currency
    have h3 := encL_len_n encAccount 40 encAccount_len x.chart
    have h6 := enc_len (x.links.length : Int)
    simp only [List.length_append]
    omega
  have HLL := Lib.hid hLL
  clear hLL acl acc hcc0 hlc hbox
  refine wp_region_inv (Ks W [.val (.pointer (some ⟨w.heap.size, 0, none⟩)), .val (.string x.name), .row (encS x.name), .val (.pointer (some ⟨w.heap.size, 1, none⟩)), .val (.string x.currency), .row (encS x.currency), .val (.pointer (some ⟨w.heap.size, 2, none⟩)), .val (vc), .row (encL encAccount x.chart), .val (.pointer (some ⟨w.heap.size, 3, none⟩)), .val (.slice Al x.links.length cal), .val (.int .i64 (x.links.length : Int)), .row (enc (x.links.length : Int)), .parts [encS x.name, encS x.currency, encL encAccount x.chart, enc (x.links.length : Int)], .row (encS x.name ++ encS x.currency ++ encL encAccount x.chart ++ enc (x.links.length : Int)), .row (encS x.name ++ encS x.currency ++ encL encAccount x.chart ++ enc (x.links.length : Int))])
    (fun w' => Below W.heap.size W w') (by kernel_rfl) (by kernel_rfl) (by kernel_rfl) (Below.refl _ _).drew ?_ ?_
  · refine ⟨?_, ?_, ?_, ?_, ?_, ?_, ?_, ?_, ?_, ?_, ?_, ?_, ?_, ?_, ?_, ?_, trivial⟩
    · intro listed A0 w2 hI hd hnd K hK
      have e0 := hI.slot hnd 1 _ rfl (by kernel_rfl)
      have hS := hI.world
      refine wanted_go rfl ?_
      clear hI hd hnd
      go_simp
      exact hK.out _ _ hS (Ks.of rfl rfl) (fun _ _ h => h)
    · intro listed A0 w2 hI hd hnd K hK
      have e0 := hI.depv hd 0 5 _ rfl rfl rfl (by kernel_rfl)
      have hS := hI.world
      have hcc : w2.cell? ⟨w.heap.size, 0, none⟩ = _ := (hS.cell (p := ⟨w.heap.size, 0, none⟩) hWs).trans C0
      refine wanted_go rfl ?_
      clear hI hd hnd
      go_simp
      exact hK.out _ _ hS (Ks.of rfl rfl) (fun _ _ h => h)
    · intro listed A0 w2 hI hd hnd K hK
      have e0 := hI.depv hd 1 6 _ rfl rfl rfl (by kernel_rfl)
      have hS := hI.world
      refine wanted_go rfl ?_
      clear hI hd hnd
      go_simp
      go_at_call 40
      refine (text_c x.name w2 (by omega)).mono ?_
      rintro e w3 hP
      obtain ⟨v, rfl, h1, h2, h3⟩ := NewP.from hP hS
      exact hK.out _ _ h1 (Ks.of rfl h2) (Ks.keep h3)
    · intro listed A0 w2 hI hd hnd K hK
      have e0 := hI.slot hnd 1 _ rfl (by kernel_rfl)
      have hS := hI.world
      refine wanted_go rfl ?_
      clear hI hd hnd
      go_simp
      exact hK.out _ _ hS (Ks.of rfl rfl) (fun _ _ h => h)
    · intro listed A0 w2 hI hd hnd K hK
      have e0 := hI.depv hd 3 8 _ rfl rfl rfl (by kernel_rfl)
      have hS := hI.world
      have hcc : w2.cell? ⟨w.heap.size, 1, none⟩ = _ := (hS.cell (p := ⟨w.heap.size, 1, none⟩) hWs).trans C1
      refine wanted_go rfl ?_
      clear hI hd hnd
      go_simp
      exact hK.out _ _ hS (Ks.of rfl rfl) (fun _ _ h => h)
    · intro listed A0 w2 hI hd hnd K hK
      have e0 := hI.depv hd 4 9 _ rfl rfl rfl (by kernel_rfl)
      have hS := hI.world
      refine wanted_go rfl ?_
      clear hI hd hnd
      go_simp
      go_at_call 40
      refine (text_c x.currency w2 (by omega)).mono ?_
      rintro e w3 hP
      obtain ⟨v, rfl, h1, h2, h3⟩ := NewP.from hP hS
      exact hK.out _ _ h1 (Ks.of rfl h2) (Ks.keep h3)
    · intro listed A0 w2 hI hd hnd K hK
      have e0 := hI.slot hnd 1 _ rfl (by kernel_rfl)
      have hS := hI.world
      refine wanted_go rfl ?_
      clear hI hd hnd
      go_simp
      exact hK.out _ _ hS (Ks.of rfl rfl) (fun _ _ h => h)
    · intro listed A0 w2 hI hd hnd K hK
      have e0 := hI.depv hd 6 11 _ rfl rfl rfl (by kernel_rfl)
      have hS := hI.world
      have hcc : w2.cell? ⟨w.heap.size, 2, none⟩ = _ := (hS.cell (p := ⟨w.heap.size, 2, none⟩) hWs).trans C2
      refine wanted_go rfl ?_
      clear hI hd hnd
      go_simp
      exact hK.out _ _ hS (Ks.of rfl rfl) (fun _ _ h => h)
    · intro listed A0 w2 hI hd hnd K hK
      have e0 := hI.depv hd 7 12 _ rfl rfl rfl (by kernel_rfl)
      have hS := hI.world
      refine wanted_go rfl ?_
      clear hI hd hnd
      go_simp
      go_at_call 84
      refine (rAccounts_n _ _ x.chart w2 (HA.out.keep AccountC.fr AccountC.mono hS) rfl (by omega)).mono ?_
      rintro e w3 hP
      obtain ⟨v, rfl, h1, h2, h3⟩ := NewP.from hP hS
      exact hK.out _ _ h1 (Ks.of rfl h2) (Ks.keep h3)
    · intro listed A0 w2 hI hd hnd K hK
      have e0 := hI.slot hnd 1 _ rfl (by kernel_rfl)
      have hS := hI.world
      refine wanted_go rfl ?_
      clear hI hd hnd
      go_simp
      exact hK.out _ _ hS (Ks.of rfl rfl) (fun _ _ h => h)
    · intro listed A0 w2 hI hd hnd K hK
      have e0 := hI.depv hd 9 14 _ rfl rfl rfl (by kernel_rfl)
      have hS := hI.world
      have hcc : w2.cell? ⟨w.heap.size, 3, none⟩ = _ := (hS.cell (p := ⟨w.heap.size, 3, none⟩) hWs).trans C3
      refine wanted_go rfl ?_
      clear hI hd hnd
      go_simp
      exact hK.out _ _ hS (Ks.of rfl rfl) (fun _ _ h => h)
    · intro listed A0 w2 hI hd hnd K hK
      have e0 := hI.depv hd 10 15 _ rfl rfl rfl (by kernel_rfl)
      have hS := hI.world
      refine wanted_go rfl ?_
      clear hI hd hnd
      go_simp
      exact hK.out _ _ hS (Ks.of rfl rfl) (fun _ _ h => h)
    · intro listed A0 w2 hI hd hnd K hK
      have e0 := hI.depv hd 11 16 _ rfl rfl rfl (by kernel_rfl)
      have hS := hI.world
      refine wanted_go rfl ?_
      clear hI hd hnd
      go_simp
      go_at_call 14
      refine (refInt_c (x.links.length : Int) w2 (by first | exact And.left (by assumption) | omega) (by first | exact And.right (by assumption) | omega)).mono ?_
      rintro e w3 hP
      obtain ⟨v, rfl, h1, h2, h3⟩ := NewP.from hP hS
      exact hK.out _ _ h1 (Ks.of rfl h2) (Ks.keep h3)
    · intro listed A0 w2 hI hd hnd K hK
      obtain ⟨x0, e0, h0⟩ := hI.dep hd 2 7 rfl rfl rfl (by kernel_rfl)
      obtain ⟨x1, e1, h1⟩ := hI.dep hd 5 10 rfl rfl rfl (by kernel_rfl)
      obtain ⟨x2, e2, h2⟩ := hI.dep hd 8 13 rfl rfl rfl (by kernel_rfl)
      obtain ⟨x3, e3, h3⟩ := hI.dep hd 12 17 rfl rfl rfl (by kernel_rfl)
      have hS := hI.world
      obtain ⟨A0, n0, c0, rfl⟩ := Bytes.shape h0.1
      obtain ⟨A1, n1, c1, rfl⟩ := Bytes.shape h1.1
      obtain ⟨A2, n2, c2, rfl⟩ := Bytes.shape h2.1
      obtain ⟨A3, n3, c3, rfl⟩ := Bytes.shape h3.1
      have HPP := Lib.hid (Parts.cons h0 (Parts.cons h1 (Parts.cons h2 (Parts.cons h3 (Parts.nil w2)))))
      refine wanted_go rfl ?_
      clear hI hd hnd h0 h1 h2 h3
      go_simp
      exact hK.out _ _ (hS.alloc hS.size _) (Ks.of rfl (NewParts.made (W := W) _ [encS x.name, encS x.currency, encL encAccount x.chart, enc (x.links.length : Int)] 4 rfl rfl _ rfl _ rfl HPP.out)) (Ks.keep (below1 w2 _))
    · intro listed A0 w2 hI hd hnd K hK
      obtain ⟨x0, e0, h0⟩ := hI.dep hd 13 18 rfl rfl rfl (by kernel_rfl)
      obtain ⟨bb0, vs0, rfl, hr0, hp0⟩ := h0
      have hS := hI.world
      have HPP := Lib.hid hp0
      clear hp0
      refine wanted_go rfl ?_
      clear hI hd hnd
      go_simp
      go_at_call 64
      refine (join_n _ _ _ vs0 [encS x.name, encS x.currency, encL encAccount x.chart, enc (x.links.length : Int)] (encS x.name ++ encS x.currency ++ encL encAccount x.chart ++ enc (x.links.length : Int)) w2 rfl (by simp) hr0 HPP.out HLL.out (by simp)).mono ?_
      rintro e w3 hP
      obtain ⟨v, rfl, h1, h2, h3⟩ := NewP.from hP hS
      exact hK.out _ _ h1 (Ks.of rfl h2) (Ks.keep h3)
    · intro listed A0 w2 hI hd hnd K hK
      obtain ⟨x0, e0, h0⟩ := hI.dep hd 14 19 rfl rfl rfl (by kernel_rfl)
      have hS := hI.world
      refine wanted_go rfl ?_
      clear hI hd hnd
      go_simp
      exact hK.out _ _ hS (Ks.of rfl h0) (fun _ _ h => h)
  · intro listed A0 w2 hI hall
    obtain ⟨x0, g0, h0⟩ := hI.got 0 _ 5 rfl rfl (hall 0 (by decide))
    obtain ⟨x1, g1, h1⟩ := hI.got 1 _ 6 rfl rfl (hall 1 (by decide))
    obtain ⟨x2, g2, h2⟩ := hI.got 2 _ 7 rfl rfl (hall 2 (by decide))
    obtain ⟨x3, g3, h3⟩ := hI.got 3 _ 8 rfl rfl (hall 3 (by decide))
    obtain ⟨x4, g4, h4⟩ := hI.got 4 _ 9 rfl rfl (hall 4 (by decide))
    obtain ⟨x5, g5, h5⟩ := hI.got 5 _ 10 rfl rfl (hall 5 (by decide))
    obtain ⟨x6, g6, h6⟩ := hI.got 6 _ 11 rfl rfl (hall 6 (by decide))
    obtain ⟨x7, g7, h7⟩ := hI.got 7 _ 12 rfl rfl (hall 7 (by decide))
    obtain ⟨x8, g8, h8⟩ := hI.got 8 _ 13 rfl rfl (hall 8 (by decide))
    obtain ⟨x9, g9, h9⟩ := hI.got 9 _ 14 rfl rfl (hall 9 (by decide))
    obtain ⟨x10, g10, h10⟩ := hI.got 10 _ 15 rfl rfl (hall 10 (by decide))
    obtain ⟨x11, g11, h11⟩ := hI.got 11 _ 16 rfl rfl (hall 11 (by decide))
    obtain ⟨x12, g12, h12⟩ := hI.got 12 _ 17 rfl rfl (hall 12 (by decide))
    obtain ⟨x13, g13, h13⟩ := hI.got 13 _ 18 rfl rfl (hall 13 (by decide))
    obtain ⟨x14, g14, h14⟩ := hI.got 14 _ 19 rfl rfl (hall 14 (by decide))
    obtain ⟨x15, g15, h15⟩ := hI.got 15 _ 3 rfl rfl (hall 15 (by decide))
    have hS := hI.world
    have hA : A0 = _ := hI.tmps [(5, x0), (6, x1), (7, x2), (8, x3), (9, x4), (10, x5), (11, x6), (12, x7), (13, x8), (14, x9), (15, x10), (16, x11), (17, x12), (18, x13), (19, x14), (3, x15)] (by simp only [List.mem_cons, List.not_mem_nil, or_false, forall_eq_or_imp, forall_eq]; exact ⟨g0, g1, g2, g3, g4, g5, g6, g7, g8, g9, g10, g11, g12, g13, g14, g15⟩) (by kernel_rfl)
    have k15 : NewBytes W w2 x15 (encS x.name ++ encS x.currency ++ encL encAccount x.chart ++ enc (x.links.length : Int)) := h15 _ rfl
    clear h0 g0 h1 g1 h2 g2 h3 g3 h4 g4 h5 g5 h6 g6 h7 g7 h8 g8 h9 g9 h10 g10 h11 g11 h12 g12 h13 g13 h14 g14 h15 g15 hI hall
    simp only [setAll, List.foldl, List.setIfInBounds_toArray, List.set_cons_zero, List.set_cons_succ] at hA
    rw [hA]
    clear hA
    have hll2 := HLL.out
    generalize hP0 : encS x.name ++ encS x.currency ++ encL encAccount x.chart ++ enc (x.links.length : Int) = P0 at *
    have HP0 := Lib.hid hP0
    have HC4 := Lib.hid C4
    clear hP0 HLL C0 C1 C2 C4
    go_wp2_with fail
    go_loopw [3, 4] (fun o i wr => ∃ k : Nat, k ≤ x.links.length ∧ i = .int .i64 (k : Int) ∧ NewBytes W wr o (P0 ++ (x.links.take k).flatMap encLink)) (fun _ i _ => x.links.length - (intOf i).toNat)
    case atStart => exact ⟨0, by omega, rfl, by simpa using k15⟩
    case round =>
      obtain ⟨k, hk, rfl, hn⟩ := hrel
      have K3 := (hn.2.2.cell (p := ⟨w.heap.size, 3, none⟩) hWs).trans C3
      have hb4 : w.heap.size < wr.heap.size := by have := hn.2.2.size; omega
      by_cases hlt : k < x.links.length
      · have hltI : (k : Int) < (x.links.length : Int) := by omega
        obtain ⟨b2, o2, rfl, hbb, hi⟩ := hel (by omega)
        obtain ⟨es, ⟨c0, c1, c2, rfl, ⟨rfl, hb0⟩, ⟨rfl, hb1⟩, ⟨rfl, hb2⟩⟩, hae⟩ := hi k x.links[k] (List.getElem?_eq_getElem hlt)
        have hae2 := hae.fr (Fr.ofBelow hn.2.2)
        have k0 := hae2.c (j := 0) rfl
        have k1 := hae2.c (j := 1) rfl
        have k2 := hae2.c (j := 2) rfl
        have hb3 : b2 < wr.heap.size := by have := hn.2.2.size; omega
        have HT := Lib.hid (take_flat encLink x.links k hlt)
        clear hae hi hel
        go_wp2_with fail
        refine wp_region_inv2 21 (Ks wr [.val (u3), .val (.pointer (some ⟨w.heap.size, 3, none⟩)), .val (.slice (some ⟨b2, o2, none⟩) x.links.length cal), .val (.int .i64 (k : Int)), .val (.pointer (some ⟨b2, o2 + k * 3, none⟩)), .val (.pointer (some ⟨b2, o2 + k * 3, none⟩)), .val (.int .i64 x.links[k].from_), .val (.pointer (some ⟨w.heap.size, 3, none⟩)), .val (.slice (some ⟨b2, o2, none⟩) x.links.length cal), .val (.int .i64 (k : Int)), .val (.pointer (some ⟨b2, o2 + k * 3, none⟩)), .val (.pointer (some ⟨b2, o2 + k * 3 + 1, none⟩)), .val (.int .i64 x.links[k].2), .val (.pointer (some ⟨w.heap.size, 3, none⟩)), .val (.slice (some ⟨b2, o2, none⟩) x.links.length cal), .val (.int .i64 (k : Int)), .val (.pointer (some ⟨b2, o2 + k * 3, none⟩)), .val (.pointer (some ⟨b2, o2 + k * 3 + 2, none⟩)), .val (.int .i64 x.links[k].since), .ints [x.links[k].from_, x.links[k].2, x.links[k].since], .row (encLink x.links[k])])
          (fun w' => Below wr.heap.size wr w') (by kernel_rfl) (by kernel_rfl) (by kernel_rfl) (by decide) (by kernel_rfl) (by kernel_rfl) (Below.refl _ _).drew ?_ ?_
        · refine ⟨?_, ?_, ?_, ?_, ?_, ?_, ?_, ?_, ?_, ?_, ?_, ?_, ?_, ?_, ?_, ?_, ?_, ?_, ?_, ?_, ?_, trivial⟩
          · intro listed A0 w2 hI hd hnd K hK
            have e0 := hI.slot hnd 3 _ rfl (by kernel_rfl)
            have hS := hI.world
            refine wanted_go rfl ?_
            clear hI hd hnd
            go_simp
            exact hK.out _ _ hS (Ks.of rfl rfl) (fun _ _ h => h)
          · intro listed A0 w2 hI hd hnd K hK
            have e0 := hI.slot hnd 1 _ rfl (by kernel_rfl)
            have hS := hI.world
            refine wanted_go rfl ?_
            clear hI hd hnd
            go_simp
            exact hK.out _ _ hS (Ks.of rfl rfl) (fun _ _ h => h)
          · intro listed A0 w2 hI hd hnd K hK
            have e0 := hI.depv hd 1 28 _ rfl rfl rfl (by kernel_rfl)
            have hS := hI.world
            have hcc : w2.cell? ⟨w.heap.size, 3, none⟩ = _ := (hS.cell (p := ⟨w.heap.size, 3, none⟩) hb4).trans K3
            refine wanted_go rfl ?_
            clear hI hd hnd
            go_simp
            exact hK.out _ _ hS (Ks.of rfl rfl) (fun _ _ h => h)
          · intro listed A0 w2 hI hd hnd K hK
            have e0 := hI.slot hnd 4 _ rfl (by kernel_rfl)
            have hS := hI.world
            refine wanted_go rfl ?_
            clear hI hd hnd
            go_simp
            exact hK.out _ _ hS (Ks.of rfl rfl) (fun _ _ h => h)
          · intro listed A0 w2 hI hd hnd K hK
            have e0 := hI.depv hd 2 29 _ rfl rfl rfl (by kernel_rfl)
            have e1 := hI.depv hd 3 30 _ rfl rfl rfl (by kernel_rfl)
            have hS := hI.world
            refine wanted_go rfl ?_
            clear hI hd hnd
            go_simp
            exact hK.out _ _ hS (Ks.of rfl rfl) (fun _ _ h => h)
          · intro listed A0 w2 hI hd hnd K hK
            have e0 := hI.depv hd 4 31 _ rfl rfl rfl (by kernel_rfl)
            have hS := hI.world
            refine wanted_go rfl ?_
            clear hI hd hnd
            go_simp
            exact hK.out _ _ hS (Ks.of rfl rfl) (fun _ _ h => h)
          · intro listed A0 w2 hI hd hnd K hK
            have e0 := hI.depv hd 5 32 _ rfl rfl rfl (by kernel_rfl)
            have hS := hI.world
            have hcc : w2.cell? ⟨b2, o2 + k * 3, none⟩ = _ := (hS.cell (p := ⟨b2, o2 + k * 3, none⟩) hb3).trans k0
            refine wanted_go rfl ?_
            clear hI hd hnd
            go_simp
            exact hK.out _ _ hS (Ks.of rfl rfl) (fun _ _ h => h)
          · intro listed A0 w2 hI hd hnd K hK
            have e0 := hI.slot hnd 1 _ rfl (by kernel_rfl)
            have hS := hI.world
            refine wanted_go rfl ?_
            clear hI hd hnd
            go_simp
            exact hK.out _ _ hS (Ks.of rfl rfl) (fun _ _ h => h)
          · intro listed A0 w2 hI hd hnd K hK
            have e0 := hI.depv hd 7 34 _ rfl rfl rfl (by kernel_rfl)
            have hS := hI.world
            have hcc : w2.cell? ⟨w.heap.size, 3, none⟩ = _ := (hS.cell (p := ⟨w.heap.size, 3, none⟩) hb4).trans K3
            refine wanted_go rfl ?_
            clear hI hd hnd
            go_simp
            exact hK.out _ _ hS (Ks.of rfl rfl) (fun _ _ h => h)
          · intro listed A0 w2 hI hd hnd K hK
            have e0 := hI.slot hnd 4 _ rfl (by kernel_rfl)
            have hS := hI.world
            refine wanted_go rfl ?_
            clear hI hd hnd
            go_simp
            exact hK.out _ _ hS (Ks.of rfl rfl) (fun _ _ h => h)
          · intro listed A0 w2 hI hd hnd K hK
            have e0 := hI.depv hd 8 35 _ rfl rfl rfl (by kernel_rfl)
            have e1 := hI.depv hd 9 36 _ rfl rfl rfl (by kernel_rfl)
            have hS := hI.world
            refine wanted_go rfl ?_
            clear hI hd hnd
            go_simp
            exact hK.out _ _ hS (Ks.of rfl rfl) (fun _ _ h => h)
          · intro listed A0 w2 hI hd hnd K hK
            have e0 := hI.depv hd 10 37 _ rfl rfl rfl (by kernel_rfl)
            have hS := hI.world
            refine wanted_go rfl ?_
            clear hI hd hnd
            go_simp
            exact hK.out _ _ hS (Ks.of rfl rfl) (fun _ _ h => h)
          · intro listed A0 w2 hI hd hnd K hK
            have e0 := hI.depv hd 11 38 _ rfl rfl rfl (by kernel_rfl)
            have hS := hI.world
            have hcc : w2.cell? ⟨b2, o2 + k * 3 + 1, none⟩ = _ := (hS.cell (p := ⟨b2, o2 + k * 3 + 1, none⟩) hb3).trans k1
            refine wanted_go rfl ?_
            clear hI hd hnd
            go_simp
            exact hK.out _ _ hS (Ks.of rfl rfl) (fun _ _ h => h)
          · intro listed A0 w2 hI hd hnd K hK
            have e0 := hI.slot hnd 1 _ rfl (by kernel_rfl)
            have hS := hI.world
            refine wanted_go rfl ?_
            clear hI hd hnd
            go_simp
            exact hK.out _ _ hS (Ks.of rfl rfl) (fun _ _ h => h)
          · intro listed A0 w2 hI hd hnd K hK
            have e0 := hI.depv hd 13 40 _ rfl rfl rfl (by kernel_rfl)
            have hS := hI.world
            have hcc : w2.cell? ⟨w.heap.size, 3, none⟩ = _ := (hS.cell (p := ⟨w.heap.size, 3, none⟩) hb4).trans K3
            refine wanted_go rfl ?_
            clear hI hd hnd
            go_simp
            exact hK.out _ _ hS (Ks.of rfl rfl) (fun _ _ h => h)
          · intro listed A0 w2 hI hd hnd K hK
            have e0 := hI.slot hnd 4 _ rfl (by kernel_rfl)
            have hS := hI.world
            refine wanted_go rfl ?_
            clear hI hd hnd
            go_simp
            exact hK.out _ _ hS (Ks.of rfl rfl) (fun _ _ h => h)
          · intro listed A0 w2 hI hd hnd K hK
            have e0 := hI.depv hd 14 41 _ rfl rfl rfl (by kernel_rfl)
            have e1 := hI.depv hd 15 42 _ rfl rfl rfl (by kernel_rfl)
            have hS := hI.world
            refine wanted_go rfl ?_
            clear hI hd hnd
            go_simp
            exact hK.out _ _ hS (Ks.of rfl rfl) (fun _ _ h => h)
          · intro listed A0 w2 hI hd hnd K hK
            have e0 := hI.depv hd 16 43 _ rfl rfl rfl (by kernel_rfl)
            have hS := hI.world
            refine wanted_go rfl ?_
            clear hI hd hnd
            go_simp
            exact hK.out _ _ hS (Ks.of rfl rfl) (fun _ _ h => h)
          · intro listed A0 w2 hI hd hnd K hK
            have e0 := hI.depv hd 17 44 _ rfl rfl rfl (by kernel_rfl)
            have hS := hI.world
            have hcc : w2.cell? ⟨b2, o2 + k * 3 + 2, none⟩ = _ := (hS.cell (p := ⟨b2, o2 + k * 3 + 2, none⟩) hb3).trans k2
            refine wanted_go rfl ?_
            clear hI hd hnd
            go_simp
            exact hK.out _ _ hS (Ks.of rfl rfl) (fun _ _ h => h)
          · intro listed A0 w2 hI hd hnd K hK
            have e0 := hI.depv hd 6 33 _ rfl rfl rfl (by kernel_rfl)
            have e1 := hI.depv hd 12 39 _ rfl rfl rfl (by kernel_rfl)
            have e2 := hI.depv hd 18 45 _ rfl rfl rfl (by kernel_rfl)
            have hS := hI.world
            refine wanted_go rfl ?_
            clear hI hd hnd
            go_simp
            exact hK.out _ _ (hS.alloc hS.size _) (Ks.of rfl (NewInts.made (W := wr) [x.links[k].from_, x.links[k].2, x.links[k].since] 3 rfl _ rfl _ rfl)) (Ks.keep (below1 w2 _))
          · intro listed A0 w2 hI hd hnd K hK
            obtain ⟨x0, e0, h0⟩ := hI.dep hd 19 46 rfl rfl rfl (by kernel_rfl)
            obtain ⟨bb0, rfl, hr0⟩ := h0
            have hS := hI.world
            refine wanted_go rfl ?_
            clear hI hd hnd
            go_simp
            go_at_call 41
            refine (ints_n _ _ _ [x.links[k].from_, x.links[k].2, x.links[k].since] (encLink x.links[k]) w2 rfl (by simp [encLink]) hr0 (by simp [hb0, hb1, hb2]) (by simp)).mono ?_
            rintro e w3 hP
            obtain ⟨v, rfl, h1, h2, h3⟩ := NewP.from hP hS
            exact hK.out _ _ h1 (Ks.of rfl h2) (Ks.keep h3)
        · intro f A0 w2 hI
          obtain ⟨x0, g0, h0⟩ := hI.got 0 _ 27 rfl rfl rfl
          obtain ⟨x1, g1, h1⟩ := hI.got 1 _ 28 rfl rfl rfl
          obtain ⟨x2, g2, h2⟩ := hI.got 2 _ 29 rfl rfl rfl
          obtain ⟨x3, g3, h3⟩ := hI.got 3 _ 30 rfl rfl rfl
          obtain ⟨x4, g4, h4⟩ := hI.got 4 _ 31 rfl rfl rfl
          obtain ⟨x5, g5, h5⟩ := hI.got 5 _ 32 rfl rfl rfl
          obtain ⟨x6, g6, h6⟩ := hI.got 6 _ 33 rfl rfl rfl
          obtain ⟨x7, g7, h7⟩ := hI.got 7 _ 34 rfl rfl rfl
          obtain ⟨x8, g8, h8⟩ := hI.got 8 _ 35 rfl rfl rfl
          obtain ⟨x9, g9, h9⟩ := hI.got 9 _ 36 rfl rfl rfl
          obtain ⟨x10, g10, h10⟩ := hI.got 10 _ 37 rfl rfl rfl
          obtain ⟨x11, g11, h11⟩ := hI.got 11 _ 38 rfl rfl rfl
          obtain ⟨x12, g12, h12⟩ := hI.got 12 _ 39 rfl rfl rfl
          obtain ⟨x13, g13, h13⟩ := hI.got 13 _ 40 rfl rfl rfl
          obtain ⟨x14, g14, h14⟩ := hI.got 14 _ 41 rfl rfl rfl
          obtain ⟨x15, g15, h15⟩ := hI.got 15 _ 42 rfl rfl rfl
          obtain ⟨x16, g16, h16⟩ := hI.got 16 _ 43 rfl rfl rfl
          obtain ⟨x17, g17, h17⟩ := hI.got 17 _ 44 rfl rfl rfl
          obtain ⟨x18, g18, h18⟩ := hI.got 18 _ 45 rfl rfl rfl
          obtain ⟨x19, g19, h19⟩ := hI.got 19 _ 46 rfl rfl rfl
          obtain ⟨x20, g20, h20⟩ := hI.got 20 _ 47 rfl rfl rfl
          have hS := hI.world
          have o48 := hI.oldHead 48 (by kernel_rfl)
          have o3 := hI.oldHead 3 (by kernel_rfl)
          have hA : A0 = _ := hI.tmps [(27, x0), (28, x1), (29, x2), (30, x3), (31, x4), (32, x5), (33, x6), (34, x7), (35, x8), (36, x9), (37, x10), (38, x11), (39, x12), (40, x13), (41, x14), (42, x15), (43, x16), (44, x17), (45, x18), (46, x19), (47, x20), (48, u48), (3, u3)] (by simp only [List.mem_cons, List.not_mem_nil, or_false, forall_eq_or_imp, forall_eq]; exact ⟨g0, g1, g2, g3, g4, g5, g6, g7, g8, g9, g10, g11, g12, g13, g14, g15, g16, g17, g18, g19, g20, o48, o3⟩) (by kernel_rfl)
          obtain rfl : x0 = u3 := h0 _ rfl
          have k20 : NewBytes wr w2 x20 (encLink x.links[k]) := h20 _ rfl
          clear h0 g0 h1 g1 h2 g2 h3 g3 h4 g4 h5 g5 h6 g6 h7 g7 h8 g8 h9 g9 h10 g10 h11 g11 h12 g12 h13 g13 h14 g14 h15 g15 h16 g16 h17 g17 h18 g18 h19 g19 h20 g20 o48 o3 hI
          simp only [setAll, List.foldl, List.setIfInBounds_toArray, List.set_cons_zero, List.set_cons_succ] at hA
          rw [hA]
          clear hA
          have hn2 := hn.keep hS
          have hl5 := encLink_len x.links[k]
          have hl6 := flat_take_m encLink 30 k x.links (fun x _ => encLink_len x)
          obtain ⟨Ar, cr, rfl, _, _⟩ := k20.1.form
          show wpAny _ _ _ _ (f + 1 + 1) _ _ _
          refine wpAny_all (rs := [21]) (by kernel_rfl) (by simp) ?_
          intro i hi
          obtain rfl : i = 21 := by simpa using hi
          refine wpOp_step (o := _) rfl (fun K hK => ?_)
          refine step_appB _ rfl (.tmp 27) (.tmp 47) rfl _ (P0 ++ (x.links.take k).flatMap encLink) rfl hn2.1 (· < w2.heap.size) Ar cr (encLink x.links[k]) rfl (k20.1.rd (fun k hk => k20.1.lt hk)).2 (by unfold Lim; simp only [List.length_append]; omega) ?_
          intro v13 w13 hby hg hat
          refine hK _ _ ?_
          refine wpAny_all (rs := [22]) (by kernel_rfl) (by simp) ?_
          intro i hi
          obtain rfl : i = 22 := by simpa using hi
          refine wpOp_step (o := _) rfl (fun K hK => ?_)
          refine wanted_go rfl ?_
          go_simp
          refine hK _ _ ?_
          refine wpAny_done (by kernel_rfl) ?_ _
          go_wp2_with fail
          go_roundw
          case rel =>
            refine ⟨k + 1, by omega, by go_num, ?_⟩
            rw [HT.out, ← List.append_assoc]
            exact hn2.app hby hg hat
          case measure => simp [intOf]; omega
      · have hkk : k = x.links.length := by omega
        subst hkk
        rw [List.take_length] at hn
        have hltI : ¬ ((x.links.length : Nat) : Int) < (x.links.length : Int) := by omega
        have K4 := (hn.2.2.cell (p := ⟨w.heap.size, 4, none⟩) hWs).trans HC4.out
        have hl6 := flat_le_m encLink 30 x.links (fun x _ => encLink_len x)
        generalize hP1 : P0 ++ x.links.flatMap encLink = P1 at *
        have hl7 : P1.length ≤ 1000000000000 - 100 := by rw [← hP1]; simp only [List.length_append]; omega
        have HP1 := Lib.hid hP1
        clear hP1 hel
        have hl8 := encB_len x.joint
        obtain ⟨Ap, cp, rfl, _, _⟩ := hn.1.form
        go_wp2_with fail
        refine (rFlag_c x.joint wr).mono ?_
        rintro e w5 ⟨v5, rfl, hm5⟩
        have hn5 := hn.keep hm5.2.2
        obtain ⟨A5, c5, rfl, _, _⟩ := hm5.1.form
        go_wp2_with (at_builtin; go_loud (refine wpList_appB _ rfl (.tmp 49) (.tmp 52) rfl _ P1 rfl hn5.1 (· < w5.heap.size) A5 c5 (encB x.joint) rfl (hm5.1.rd (fun k hk => hm5.1.lt hk)).2 (by unfold Lim; omega) ?_); intro v6 w6 hby6 hg6 hat6)
        go_ret
        have e : encEntity x = P1 ++ encB x.joint := by
          rw [← HP1.out, ← HP0.out]
          simp only [encEntity, encL, List.append_assoc]
        rw [e]
        exact NewP.below ⟨_, rfl, hn5.app hby6 hg6 hat6⟩ hbW

structure FewGrpW (x : XGroup) : Prop where
  cur : x.currency.size ≤ 20000
  chart : x.chart.length ≤ 20000
  ents : x.entities.length ≤ 20000
  each : ∀ y ∈ x.entities, FewEntW y
theorem FewGrpW.len {x : XGroup} (h : FewGrpW x) : (encGroup x).length ≤ 50000000000 := by
  have h1 := encS_len x.currency
  have h2 := encCal_len x.calendar
  have h3 := encL_len_n encAccount 40 encAccount_len x.chart
  have h4 := encRoles_len x.roles
  have h5 := flat_le_m encEntity 2000000 x.entities (fun y hy => (h.each y hy).len)
  have h6 := enc_len (x.entities.length : Int)
  have := h.cur
  have := h.chart
  have := h.ents
  simp only [encGroup, encL, List.length_append] at *
  omega
set_option maxHeartbeats 4000000 in
set_option maxRecDepth 100000 in
theorem rGroupW_c (x : XGroup) (cx : List Value) (w : World) (hx : GroupC w (· < w.heap.size) cx x) (hf : FewGrpW x) :
    Calls Try.prog 73 #[.agg cx.toArray] w (NewP w (encGroup x)) := by
  have q1 := hf.cur
  have q2 := hf.chart
  have q3 := hf.ents
  have q4 := Lib.hid hf.each
  have HX := Lib.hid hx
  clear hx hf
  have HW0 := Lib.hid (heap_alloc_new w (.cells cx.toArray 60))
  obtain ⟨_, _, _, ⟨lr, fr0, mr⟩, _⟩ := GroupC.at_ (HX.out.keep (below1 w (.cells cx.toArray 60))) (box_at HW0.out)
  simp only [Nat.zero_add] at mr
  have RR := mr.range
  have HI := Lib.hid (show (Try.prog.info? 57).map (·.size) = some lr.length by rw [info57, fr0.len])
  have HI2 := Lib.hid (show (Try.prog.info? 57).map (·.size) = some lr.toArray.size by rw [info57, List.size_toArray, fr0.len])
  have HSZ := Lib.hid (show (#[.int .i64 0, .int .i64 0, .int .i64 0, .int .i64 0, .int .i64 0, .int .i64 0, .int .i64 0, .int .i64 0, .int .i64 0, .int .i64 0, .int .i64 0, .int .i64 0, .int .i64 0, .int .i64 0, .int .i64 0] : Array Value).size = lr.toArray.size by have := fr0.len; simp [this])
  have HONE := Lib.hid fr0.one
  have FR := Lib.hid fr0
  clear fr0 mr
  go_enter Try.func73, Try.ntmps73
  go_upto_region 2 with (first | refine wpList_load_mid rfl 57 (.tmp 6) rfl w.heap.size 5 rfl lr _ RR Try.underlying57 rfl HI.out ?_ | refine wpList_store_row rfl 57 (.tmp 3) (.tmp 7) rfl (w.heap.size + 1) lr.toArray rfl rfl 57 _ (heap2 w _ _).2.1 HI2.out HSZ.out HONE.out ?_)
  generalize hW : World.setRow ((w.alloc (.cells cx.toArray 60)).alloc (.cells #[.int .i64 0, .int .i64 0, .int .i64 0, .int .i64 0, .int .i64 0, .int .i64 0, .int .i64 0, .int .i64 0, .int .i64 0, .int .i64 0, .int .i64 0, .int .i64 0, .int .i64 0, .int .i64 0, .int .i64 0] 57)) (w.heap.size + 1) lr.toArray = W
  have hh2 := heap2 w (.cells cx.toArray 60) (.cells #[.int .i64 0, .int .i64 0, .int .i64 0, .int .i64 0, .int .i64 0, .int .i64 0, .int .i64 0, .int .i64 0, .int .i64 0, .int .i64 0, .int .i64 0, .int .i64 0, .int .i64 0, .int .i64 0, .int .i64 0] 57)
  have H1 : W.heap[w.heap.size + 1]? = some (.cells lr.toArray 57 (0, 0)) := by rw [← hW]; exact heap_setRow hh2.2.1 _
  have fW : Fr (fun k => k ≠ w.heap.size + 1) ((w.alloc (.cells cx.toArray 60)).alloc (.cells #[.int .i64 0, .int .i64 0, .int .i64 0, .int .i64 0, .int .i64 0, .int .i64 0, .int .i64 0, .int .i64 0, .int .i64 0, .int .i64 0, .int .i64 0, .int .i64 0, .int .i64 0, .int .i64 0, .int .i64 0] 57)) W := by rw [← hW]; exact fr_setRow _ _ _
  clear hW
  have H0 : W.heap[w.heap.size]? = some (.cells cx.toArray 60 (0, 0)) := (fW.block w.heap.size (by show w.heap.size ≠ w.heap.size + 1; omega)).trans hh2.1
  have FW : Fr (· < w.heap.size) w W := hh2.2.2.2.trans (fW.mono (fun k hk => by show k ≠ w.heap.size + 1; omega))
  have hsz : w.heap.size + 2 ≤ W.heap.size := by have := fW.size; have := hh2.2.2.1; omega
  have hbW : Below w.heap.size w W := FW.below
  have hWs : w.heap.size < W.heap.size := by omega
  have hWs1 : w.heap.size + 1 < W.heap.size := by omega
  clear fW hh2 FW
  obtain ⟨C0, ⟨lcal, fcal, mcal⟩, ⟨lch, fch, mch⟩, _, ⟨len_, fen, men⟩⟩ := GroupC.at_ (HX.out.keep hbW) (box_at H0)
  obtain ⟨⟨C1, i1⟩, ⟨C2, i2⟩, ⟨C3, i3⟩⟩ := fcal.at_ mcal
  have hlc := fch.len
  obtain ⟨vc, rfl⟩ := List.length_eq_one_iff.1 hlc
  have C4 := mch.c (j := 0) rfl
  obtain ⟨Al, cal, rfl, _, _, hel⟩ := fen
  have C20 := men.c (j := 0) rfl
  simp only [Nat.zero_add, Nat.add_zero, Nat.reduceAdd] at C0 C1 C2 C3 C4 C20
  have HA := Lib.hid fch
  have HL20 := Lib.hid hel
  have DD := Lib.hid (RolesC.at_ (show RolesC W (fun _ => True) lr x.roles from FR.out) (box_at H1))
  have hLL : (encS x.currency ++ encCal x.calendar ++ encL encAccount x.chart).length ≤ 1000000 := by
    have h1 := encS_len x.currency
    have h2 := encCal_len x.calendar
    have h3 := encL_len_n encAccount 40 encAccount_len x.chart
    simp only [List.length_append]
    omega
  have HLL := Lib.hid (Nat.le_trans hLL (show 1000000 ≤ 100000000000 by omega))
  have HLQ := Lib.hid hLL
  clear hLL mcal mch men fcal fch hlc H0 H1 hel RR
  refine wp_region_inv (Ks W [.val (.pointer (some ⟨w.heap.size, 0, none⟩)), .val (.string x.currency), .row (encS x.currency), .val (.pointer (some ⟨w.heap.size, 1, none⟩)), .val (.pointer (some ⟨w.heap.size, 1, none⟩)), .val (.int .i64 x.calendar.year), .val (.pointer (some ⟨w.heap.size, 1, none⟩)), .val (.pointer (some ⟨w.heap.size, 2, none⟩)), .val (.int .i64 x.calendar.month), .val (.pointer (some ⟨w.heap.size, 1, none⟩)), .val (.pointer (some ⟨w.heap.size, 3, none⟩)), .val (.int .i64 x.calendar.periods), .ints [x.calendar.year, x.calendar.month, x.calendar.periods], .row (encCal x.calendar), .val (.pointer (some ⟨w.heap.size, 4, none⟩)), .val (vc), .row (encL encAccount x.chart), .parts [encS x.currency, encCal x.calendar, encL encAccount x.chart], .row (encS x.currency ++ encCal x.calendar ++ encL encAccount x.chart), .row (encS x.currency ++ encCal x.calendar ++ encL encAccount x.chart)])
    (fun w' => Below W.heap.size W w') (by kernel_rfl) (by kernel_rfl) (by kernel_rfl) (Below.refl _ _).drew ?_ ?_
  · refine ⟨?_, ?_, ?_, ?_, ?_, ?_, ?_, ?_, ?_, ?_, ?_, ?_, ?_, ?_, ?_, ?_, ?_, ?_, ?_, ?_, trivial⟩
    · intro listed A0 w2 hI hd hnd K hK
      have e0 := hI.slot hnd 1 _ rfl (by kernel_rfl)
      have hS := hI.world
      refine wanted_go rfl ?_
      clear hI hd hnd
      go_simp
      exact hK.out _ _ hS (Ks.of rfl rfl) (fun _ _ h => h)
    · intro listed A0 w2 hI hd hnd K hK
      have e0 := hI.depv hd 0 8 _ rfl rfl rfl (by kernel_rfl)
      have hS := hI.world
      have hcc : w2.cell? ⟨w.heap.size, 0, none⟩ = _ := (hS.cell (p := ⟨w.heap.size, 0, none⟩) hWs).trans C0
      refine wanted_go rfl ?_
      clear hI hd hnd
      go_simp
      exact hK.out _ _ hS (Ks.of rfl rfl) (fun _ _ h => h)
    · intro listed A0 w2 hI hd hnd K hK
      have e0 := hI.depv hd 1 9 _ rfl rfl rfl (by kernel_rfl)
      have hS := hI.world
      refine wanted_go rfl ?_
      clear hI hd hnd
      go_simp
      go_at_call 40
      refine (text_c x.currency w2 (by omega)).mono ?_
      rintro e w3 hP
      obtain ⟨v, rfl, h1, h2, h3⟩ := NewP.from hP hS
      exact hK.out _ _ h1 (Ks.of rfl h2) (Ks.keep h3)
    · intro listed A0 w2 hI hd hnd K hK
      have e0 := hI.slot hnd 1 _ rfl (by kernel_rfl)
      have hS := hI.world
      refine wanted_go rfl ?_
      clear hI hd hnd
      go_simp
      exact hK.out _ _ hS (Ks.of rfl rfl) (fun _ _ h => h)
    · intro listed A0 w2 hI hd hnd K hK
      have e0 := hI.depv hd 3 11 _ rfl rfl rfl (by kernel_rfl)
      have hS := hI.world
      refine wanted_go rfl ?_
      clear hI hd hnd
      go_simp
      exact hK.out _ _ hS (Ks.of rfl rfl) (fun _ _ h => h)
    · intro listed A0 w2 hI hd hnd K hK
      have e0 := hI.depv hd 4 12 _ rfl rfl rfl (by kernel_rfl)
      have hS := hI.world
      have hcc : w2.cell? ⟨w.heap.size, 1, none⟩ = _ := (hS.cell (p := ⟨w.heap.size, 1, none⟩) hWs).trans C1
      refine wanted_go rfl ?_
      clear hI hd hnd
      go_simp
      exact hK.out _ _ hS (Ks.of rfl rfl) (fun _ _ h => h)
    · intro listed A0 w2 hI hd hnd K hK
      have e0 := hI.slot hnd 1 _ rfl (by kernel_rfl)
      have hS := hI.world
      refine wanted_go rfl ?_
      clear hI hd hnd
      go_simp
      exact hK.out _ _ hS (Ks.of rfl rfl) (fun _ _ h => h)
    · intro listed A0 w2 hI hd hnd K hK
      have e0 := hI.depv hd 6 14 _ rfl rfl rfl (by kernel_rfl)
      have hS := hI.world
      refine wanted_go rfl ?_
      clear hI hd hnd
      go_simp
      exact hK.out _ _ hS (Ks.of rfl rfl) (fun _ _ h => h)
    · intro listed A0 w2 hI hd hnd K hK
      have e0 := hI.depv hd 7 15 _ rfl rfl rfl (by kernel_rfl)
      have hS := hI.world
      have hcc : w2.cell? ⟨w.heap.size, 2, none⟩ = _ := (hS.cell (p := ⟨w.heap.size, 2, none⟩) hWs).trans C2
      refine wanted_go rfl ?_
      clear hI hd hnd
      go_simp
      exact hK.out _ _ hS (Ks.of rfl rfl) (fun _ _ h => h)
    · intro listed A0 w2 hI hd hnd K hK
      have e0 := hI.slot hnd 1 _ rfl (by kernel_rfl)
      have hS := hI.world
      refine wanted_go rfl ?_
      clear hI hd hnd
      go_simp
      exact hK.out _ _ hS (Ks.of rfl rfl) (fun _ _ h => h)
    · intro listed A0 w2 hI hd hnd K hK
      have e0 := hI.depv hd 9 17 _ rfl rfl rfl (by kernel_rfl)
      have hS := hI.world
      refine wanted_go rfl ?_
      clear hI hd hnd
      go_simp
      exact hK.out _ _ hS (Ks.of rfl rfl) (fun _ _ h => h)
    · intro listed A0 w2 hI hd hnd K hK
      have e0 := hI.depv hd 10 18 _ rfl rfl rfl (by kernel_rfl)
      have hS := hI.world
      have hcc : w2.cell? ⟨w.heap.size, 3, none⟩ = _ := (hS.cell (p := ⟨w.heap.size, 3, none⟩) hWs).trans C3
      refine wanted_go rfl ?_
      clear hI hd hnd
      go_simp
      exact hK.out _ _ hS (Ks.of rfl rfl) (fun _ _ h => h)
    · intro listed A0 w2 hI hd hnd K hK
      have e0 := hI.depv hd 5 13 _ rfl rfl rfl (by kernel_rfl)
      have e1 := hI.depv hd 8 16 _ rfl rfl rfl (by kernel_rfl)
      have e2 := hI.depv hd 11 19 _ rfl rfl rfl (by kernel_rfl)
      have hS := hI.world
      refine wanted_go rfl ?_
      clear hI hd hnd
      go_simp
      exact hK.out _ _ (hS.alloc hS.size _) (Ks.of rfl (NewInts.made (W := W) [x.calendar.year, x.calendar.month, x.calendar.periods] 3 rfl _ rfl _ rfl)) (Ks.keep (below1 w2 _))
    · intro listed A0 w2 hI hd hnd K hK
      obtain ⟨x0, e0, h0⟩ := hI.dep hd 12 20 rfl rfl rfl (by kernel_rfl)
      obtain ⟨bb0, rfl, hr0⟩ := h0
      have hS := hI.world
      refine wanted_go rfl ?_
      clear hI hd hnd
      go_simp
      go_at_call 41
      refine (ints_n _ _ _ [x.calendar.year, x.calendar.month, x.calendar.periods] (encCal x.calendar) w2 rfl (by simp [encCal]) hr0 (by simp [i1, i2, i3]) (by simp)).mono ?_
      rintro e w3 hP
      obtain ⟨v, rfl, h1, h2, h3⟩ := NewP.from hP hS
      exact hK.out _ _ h1 (Ks.of rfl h2) (Ks.keep h3)
    · intro listed A0 w2 hI hd hnd K hK
      have e0 := hI.slot hnd 1 _ rfl (by kernel_rfl)
      have hS := hI.world
      refine wanted_go rfl ?_
      clear hI hd hnd
      go_simp
      exact hK.out _ _ hS (Ks.of rfl rfl) (fun _ _ h => h)
    · intro listed A0 w2 hI hd hnd K hK
      have e0 := hI.depv hd 14 22 _ rfl rfl rfl (by kernel_rfl)
      have hS := hI.world
      have hcc : w2.cell? ⟨w.heap.size, 4, none⟩ = _ := (hS.cell (p := ⟨w.heap.size, 4, none⟩) hWs).trans C4
      refine wanted_go rfl ?_
      clear hI hd hnd
      go_simp
      exact hK.out _ _ hS (Ks.of rfl rfl) (fun _ _ h => h)
    · intro listed A0 w2 hI hd hnd K hK
      have e0 := hI.depv hd 15 23 _ rfl rfl rfl (by kernel_rfl)
      have hS := hI.world
      refine wanted_go rfl ?_
      clear hI hd hnd
      go_simp
      go_at_call 84
      refine (rAccounts_n _ _ x.chart w2 (HA.out.keep AccountC.fr AccountC.mono hS) rfl (by omega)).mono ?_
      rintro e w3 hP
      obtain ⟨v, rfl, h1, h2, h3⟩ := NewP.from hP hS
      exact hK.out _ _ h1 (Ks.of rfl h2) (Ks.keep h3)
    · intro listed A0 w2 hI hd hnd K hK
      obtain ⟨x0, e0, h0⟩ := hI.dep hd 2 10 rfl rfl rfl (by kernel_rfl)
      obtain ⟨x1, e1, h1⟩ := hI.dep hd 13 21 rfl rfl rfl (by kernel_rfl)
      obtain ⟨x2, e2, h2⟩ := hI.dep hd 16 24 rfl rfl rfl (by kernel_rfl)
      have hS := hI.world
      obtain ⟨A0, n0, c0, rfl⟩ := Bytes.shape h0.1
      obtain ⟨A1, n1, c1, rfl⟩ := Bytes.shape h1.1
      obtain ⟨A2, n2, c2, rfl⟩ := Bytes.shape h2.1
      have HPP := Lib.hid (Parts.cons h0 (Parts.cons h1 (Parts.cons h2 (Parts.nil w2))))
      refine wanted_go rfl ?_
      clear hI hd hnd h0 h1 h2
      go_simp
      exact hK.out _ _ (hS.alloc hS.size _) (Ks.of rfl (NewParts.made (W := W) _ [encS x.currency, encCal x.calendar, encL encAccount x.chart] 3 rfl rfl _ rfl _ rfl HPP.out)) (Ks.keep (below1 w2 _))
    · intro listed A0 w2 hI hd hnd K hK
      obtain ⟨x0, e0, h0⟩ := hI.dep hd 17 25 rfl rfl rfl (by kernel_rfl)
      obtain ⟨bb0, vs0, rfl, hr0, hp0⟩ := h0
      have hS := hI.world
      have HPP := Lib.hid hp0
      clear hp0
      refine wanted_go rfl ?_
      clear hI hd hnd
      go_simp
      go_at_call 64
      refine (join_n _ _ _ vs0 [encS x.currency, encCal x.calendar, encL encAccount x.chart] (encS x.currency ++ encCal x.calendar ++ encL encAccount x.chart) w2 rfl (by simp) hr0 HPP.out HLL.out (by simp)).mono ?_
      rintro e w3 hP
      obtain ⟨v, rfl, h1, h2, h3⟩ := NewP.from hP hS
      exact hK.out _ _ h1 (Ks.of rfl h2) (Ks.keep h3)
    · intro listed A0 w2 hI hd hnd K hK
      obtain ⟨x0, e0, h0⟩ := hI.dep hd 18 26 rfl rfl rfl (by kernel_rfl)
      have hS := hI.world
      refine wanted_go rfl ?_
      clear hI hd hnd
      go_simp
      exact hK.out _ _ hS (Ks.of rfl h0) (fun _ _ h => h)
  · intro listed A0 w2 hI hall
    obtain ⟨x0, g0, h0⟩ := hI.got 0 _ 8 rfl rfl (hall 0 (by decide))
    obtain ⟨x1, g1, h1⟩ := hI.got 1 _ 9 rfl rfl (hall 1 (by decide))
    obtain ⟨x2, g2, h2⟩ := hI.got 2 _ 10 rfl rfl (hall 2 (by decide))
    obtain ⟨x3, g3, h3⟩ := hI.got 3 _ 11 rfl rfl (hall 3 (by decide))
    obtain ⟨x4, g4, h4⟩ := hI.got 4 _ 12 rfl rfl (hall 4 (by decide))
    obtain ⟨x5, g5, h5⟩ := hI.got 5 _ 13 rfl rfl (hall 5 (by decide))
    obtain ⟨x6, g6, h6⟩ := hI.got 6 _ 14 rfl rfl (hall 6 (by decide))
    obtain ⟨x7, g7, h7⟩ := hI.got 7 _ 15 rfl rfl (hall 7 (by decide))
    obtain ⟨x8, g8, h8⟩ := hI.got 8 _ 16 rfl rfl (hall 8 (by decide))
    obtain ⟨x9, g9, h9⟩ := hI.got 9 _ 17 rfl rfl (hall 9 (by decide))
    obtain ⟨x10, g10, h10⟩ := hI.got 10 _ 18 rfl rfl (hall 10 (by decide))
    obtain ⟨x11, g11, h11⟩ := hI.got 11 _ 19 rfl rfl (hall 11 (by decide))
    obtain ⟨x12, g12, h12⟩ := hI.got 12 _ 20 rfl rfl (hall 12 (by decide))
    obtain ⟨x13, g13, h13⟩ := hI.got 13 _ 21 rfl rfl (hall 13 (by decide))
    obtain ⟨x14, g14, h14⟩ := hI.got 14 _ 22 rfl rfl (hall 14 (by decide))
    obtain ⟨x15, g15, h15⟩ := hI.got 15 _ 23 rfl rfl (hall 15 (by decide))
    obtain ⟨x16, g16, h16⟩ := hI.got 16 _ 24 rfl rfl (hall 16 (by decide))
    obtain ⟨x17, g17, h17⟩ := hI.got 17 _ 25 rfl rfl (hall 17 (by decide))
    obtain ⟨x18, g18, h18⟩ := hI.got 18 _ 26 rfl rfl (hall 18 (by decide))
    obtain ⟨x19, g19, h19⟩ := hI.got 19 _ 4 rfl rfl (hall 19 (by decide))
    have hS := hI.world
    have hA : A0 = _ := hI.tmps [(8, x0), (9, x1), (10, x2), (11, x3), (12, x4), (13, x5), (14, x6), (15, x7), (16, x8), (17, x9), (18, x10), (19, x11), (20, x12), (21, x13), (22, x14), (23, x15), (24, x16), (25, x17), (26, x18), (4, x19)] (by simp only [List.mem_cons, List.not_mem_nil, or_false, forall_eq_or_imp, forall_eq]; exact ⟨g0, g1, g2, g3, g4, g5, g6, g7, g8, g9, g10, g11, g12, g13, g14, g15, g16, g17, g18, g19⟩) (by kernel_rfl)
    have k19 : NewBytes W w2 x19 (encS x.currency ++ encCal x.calendar ++ encL encAccount x.chart) := h19 _ rfl
    clear h0 g0 h1 g1 h2 g2 h3 g3 h4 g4 h5 g5 h6 g6 h7 g7 h8 g8 h9 g9 h10 g10 h11 g11 h12 g12 h13 g13 h14 g14 h15 g15 h16 g16 h17 g17 h18 g18 h19 g19 hI hall
    simp only [setAll, List.foldl, List.setIfInBounds_toArray, List.set_cons_zero, List.set_cons_succ] at hA
    rw [hA]
    clear hA
    have hll2 := HLQ.out
    obtain ⟨P0, hP0⟩ : ∃ P0, encS x.currency ++ encCal x.calendar ++ encL encAccount x.chart = P0 := ⟨_, rfl⟩
    rw [hP0] at hll2 k19
    have HP0 := Lib.hid hP0
    clear hP0 C0 C1 C2 C3 C4
    obtain ⟨Aa, ca, rfl, _, _⟩ := k19.1.form
    have hn0 := Lib.hid k19
    have K20 := (hS.cell (p := ⟨w.heap.size, 20, none⟩) hWs).trans C20
    obtain ⟨⟨D0, _⟩, ⟨D1, _⟩, ⟨D2, _⟩, ⟨D3, _⟩, ⟨D4, _⟩, ⟨D5, _⟩, ⟨D6, _⟩, ⟨D7, _⟩, ⟨D8, _⟩, ⟨D9, _⟩, ⟨D10, _⟩, ⟨D11, _⟩, ⟨D12, _⟩, ⟨D13, _⟩, ⟨D14, _⟩⟩ := DD.out
    simp only [Nat.zero_add] at D0 D1 D2 D3 D4 D5 D6 D7 D8 D9 D10 D11 D12 D13 D14
    have E0 := (hS.cell (p := ⟨w.heap.size + 1, 0, none⟩) hWs1).trans D0
    have E1 := (hS.cell (p := ⟨w.heap.size + 1, 1, none⟩) hWs1).trans D1
    have E2 := (hS.cell (p := ⟨w.heap.size + 1, 2, none⟩) hWs1).trans D2
    have E3 := (hS.cell (p := ⟨w.heap.size + 1, 3, none⟩) hWs1).trans D3
    have E4 := (hS.cell (p := ⟨w.heap.size + 1, 4, none⟩) hWs1).trans D4
    have E5 := (hS.cell (p := ⟨w.heap.size + 1, 5, none⟩) hWs1).trans D5
    have E6 := (hS.cell (p := ⟨w.heap.size + 1, 6, none⟩) hWs1).trans D6
    have E7 := (hS.cell (p := ⟨w.heap.size + 1, 7, none⟩) hWs1).trans D7
    have E8 := (hS.cell (p := ⟨w.heap.size + 1, 8, none⟩) hWs1).trans D8
    have E9 := (hS.cell (p := ⟨w.heap.size + 1, 9, none⟩) hWs1).trans D9
    have E10 := (hS.cell (p := ⟨w.heap.size + 1, 10, none⟩) hWs1).trans D10
    have E11 := (hS.cell (p := ⟨w.heap.size + 1, 11, none⟩) hWs1).trans D11
    have E12 := (hS.cell (p := ⟨w.heap.size + 1, 12, none⟩) hWs1).trans D12
    have E13 := (hS.cell (p := ⟨w.heap.size + 1, 13, none⟩) hWs1).trans D13
    have E14 := (hS.cell (p := ⟨w.heap.size + 1, 14, none⟩) hWs1).trans D14
    clear D0 D1 D2 D3 D4 D5 D6 D7 D8 D9 D10 D11 D12 D13 D14 k19
    obtain ⟨M, hM⟩ : ∃ M, encRoles x.roles ++ enc (x.entities.length : Int) = M := ⟨_, rfl⟩
    have hMl : M.length ≤ 20000 := by
      rw [← hM]
      have h1 := encRoles_len x.roles
      have h2 := enc_len (x.entities.length : Int)
      simp only [List.length_append]; omega
    have HM := Lib.hid hM
    clear hM
    go_wp2_with fail
    refine (ints_n _ 16 16 [x.roles.investment, x.roles.goodwill, x.roles.associates, x.roles.inventory, x.roles.reserve, x.roles.minority, x.roles.retained, x.roles.acquired, x.roles.owners, x.roles.disposal, x.roles.associateProfit, x.roles.dividends, x.roles.minorityProfit, x.roles.difference, x.roles.margin, (x.entities.length : Int)] M _ rfl (by rw [← HM.out]; simp [encRoles, List.flatMap]) (row_rd _ (iv [x.roles.investment, x.roles.goodwill, x.roles.associates, x.roles.inventory, x.roles.reserve, x.roles.minority, x.roles.retained, x.roles.acquired, x.roles.owners, x.roles.disposal, x.roles.associateProfit, x.roles.dividends, x.roles.minorityProfit, x.roles.difference, x.roles.margin, (x.entities.length : Int)]) 3 _ 16 (by simp) rfl) ?_ (by simp)).mono ?_
    · intro n hn
      rcases List.mem_append.1 (show n ∈ [x.roles.investment, x.roles.goodwill, x.roles.associates, x.roles.inventory, x.roles.reserve, x.roles.minority, x.roles.retained, x.roles.acquired, x.roles.owners, x.roles.disposal, x.roles.associateProfit, x.roles.dividends, x.roles.minorityProfit, x.roles.difference, x.roles.margin] ++ [(x.entities.length : Int)] from hn) with h | h
      · exact FR.out.bds n h
      · obtain rfl := List.mem_singleton.1 h
        exact intBd_nat (by omega)
    rintro e w3 hP3
    obtain ⟨v3, rfl, hm3⟩ := hP3.below (below1 w2 _)
    have hn3 := hn0.out.keep hm3.2.2
    obtain ⟨A3, c3, rfl, _, _⟩ := hm3.1.form
    have K20b := (hn3.2.2.cell (p := ⟨w.heap.size, 20, none⟩) hWs).trans C20
    obtain ⟨P1, hP1⟩ : ∃ P1, P0 ++ M = P1 := ⟨_, rfl⟩
    have hP1l : P1.length ≤ 2000000 := by rw [← hP1]; simp only [List.length_append]; omega
    have HP1 := Lib.hid hP1
    clear hP1 K20 hP3 E0 E1 E2 E3 E4 E5 E6 E7 E8 E9 E10 E11 E12 E13 E14
    go_wp2_with (at_builtin; go_loud (refine wpList_appB _ rfl (.tmp 27) (.tmp 62) rfl _ P0 rfl hn3.1 (· < w3.heap.size) A3 c3 M rfl (hm3.1.rd (fun k hk => hm3.1.lt hk)).2 (by unfold Lim; omega) ?_); intro v4 w4 hby4 hg4 hat4)
    have hn4 := hn3.app hby4 hg4 hat4
    rw [HP1.out] at hn4
    clear hby4
    clear K20b
    go_loopw [4, 5] (fun o i wr => ∃ k : Nat, k ≤ x.entities.length ∧ i = .int .i64 (k : Int) ∧ NewBytes W wr o (P1 ++ (x.entities.take k).flatMap encEntity)) (fun _ i _ => x.entities.length - (intOf i).toNat)
    case atStart => exact ⟨0, by omega, rfl, by simpa using hn4⟩
    case round =>
      obtain ⟨k, hk, rfl, hn⟩ := hrel
      have K20 := (hn.2.2.cell (p := ⟨w.heap.size, 20, none⟩) hWs).trans C20
      by_cases hlt : k < x.entities.length
      · have hltI : (k : Int) < (x.entities.length : Int) := by omega
        obtain ⟨b2, o2, rfl, hbb, hi⟩ := HL20.out (by omega)
        obtain ⟨es, hes, hae⟩ := hi k x.entities[k] (List.getElem?_eq_getElem hlt)
        have hrange := (hae.fr (Fr.ofBelow hn.2.2)).range
        have hHE := Lib.hid (hes.keep hn.2.2)
        have HIe := Lib.hid (show (Try.prog.info? 133).map (·.size) = some es.length by rw [info133, hes.len])
        have HT := Lib.hid (take_flat encEntity x.entities k hlt)
        have hmem : x.entities[k] ∈ x.entities := List.getElem_mem hlt
        have hl5 := (q4.out _ hmem).len
        have hl6 := flat_take_m encEntity 2000000 k x.entities (fun y hy => (q4.out y hy).len)
        clear hi hae hes hmem
        go_wp2_with (refine wpList_load_mid rfl 133 (.tmp 75) rfl b2 (o2 + k * 5) rfl es _ hrange Try.underlying133 rfl HIe.out ?_)
        refine (rEntityW_c x.entities[k] es wr hHE.out (q4.out _ (List.getElem_mem hlt))).mono ?_
        rintro e w5 ⟨v5, rfl, hm5⟩
        have hn5 := hn.keep hm5.2.2
        obtain ⟨A5, c5, rfl, _, _⟩ := hm5.1.form
        clear hrange
        go_wp2_with (at_builtin; go_loud (refine wpList_appB _ rfl (.tmp 71) (.tmp 77) rfl _ (P1 ++ (x.entities.take k).flatMap encEntity) rfl hn5.1 (· < w5.heap.size) A5 c5 (encEntity x.entities[k]) rfl (hm5.1.rd (fun k hk => hm5.1.lt hk)).2 (by unfold Lim; simp only [List.length_append]; omega) ?_); intro v6 w6 hby6 hg6 hat6)
        go_roundw
        case rel =>
          refine ⟨k + 1, by omega, by go_num, ?_⟩
          rw [HT.out, ← List.append_assoc]
          exact hn5.app hby6 hg6 hat6
        case measure => simp [intOf]; omega
      · have hkk : k = x.entities.length := by omega
        subst hkk
        rw [List.take_length] at hn
        have hltI : ¬ ((x.entities.length : Nat) : Int) < (x.entities.length : Int) := by omega
        go_wp2_with fail
        go_ret
        have e : encGroup x = P1 ++ x.entities.flatMap encEntity := by
          rw [← HP1.out, ← HP0.out, ← HM.out]
          simp only [encGroup, encL, List.append_assoc]
        rw [e]
        exact NewP.below ⟨_, rfl, hn⟩ hbW
structure FewBksW (x : XBooks) : Prop where
  group : FewGrpW x.group
  ents : x.entries.length ≤ 20000
  rates : x.rates.length ≤ 20000
  holds : x.holdings.length ≤ 20000
  mats : x.matches_.length ≤ 20000
  stocks : x.stocks.length ≤ 20000
  rules : x.rules.size ≤ 20000
  eachE : ∀ y ∈ x.entries, y.lines.length ≤ 20000 ∧ y.text.size ≤ 20000
  eachR : ∀ y ∈ x.rates, y.currency.size ≤ 20000
  eachM : ∀ y ∈ x.matches_, y.left.length ≤ 20000 ∧ y.right.length ≤ 20000
theorem entLenW {y : XEntry} (h : y.lines.length ≤ 20000 ∧ y.text.size ≤ 20000) : (encEntry y).length ≤ 1000000 := by have := encEntry_len y; omega
theorem ratLenW {y : XRate} (h : y.currency.size ≤ 20000) : (encRate y).length ≤ 1000000 := by have := encRate_len y; omega
theorem matLenW {y : XMatch} (h : y.left.length ≤ 20000 ∧ y.right.length ≤ 20000) : (encMatch y).length ≤ 1000000 := by have := encMatch_len y; omega
theorem FewBksW.len {x : XBooks} (h : FewBksW x) : (encBooks x).length ≤ 200000000000 := by
  have h1 := h.group.len
  have h2 := flat_le_m encEntry 1000000 x.entries (fun y hy => entLenW (h.eachE y hy))
  have h3 := flat_le_m encRate 1000000 x.rates (fun y hy => ratLenW (h.eachR y hy))
  have h4 := flat_le_m encHolding 40 x.holdings (fun y hy => encHolding_len y)
  have h5 := flat_le_m encMatch 1000000 x.matches_ (fun y hy => matLenW (h.eachM y hy))
  have h6 := flat_le_m encStock 50 x.stocks (fun y hy => encStock_len y)
  have h7 := encS_len x.rules
  have g2 := enc_len (x.entries.length : Int)
  have g3 := enc_len (x.rates.length : Int)
  have g4 := enc_len (x.holdings.length : Int)
  have g5 := enc_len (x.matches_.length : Int)
  have g6 := enc_len (x.stocks.length : Int)
  have := h.ents
  have := h.rates
  have := h.holds
  have := h.mats
  have := h.stocks
  have := h.rules
  simp only [encBooks, encL, List.length_append] at *
  omega
set_option maxHeartbeats 8000000 in
set_option maxRecDepth 100000 in
theorem rBooksW_c (x : XBooks) (cx : List Value) (w : World) (hx : BooksC w (· < w.heap.size) cx x) (hf : FewBksW x) :
    Calls Try.prog 55 #[.agg cx.toArray] w (NewP w (encBooks x)) := by
  have qG := hf.group
  have q1 := hf.ents
  have q2 := hf.rates
  have q3 := hf.holds
  have q4 := hf.mats
  have q5 := hf.stocks
  have q6 := hf.rules
  have qE := Lib.hid hf.eachE
  have qR := Lib.hid hf.eachR
  have qM := Lib.hid hf.eachM
  have HX := Lib.hid hx
  clear hx hf
  go_enter Try.func55, Try.ntmps55
  go_upto_region 1 with fail
  have hbox : (w.alloc (Obj.cells cx.toArray 67)).heap[w.heap.size]? = some (Obj.cells cx.toArray 67) := heap_alloc_new w _
  generalize hW : w.alloc (Obj.cells cx.toArray 67) = W at *
  have hbW : Below w.heap.size w W := by rw [← hW]; exact below1 w _
  have hWs : w.heap.size < W.heap.size := by rw [← hW]; simp
  clear hW
  obtain ⟨⟨lg, fg, mg⟩, ⟨l21, f21, m21⟩, ⟨l22, f22, m22⟩, ⟨l23, f23, m23⟩, ⟨l24, f24, m24⟩, ⟨l25, f25, m25⟩, C26⟩ := BooksC.at_ (HX.out.keep hbW) (box_at hbox)
  have FG := Lib.hid fg
  have RG := Lib.hid mg
  obtain ⟨A21, c21, rfl, _, _, hel21⟩ := f21
  have C21 := m21.c (j := 0) rfl
  have HL21 := Lib.hid hel21
  obtain ⟨A22, c22, rfl, _, _, hel22⟩ := f22
  have C22 := m22.c (j := 0) rfl
  have HL22 := Lib.hid hel22
  obtain ⟨A23, c23, rfl, _, _, hel23⟩ := f23
  have C23 := m23.c (j := 0) rfl
  have HL23 := Lib.hid hel23
  obtain ⟨A24, c24, rfl, _, _, hel24⟩ := f24
  have C24 := m24.c (j := 0) rfl
  have HL24 := Lib.hid hel24
  obtain ⟨A25, c25, rfl, _, _, hel25⟩ := f25
  have C25 := m25.c (j := 0) rfl
  have HL25 := Lib.hid hel25
  simp only [Nat.zero_add, Nat.add_zero] at C21 C22 C23 C24 C25 C26
  clear hbox fg mg m21 m22 m23 m24 m25 hel21 hel22 hel23 hel24 hel25
  refine wp_region_inv2 7 (Ks W [.val (.pointer (some ⟨w.heap.size, 0, none⟩)), .val (.agg lg.toArray), .row (encGroup x.group), .val (.pointer (some ⟨w.heap.size, 21, none⟩)), .val (.slice A21 x.entries.length c21), .val (.int .i64 (x.entries.length : Int)), .row (enc (x.entries.length : Int))])
    (fun w' => Below W.heap.size W w') (by kernel_rfl) (by kernel_rfl) (by kernel_rfl) (by decide) (by kernel_rfl) (by kernel_rfl) (Below.refl _ _).drew ?_ ?_
  · refine ⟨?_, ?_, ?_, ?_, ?_, ?_, ?_, trivial⟩
    · intro listed A0 w2 hI hd hnd K hK
      have e0 := hI.slot hnd 1 _ rfl (by kernel_rfl)
      have hS := hI.world
      refine wanted_go rfl ?_
      clear hI hd hnd
      go_simp
      exact hK.out _ _ hS (Ks.of rfl rfl) (fun _ _ h => h)
    · intro listed A0 w2 hI hd hnd K hK
      have e0 := hI.depv hd 0 9 _ rfl rfl rfl (by kernel_rfl)
      have hS := hI.world
      have hrange := (RG.out.fr (Fr.ofBelow hS)).range
      have hisize : (Try.prog.info? 60).map (·.size) = some lg.length := by rw [info60, (FG.out).len]
      refine wanted_go rfl ?_
      clear hI hd hnd
      refine wp_load_mid 60 (.tmp 9) rfl _ _ (by simpa [Act.eval, Array.getD_eq_getD_getElem?] using e0) _ _ hrange Try.underlying60 rfl hisize ?_
      exact hK.out _ _ hS (Ks.of rfl rfl) (fun _ _ h => h)
    · intro listed A0 w2 hI hd hnd K hK
      have e0 := hI.depv hd 1 10 _ rfl rfl rfl (by kernel_rfl)
      have hS := hI.world
      refine wanted_go rfl ?_
      clear hI hd hnd
      go_simp
      go_at_call 73
      refine (rGroupW_c x.group lg w2 (FG.out.keep hS) qG).mono ?_
      rintro e w3 hP
      obtain ⟨v, rfl, h1, h2, h3⟩ := NewP.from hP hS
      exact hK.out _ _ h1 (Ks.of rfl h2) (Ks.keep h3)
    · intro listed A0 w2 hI hd hnd K hK
      have e0 := hI.slot hnd 1 _ rfl (by kernel_rfl)
      have hS := hI.world
      refine wanted_go rfl ?_
      clear hI hd hnd
      go_simp
      exact hK.out _ _ hS (Ks.of rfl rfl) (fun _ _ h => h)
    · intro listed A0 w2 hI hd hnd K hK
      have e0 := hI.depv hd 3 12 _ rfl rfl rfl (by kernel_rfl)
      have hS := hI.world
      have hcc : w2.cell? ⟨w.heap.size, 21, none⟩ = _ := (hS.cell (p := ⟨w.heap.size, 21, none⟩) hWs).trans C21
      refine wanted_go rfl ?_
      clear hI hd hnd
      go_simp
      exact hK.out _ _ hS (Ks.of rfl rfl) (fun _ _ h => h)
    · intro listed A0 w2 hI hd hnd K hK
      have e0 := hI.depv hd 4 13 _ rfl rfl rfl (by kernel_rfl)
      have hS := hI.world
      refine wanted_go rfl ?_
      clear hI hd hnd
      go_simp
      exact hK.out _ _ hS (Ks.of rfl rfl) (fun _ _ h => h)
    · intro listed A0 w2 hI hd hnd K hK
      have e0 := hI.depv hd 5 14 _ rfl rfl rfl (by kernel_rfl)
      have hS := hI.world
      refine wanted_go rfl ?_
      clear hI hd hnd
      go_simp
      go_at_call 14
      refine (refInt_c (x.entries.length : Int) w2 (by first | exact And.left (by assumption) | omega) (by first | exact And.right (by assumption) | omega)).mono ?_
      rintro e w3 hP
      obtain ⟨v, rfl, h1, h2, h3⟩ := NewP.from hP hS
      exact hK.out _ _ h1 (Ks.of rfl h2) (Ks.keep h3)
  · intro f A0 w2 hI
    obtain ⟨x0, g0, h0⟩ := hI.got 0 _ 9 rfl rfl rfl
    obtain ⟨x1, g1, h1⟩ := hI.got 1 _ 10 rfl rfl rfl
    obtain ⟨x2, g2, h2⟩ := hI.got 2 _ 11 rfl rfl rfl
    obtain ⟨x3, g3, h3⟩ := hI.got 3 _ 12 rfl rfl rfl
    obtain ⟨x4, g4, h4⟩ := hI.got 4 _ 13 rfl rfl rfl
    obtain ⟨x5, g5, h5⟩ := hI.got 5 _ 14 rfl rfl rfl
    obtain ⟨x6, g6, h6⟩ := hI.got 6 _ 15 rfl rfl rfl
    have hS := hI.world
    have o16 := hI.oldHead 16 (by kernel_rfl)
    have o3 := hI.oldHead 3 (by kernel_rfl)
    have hA : A0 = _ := hI.tmps [(9, x0), (10, x1), (11, x2), (12, x3), (13, x4), (14, x5), (15, x6), (16, undef), (3, undef)] (by simp only [List.mem_cons, List.not_mem_nil, or_false, forall_eq_or_imp, forall_eq]; exact ⟨g0, g1, g2, g3, g4, g5, g6, o16, o3⟩) (by kernel_rfl)
    have k2 : NewBytes W w2 x2 (encGroup x.group) := h2 _ rfl
    have k6 : NewBytes W w2 x6 (enc (x.entries.length : Int)) := h6 _ rfl
    clear h0 g0 h1 g1 h2 g2 h3 g3 h4 g4 h5 g5 h6 g6 o16 o3 hI
    simp only [setAll, List.foldl, List.setIfInBounds_toArray, List.set_cons_zero, List.set_cons_succ] at hA
    rw [hA]
    clear hA
    have hgl := qG.len
    have hl8 := enc_len (x.entries.length : Int)
    obtain ⟨P0, hP0⟩ : ∃ P, encGroup x.group ++ enc (x.entries.length : Int) = P := ⟨_, rfl⟩
    have hP0l : P0.length ≤ 60000000000 := by rw [← hP0]; simp only [List.length_append]; omega
    have HP0 := Lib.hid hP0
    clear hP0
    obtain ⟨Ar, cr, rfl, _, _⟩ := k6.1.form
    have k6h := Lib.hid k6
    have k2h := Lib.hid k2
    show wpAny _ _ _ _ (f + 1 + 1) _ _ _
    refine wpAny_all (rs := [7]) (by kernel_rfl) (by simp) ?_
    intro i hi
    obtain rfl : i = 7 := by simpa using hi
    refine wpOp_step (o := _) rfl (fun K hK => ?_)
    refine step_appB _ rfl (.tmp 11) (.tmp 15) rfl _ (encGroup x.group) rfl k2.1 (· < w2.heap.size) Ar cr (enc (x.entries.length : Int)) rfl (k6.1.rd (fun k hk => k6.1.lt hk)).2 (by unfold Lim; omega) ?_
    intro v13 w13 hby hg hat
    have hn_0 := k2h.out.app hby hg hat
    rw [HP0.out] at hn_0
    refine hK _ _ ?_
    refine wpAny_all (rs := [8]) (by kernel_rfl) (by simp) ?_
    intro i hi
    obtain rfl : i = 8 := by simpa using hi
    refine wpOp_step (o := _) rfl (fun K hK => ?_)
    refine wanted_go rfl ?_
    go_simp
    refine hK _ _ ?_
    refine wpAny_done (by kernel_rfl) ?_ _
    clear hby k2 k6 hK
    go_wp2_with fail
    go_loopw [3, 4] (fun o i wr => ∃ k : Nat, k ≤ x.entries.length ∧ i = .int .i64 (k : Int) ∧ NewBytes W wr o (P0 ++ (x.entries.take k).flatMap encEntry)) (fun _ i _ => x.entries.length - (intOf i).toNat)
    case atStart => exact ⟨0, by omega, rfl, by simpa using hn_0⟩
    case round =>
      obtain ⟨k, hk, rfl, hn⟩ := hrel
      have K21 := (hn.2.2.cell (p := ⟨w.heap.size, 21, none⟩) hWs).trans C21
      by_cases hlt : k < x.entries.length
      · have hltI : (k : Int) < (x.entries.length : Int) := by omega
        obtain ⟨b2, o2, rfl, hbb, hi⟩ := HL21.out (by omega)
        obtain ⟨es, hes, hae⟩ := hi k x.entries[k] (List.getElem?_eq_getElem hlt)
        have hrange := (hae.fr (Fr.ofBelow hn.2.2)).range
        have hHE := Lib.hid (hes.keep hn.2.2)
        have HIe := Lib.hid (show (Try.prog.info? 34).map (·.size) = some es.length by rw [info34, hes.len])
        have HT := Lib.hid (take_flat encEntry x.entries k hlt)
        have hmem : x.entries[k] ∈ x.entries := List.getElem_mem hlt
        have hl5 := entLenW (qE.out _ hmem)
        have hl6 := flat_take_m encEntry 1000000 k x.entries (fun y hy => entLenW (qE.out y hy))
        clear hi hae hes hmem
        go_wp2_with (refine wpList_load_mid rfl 34 (.tmp 28) rfl b2 (o2 + k * 7) rfl es _ hrange Try.underlying34 rfl HIe.out ?_)
        refine (rEntry_c x.entries[k] es wr hHE.out (by have := (qE.out _ (List.getElem_mem hlt)).1; omega) (by have := (qE.out _ (List.getElem_mem hlt)).2; omega)).mono ?_
        rintro e w5 ⟨v5, rfl, hm5⟩
        have hn5 := hn.keep hm5.2.2
        obtain ⟨A5, c5, rfl, _, _⟩ := hm5.1.form
        clear hrange
        go_wp2_with (at_builtin; go_loud (refine wpList_appB _ rfl (.tmp 24) (.tmp 30) rfl _ (P0 ++ (x.entries.take k).flatMap encEntry) rfl hn5.1 (· < w5.heap.size) A5 c5 (encEntry x.entries[k]) rfl (hm5.1.rd (fun k hk => hm5.1.lt hk)).2 (by unfold Lim; simp only [List.length_append]; omega) ?_); intro v6 w6 hby6 hg6 hat6)
        go_roundw
        case rel =>
          refine ⟨k + 1, by omega, by go_num, ?_⟩
          rw [HT.out, ← List.append_assoc]
          exact hn5.app hby6 hg6 hat6
        case measure => simp [intOf]; omega
      · have hkk : k = x.entries.length := by omega
        subst hkk
        rw [List.take_length] at hn
        have hltI : ¬ ((x.entries.length : Nat) : Int) < (x.entries.length : Int) := by omega
        have hl6 := flat_le_m encEntry 1000000 x.entries (fun y hy => entLenW (qE.out y hy))
        obtain ⟨Q0, hQ0⟩ : ∃ Q, P0 ++ x.entries.flatMap encEntry = Q := ⟨_, rfl⟩
        have hQ0l : Q0.length ≤ 80000000000 := by rw [← hQ0]; simp only [List.length_append]; omega
        rw [hQ0] at hn
        have HQ0 := Lib.hid hQ0
        clear hQ0 hl6
        obtain ⟨Aq, cq, rfl, _, _⟩ := hn.1.form
        have K22 := (hn.2.2.cell (p := ⟨w.heap.size, 22, none⟩) hWs).trans C22
        go_wp2_with fail
        refine (refInt_c (x.rates.length : Int) wr (by omega) (by omega)).mono ?_
        rintro e w7 ⟨v7, rfl, hm7⟩
        have hn7 := hn.keep hm7.2.2
        obtain ⟨A7, c7, rfl, _, _⟩ := hm7.1.form
        have hl8 := enc_len (x.rates.length : Int)
        obtain ⟨P1, hP1⟩ : ∃ P, Q0 ++ enc (x.rates.length : Int) = P := ⟨_, rfl⟩
        have hP1l : P1.length ≤ 80000000100 := by rw [← hP1]; simp only [List.length_append]; omega
        have HP1 := Lib.hid hP1
        clear hP1
        go_wp2_with (at_builtin; go_loud (refine wpList_appB _ rfl (.tmp 32) (.tmp 36) rfl _ Q0 rfl hn7.1 (· < w7.heap.size) A7 c7 (enc (x.rates.length : Int)) rfl (hm7.1.rd (fun k hk => hm7.1.lt hk)).2 (by unfold Lim; omega) ?_); intro v8 w8 hby8 hg8 hat8)
        have hn_1 := hn7.app hby8 hg8 hat8
        rw [HP1.out] at hn_1
        clear hby8
        go_loopw [3, 5] (fun o i wr => ∃ k : Nat, k ≤ x.rates.length ∧ i = .int .i64 (k : Int) ∧ NewBytes W wr o (P1 ++ (x.rates.take k).flatMap encRate)) (fun _ i _ => x.rates.length - (intOf i).toNat)
        case atStart => exact ⟨0, by omega, rfl, by simpa using hn_1⟩
        case round =>
          obtain ⟨k, hk, rfl, hn⟩ := hrel
          have K22 := (hn.2.2.cell (p := ⟨w.heap.size, 22, none⟩) hWs).trans C22
          by_cases hlt : k < x.rates.length
          · have hltI : (k : Int) < (x.rates.length : Int) := by omega
            obtain ⟨b2, o2, rfl, hbb, hi⟩ := HL22.out (by omega)
            obtain ⟨es, hes, hae⟩ := hi k x.rates[k] (List.getElem?_eq_getElem hlt)
            have hrange := (hae.fr (Fr.ofBelow hn.2.2)).range
            have hHE := Lib.hid (hes.keep hn.2.2)
            have HIe := Lib.hid (show (Try.prog.info? 36).map (·.size) = some es.length by rw [info36, hes.len])
            have HT := Lib.hid (take_flat encRate x.rates k hlt)
            have hmem : x.rates[k] ∈ x.rates := List.getElem_mem hlt
            have hl5 := ratLenW (qR.out _ hmem)
            have hl6 := flat_take_m encRate 1000000 k x.rates (fun y hy => ratLenW (qR.out y hy))
            clear hi hae hes hmem
            go_wp2_with (refine wpList_load_mid rfl 36 (.tmp 49) rfl b2 (o2 + k * 4) rfl es _ hrange Try.underlying36 rfl HIe.out ?_)
            refine (rRate_a x.rates[k] es wr hHE.out (by have := qR.out _ (List.getElem_mem hlt); omega)).mono ?_
            rintro e w5 ⟨v5, rfl, hm5⟩
            have hn5 := hn.keep hm5.2.2
            obtain ⟨A5, c5, rfl, _, _⟩ := hm5.1.form
            clear hrange
            go_wp2_with (at_builtin; go_loud (refine wpList_appB _ rfl (.tmp 45) (.tmp 51) rfl _ (P1 ++ (x.rates.take k).flatMap encRate) rfl hn5.1 (· < w5.heap.size) A5 c5 (encRate x.rates[k]) rfl (hm5.1.rd (fun k hk => hm5.1.lt hk)).2 (by unfold Lim; simp only [List.length_append]; omega) ?_); intro v6 w6 hby6 hg6 hat6)
            go_roundw
            case rel =>
              refine ⟨k + 1, by omega, by go_num, ?_⟩
              rw [HT.out, ← List.append_assoc]
              exact hn5.app hby6 hg6 hat6
            case measure => simp [intOf]; omega
          · have hkk : k = x.rates.length := by omega
            subst hkk
            rw [List.take_length] at hn
            have hltI : ¬ ((x.rates.length : Nat) : Int) < (x.rates.length : Int) := by omega
            have hl6 := flat_le_m encRate 1000000 x.rates (fun y hy => ratLenW (qR.out y hy))
            obtain ⟨Q1, hQ1⟩ : ∃ Q, P1 ++ x.rates.flatMap encRate = Q := ⟨_, rfl⟩
            have hQ1l : Q1.length ≤ 110000000000 := by rw [← hQ1]; simp only [List.length_append]; omega
            rw [hQ1] at hn
            have HQ1 := Lib.hid hQ1
            clear hQ1 hl6
            obtain ⟨Aq, cq, rfl, _, _⟩ := hn.1.form
            have K23 := (hn.2.2.cell (p := ⟨w.heap.size, 23, none⟩) hWs).trans C23
            go_wp2_with fail
            refine (refInt_c (x.holdings.length : Int) wr (by omega) (by omega)).mono ?_
            rintro e w7 ⟨v7, rfl, hm7⟩
            have hn7 := hn.keep hm7.2.2
            obtain ⟨A7, c7, rfl, _, _⟩ := hm7.1.form
            have hl8 := enc_len (x.holdings.length : Int)
            obtain ⟨P2, hP2⟩ : ∃ P, Q1 ++ enc (x.holdings.length : Int) = P := ⟨_, rfl⟩
            have hP2l : P2.length ≤ 110000000100 := by rw [← hP2]; simp only [List.length_append]; omega
            have HP2 := Lib.hid hP2
            clear hP2
            go_wp2_with (at_builtin; go_loud (refine wpList_appB _ rfl (.tmp 53) (.tmp 57) rfl _ Q1 rfl hn7.1 (· < w7.heap.size) A7 c7 (enc (x.holdings.length : Int)) rfl (hm7.1.rd (fun k hk => hm7.1.lt hk)).2 (by unfold Lim; omega) ?_); intro v8 w8 hby8 hg8 hat8)
            have hn_2 := hn7.app hby8 hg8 hat8
            rw [HP2.out] at hn_2
            clear hby8
            go_loopw [3, 6] (fun o i wr => ∃ k : Nat, k ≤ x.holdings.length ∧ i = .int .i64 (k : Int) ∧ NewBytes W wr o (P2 ++ (x.holdings.take k).flatMap encHolding)) (fun _ i _ => x.holdings.length - (intOf i).toNat)
            case atStart => exact ⟨0, by omega, rfl, by simpa using hn_2⟩
            case round =>
              obtain ⟨k, hk, rfl, hn⟩ := hrel
              have K23 := (hn.2.2.cell (p := ⟨w.heap.size, 23, none⟩) hWs).trans C23
              by_cases hlt : k < x.holdings.length
              · have hltI : (k : Int) < (x.holdings.length : Int) := by omega
                obtain ⟨b2, o2, rfl, hbb, hi⟩ := HL23.out (by omega)
                obtain ⟨es, hes, hae⟩ := hi k x.holdings[k] (List.getElem?_eq_getElem hlt)
                have hrange := (hae.fr (Fr.ofBelow hn.2.2)).range
                have hHE := Lib.hid (hes.keep hn.2.2)
                have HIe := Lib.hid (show (Try.prog.info? 38).map (·.size) = some es.length by rw [info38, hes.len])
                have HT := Lib.hid (take_flat encHolding x.holdings k hlt)
                have hmem : x.holdings[k] ∈ x.holdings := List.getElem_mem hlt
                have hl5 := encHolding_len x.holdings[k]
                have hl6 := flat_take_m encHolding 40 k x.holdings (fun y hy => encHolding_len y)
                clear hi hae hes hmem
                go_wp2_with (refine wpList_load_mid rfl 38 (.tmp 70) rfl b2 (o2 + k * 4) rfl es _ hrange Try.underlying38 rfl HIe.out ?_)
                refine (rHolding_a x.holdings[k] es wr hHE.out).mono ?_
                rintro e w5 ⟨v5, rfl, hm5⟩
                have hn5 := hn.keep hm5.2.2
                obtain ⟨A5, c5, rfl, _, _⟩ := hm5.1.form
                clear hrange
                go_wp2_with (at_builtin; go_loud (refine wpList_appB _ rfl (.tmp 66) (.tmp 72) rfl _ (P2 ++ (x.holdings.take k).flatMap encHolding) rfl hn5.1 (· < w5.heap.size) A5 c5 (encHolding x.holdings[k]) rfl (hm5.1.rd (fun k hk => hm5.1.lt hk)).2 (by unfold Lim; simp only [List.length_append]; omega) ?_); intro v6 w6 hby6 hg6 hat6)
                go_roundw
                case rel =>
                  refine ⟨k + 1, by omega, by go_num, ?_⟩
                  rw [HT.out, ← List.append_assoc]
                  exact hn5.app hby6 hg6 hat6
                case measure => simp [intOf]; omega
              · have hkk : k = x.holdings.length := by omega
                subst hkk
                rw [List.take_length] at hn
                have hltI : ¬ ((x.holdings.length : Nat) : Int) < (x.holdings.length : Int) := by omega
                have hl6 := flat_le_m encHolding 40 x.holdings (fun y hy => encHolding_len y)
                obtain ⟨Q2, hQ2⟩ : ∃ Q, P2 ++ x.holdings.flatMap encHolding = Q := ⟨_, rfl⟩
                have hQ2l : Q2.length ≤ 140000000000 := by rw [← hQ2]; simp only [List.length_append]; omega
                rw [hQ2] at hn
                have HQ2 := Lib.hid hQ2
                clear hQ2 hl6
                obtain ⟨Aq, cq, rfl, _, _⟩ := hn.1.form
                have K24 := (hn.2.2.cell (p := ⟨w.heap.size, 24, none⟩) hWs).trans C24
                go_wp2_with fail
                refine (refInt_c (x.matches_.length : Int) wr (by omega) (by omega)).mono ?_
                rintro e w7 ⟨v7, rfl, hm7⟩
                have hn7 := hn.keep hm7.2.2
                obtain ⟨A7, c7, rfl, _, _⟩ := hm7.1.form
                have hl8 := enc_len (x.matches_.length : Int)
                obtain ⟨P3, hP3⟩ : ∃ P, Q2 ++ enc (x.matches_.length : Int) = P := ⟨_, rfl⟩
                have hP3l : P3.length ≤ 140000000100 := by rw [← hP3]; simp only [List.length_append]; omega
                have HP3 := Lib.hid hP3
                clear hP3
                go_wp2_with (at_builtin; go_loud (refine wpList_appB _ rfl (.tmp 74) (.tmp 78) rfl _ Q2 rfl hn7.1 (· < w7.heap.size) A7 c7 (enc (x.matches_.length : Int)) rfl (hm7.1.rd (fun k hk => hm7.1.lt hk)).2 (by unfold Lim; omega) ?_); intro v8 w8 hby8 hg8 hat8)
                have hn_3 := hn7.app hby8 hg8 hat8
                rw [HP3.out] at hn_3
                clear hby8
                go_loopw [3, 7] (fun o i wr => ∃ k : Nat, k ≤ x.matches_.length ∧ i = .int .i64 (k : Int) ∧ NewBytes W wr o (P3 ++ (x.matches_.take k).flatMap encMatch)) (fun _ i _ => x.matches_.length - (intOf i).toNat)
                case atStart => exact ⟨0, by omega, rfl, by simpa using hn_3⟩
                case round =>
                  obtain ⟨k, hk, rfl, hn⟩ := hrel
                  have K24 := (hn.2.2.cell (p := ⟨w.heap.size, 24, none⟩) hWs).trans C24
                  by_cases hlt : k < x.matches_.length
                  · have hltI : (k : Int) < (x.matches_.length : Int) := by omega
                    obtain ⟨b2, o2, rfl, hbb, hi⟩ := HL24.out (by omega)
                    obtain ⟨es, hes, hae⟩ := hi k x.matches_[k] (List.getElem?_eq_getElem hlt)
                    have hrange := (hae.fr (Fr.ofBelow hn.2.2)).range
                    have hHE := Lib.hid (hes.keep hn.2.2)
                    have HIe := Lib.hid (show (Try.prog.info? 41).map (·.size) = some es.length by rw [info41, hes.len])
                    have HT := Lib.hid (take_flat encMatch x.matches_ k hlt)
                    have hmem : x.matches_[k] ∈ x.matches_ := List.getElem_mem hlt
                    have hl5 := matLenW (qM.out _ hmem)
                    have hl6 := flat_take_m encMatch 1000000 k x.matches_ (fun y hy => matLenW (qM.out y hy))
                    clear hi hae hes hmem
                    go_wp2_with (refine wpList_load_mid rfl 41 (.tmp 91) rfl b2 (o2 + k * 4) rfl es _ hrange Try.underlying41 rfl HIe.out ?_)
                    refine (rMatch_c x.matches_[k] es wr hHE.out (by have := (qM.out _ (List.getElem_mem hlt)).1; omega) (by have := (qM.out _ (List.getElem_mem hlt)).2; omega)).mono ?_
                    rintro e w5 ⟨v5, rfl, hm5⟩
                    have hn5 := hn.keep hm5.2.2
                    obtain ⟨A5, c5, rfl, _, _⟩ := hm5.1.form
                    clear hrange
                    go_wp2_with (at_builtin; go_loud (refine wpList_appB _ rfl (.tmp 87) (.tmp 93) rfl _ (P3 ++ (x.matches_.take k).flatMap encMatch) rfl hn5.1 (· < w5.heap.size) A5 c5 (encMatch x.matches_[k]) rfl (hm5.1.rd (fun k hk => hm5.1.lt hk)).2 (by unfold Lim; simp only [List.length_append]; omega) ?_); intro v6 w6 hby6 hg6 hat6)
                    go_roundw
                    case rel =>
                      refine ⟨k + 1, by omega, by go_num, ?_⟩
                      rw [HT.out, ← List.append_assoc]
                      exact hn5.app hby6 hg6 hat6
                    case measure => simp [intOf]; omega
                  · have hkk : k = x.matches_.length := by omega
                    subst hkk
                    rw [List.take_length] at hn
                    have hltI : ¬ ((x.matches_.length : Nat) : Int) < (x.matches_.length : Int) := by omega
                    have hl6 := flat_le_m encMatch 1000000 x.matches_ (fun y hy => matLenW (qM.out y hy))
                    obtain ⟨Q3, hQ3⟩ : ∃ Q, P3 ++ x.matches_.flatMap encMatch = Q := ⟨_, rfl⟩
                    have hQ3l : Q3.length ≤ 170000000000 := by rw [← hQ3]; simp only [List.length_append]; omega
                    rw [hQ3] at hn
                    have HQ3 := Lib.hid hQ3
                    clear hQ3 hl6
                    obtain ⟨Aq, cq, rfl, _, _⟩ := hn.1.form
                    have K25 := (hn.2.2.cell (p := ⟨w.heap.size, 25, none⟩) hWs).trans C25
                    go_wp2_with fail
                    refine (refInt_c (x.stocks.length : Int) wr (by omega) (by omega)).mono ?_
                    rintro e w7 ⟨v7, rfl, hm7⟩
                    have hn7 := hn.keep hm7.2.2
                    obtain ⟨A7, c7, rfl, _, _⟩ := hm7.1.form
                    have hl8 := enc_len (x.stocks.length : Int)
                    obtain ⟨P4, hP4⟩ : ∃ P, Q3 ++ enc (x.stocks.length : Int) = P := ⟨_, rfl⟩
                    have hP4l : P4.length ≤ 170000000100 := by rw [← hP4]; simp only [List.length_append]; omega
                    have HP4 := Lib.hid hP4
                    clear hP4
                    go_wp2_with (at_builtin; go_loud (refine wpList_appB _ rfl (.tmp 95) (.tmp 99) rfl _ Q3 rfl hn7.1 (· < w7.heap.size) A7 c7 (enc (x.stocks.length : Int)) rfl (hm7.1.rd (fun k hk => hm7.1.lt hk)).2 (by unfold Lim; omega) ?_); intro v8 w8 hby8 hg8 hat8)
                    have hn_4 := hn7.app hby8 hg8 hat8
                    rw [HP4.out] at hn_4
                    clear hby8
                    go_loopw [3, 8] (fun o i wr => ∃ k : Nat, k ≤ x.stocks.length ∧ i = .int .i64 (k : Int) ∧ NewBytes W wr o (P4 ++ (x.stocks.take k).flatMap encStock)) (fun _ i _ => x.stocks.length - (intOf i).toNat)
                    case atStart => exact ⟨0, by omega, rfl, by simpa using hn_4⟩
                    case round =>
                      obtain ⟨k, hk, rfl, hn⟩ := hrel
                      have K25 := (hn.2.2.cell (p := ⟨w.heap.size, 25, none⟩) hWs).trans C25
                      by_cases hlt : k < x.stocks.length
                      · have hltI : (k : Int) < (x.stocks.length : Int) := by omega
                        obtain ⟨b2, o2, rfl, hbb, hi⟩ := HL25.out (by omega)
                        obtain ⟨es, hes, hae⟩ := hi k x.stocks[k] (List.getElem?_eq_getElem hlt)
                        have hrange := (hae.fr (Fr.ofBelow hn.2.2)).range
                        have hHE := Lib.hid (hes.keep hn.2.2)
                        have HIe := Lib.hid (show (Try.prog.info? 43).map (·.size) = some es.length by rw [info43, hes.len])
                        have HT := Lib.hid (take_flat encStock x.stocks k hlt)
                        have hmem : x.stocks[k] ∈ x.stocks := List.getElem_mem hlt
                        have hl5 := encStock_len x.stocks[k]
                        have hl6 := flat_take_m encStock 50 k x.stocks (fun y hy => encStock_len y)
                        clear hi hae hes hmem
                        go_wp2_with (refine wpList_load_mid rfl 43 (.tmp 112) rfl b2 (o2 + k * 5) rfl es _ hrange Try.underlying43 rfl HIe.out ?_)
                        refine (rStock_a x.stocks[k] es wr hHE.out).mono ?_
                        rintro e w5 ⟨v5, rfl, hm5⟩
                        have hn5 := hn.keep hm5.2.2
                        obtain ⟨A5, c5, rfl, _, _⟩ := hm5.1.form
                        clear hrange
                        go_wp2_with (at_builtin; go_loud (refine wpList_appB _ rfl (.tmp 108) (.tmp 114) rfl _ (P4 ++ (x.stocks.take k).flatMap encStock) rfl hn5.1 (· < w5.heap.size) A5 c5 (encStock x.stocks[k]) rfl (hm5.1.rd (fun k hk => hm5.1.lt hk)).2 (by unfold Lim; simp only [List.length_append]; omega) ?_); intro v6 w6 hby6 hg6 hat6)
                        go_roundw
                        case rel =>
                          refine ⟨k + 1, by omega, by go_num, ?_⟩
                          rw [HT.out, ← List.append_assoc]
                          exact hn5.app hby6 hg6 hat6
                        case measure => simp [intOf]; omega
                      · have hkk : k = x.stocks.length := by omega
                        subst hkk
                        rw [List.take_length] at hn
                        have hltI : ¬ ((x.stocks.length : Nat) : Int) < (x.stocks.length : Int) := by omega
                        have hl6 := flat_le_m encStock 50 x.stocks (fun y hy => encStock_len y)
                        obtain ⟨Q4, hQ4⟩ : ∃ Q, P4 ++ x.stocks.flatMap encStock = Q := ⟨_, rfl⟩
                        have hQ4l : Q4.length ≤ 200000000000 := by rw [← hQ4]; simp only [List.length_append]; omega
                        rw [hQ4] at hn
                        have HQ4 := Lib.hid hQ4
                        clear hQ4 hl6
                        obtain ⟨Aq, cq, rfl, _, _⟩ := hn.1.form
                        have K26 := (hn.2.2.cell (p := ⟨w.heap.size, 26, none⟩) hWs).trans C26
                        go_wp2_with fail
                        refine (text_c x.rules wr (by omega)).mono ?_
                        rintro e w7 ⟨v7, rfl, hm7⟩
                        have hn7 := hn.keep hm7.2.2
                        obtain ⟨A7, c7, rfl, _, _⟩ := hm7.1.form
                        have hl8 := encS_len x.rules
                        go_wp2_with (at_builtin; go_loud (refine wpList_appB _ rfl (.tmp 116) (.tmp 119) rfl _ Q4 rfl hn7.1 (· < w7.heap.size) A7 c7 (encS x.rules) rfl (hm7.1.rd (fun k hk => hm7.1.lt hk)).2 (by unfold Lim; omega) ?_); intro v8 w8 hby8 hg8 hat8)
                        go_ret
                        have e : encBooks x = Q4 ++ encS x.rules := by
                          rw [← HQ4.out, ← HP4.out, ← HQ3.out, ← HP3.out, ← HQ2.out, ← HP2.out, ← HQ1.out, ← HP1.out, ← HQ0.out, ← HP0.out]
                          simp only [encBooks, encL, List.append_assoc]
                        rw [e]
                        exact NewP.below ⟨_, rfl, hn7.app hby8 hg8 hat8⟩ hbW
set_option maxHeartbeats 2000000 in
set_option maxRecDepth 100000 in
theorem rSameBooksW_c (x y : XBooks) (cx cy : List Value) (w : World) (hx : BooksC w (· < w.heap.size) cx x) (hy : BooksC w (· < w.heap.size) cy y) (hfx : FewBksW x) (hfy : FewBksW y) :
    Calls Try.prog 29 #[.agg cx.toArray, .agg cy.toArray] w fun e w' => e = .returned (.bool (decide (encBooks x = encBooks y))) ∧ Below w.heap.size w w' := by
  have HX := Lib.hid hx
  have HY := Lib.hid hy
  clear hx hy
  go_enter Try.func29, Try.ntmps29
  go_wp2_with fail
  have h2 := heap2 w (.cells cx.toArray 67) (.cells cy.toArray 67)
  generalize hW : (w.alloc (Obj.cells cx.toArray 67)).alloc (Obj.cells cy.toArray 67) = W at *
  obtain ⟨H0, H1, HS, HF⟩ := h2
  have hbW : Below w.heap.size w W := HF.below
  have hWs : w.heap.size + 1 < W.heap.size := by omega
  clear hW HF
  have EX := Lib.hid (HX.out.keep hbW)
  have EY := Lib.hid (HY.out.keep hbW)
  have RX := Lib.hid (box_at H0)
  have RY := Lib.hid (box_at H1)
  clear H0 H1 HS
  refine wp_region_inv (Ks W [.val (.agg cx.toArray), .row (encBooks x), .val (.string (bstr (encBooks x))), .val (.agg cy.toArray), .row (encBooks y), .val (.string (bstr (encBooks y))), .val (.bool (decide (encBooks x = encBooks y))), .val (.bool (decide (encBooks x = encBooks y)))])
    (fun w' => Below W.heap.size W w') (by kernel_rfl) (by kernel_rfl) (by kernel_rfl) (Below.refl _ _).drew ?_ ?_
  · refine ⟨?_, ?_, ?_, ?_, ?_, ?_, ?_, ?_, trivial⟩
    · intro listed A0 w2 hI hd hnd K hK
      have e0 := hI.slot hnd 2 _ rfl (by kernel_rfl)
      have hS := hI.world
      have hrange := (RX.out.fr (Fr.ofBelow hS)).range
      have hisize : (Try.prog.info? 67).map (·.size) = some cx.length := by rw [info67, (EX.out).len]
      refine wanted_go rfl ?_
      clear hI hd hnd
      refine wp_load_mid 67 (.tmp 2) rfl _ _ (by simpa [Act.eval, Array.getD_eq_getD_getElem?] using e0) _ _ hrange Try.underlying67 rfl hisize ?_
      exact hK.out _ _ hS (Ks.of rfl rfl) (fun _ _ h => h)
    · intro listed A0 w2 hI hd hnd K hK
      have e0 := hI.depv hd 0 5 _ rfl rfl rfl (by kernel_rfl)
      have hS := hI.world
      refine wanted_go rfl ?_
      clear hI hd hnd
      go_simp
      go_at_call 55
      refine (rBooksW_c x cx w2 (EX.out.keep hS) hfx).mono ?_
      rintro e w3 hP
      obtain ⟨v, rfl, h1, h2, h3⟩ := NewP.from hP hS
      exact hK.out _ _ h1 (Ks.of rfl h2) (Ks.keep h3)
    · intro listed A0 w2 hI hd hnd K hK
      obtain ⟨x0, e0, h0⟩ := hI.dep hd 1 6 rfl rfl rfl (by kernel_rfl)
      have hS := hI.world
      obtain ⟨Ab, cb, rfl, _, _⟩ := h0.1.form
      have hcv : (convert 22 9 (.slice Ab (encBooks x).length cb)).run Try.prog w2 = .ok (.string (bstr (encBooks x))) w2 := run_str (h0.1.rd (fun k hk => h0.1.lt hk)).2
      clear h0
      refine wanted_go rfl ?_
      clear hI hd hnd
      go_simp
      exact hK.out _ _ hS (Ks.of rfl rfl) (fun _ _ h => h)
    · intro listed A0 w2 hI hd hnd K hK
      have e0 := hI.slot hnd 3 _ rfl (by kernel_rfl)
      have hS := hI.world
      have hrange := (RY.out.fr (Fr.ofBelow hS)).range
      have hisize : (Try.prog.info? 67).map (·.size) = some cy.length := by rw [info67, (EY.out).len]
      refine wanted_go rfl ?_
      clear hI hd hnd
      refine wp_load_mid 67 (.tmp 3) rfl _ _ (by simpa [Act.eval, Array.getD_eq_getD_getElem?] using e0) _ _ hrange Try.underlying67 rfl hisize ?_
      exact hK.out _ _ hS (Ks.of rfl rfl) (fun _ _ h => h)
    · intro listed A0 w2 hI hd hnd K hK
      have e0 := hI.depv hd 3 8 _ rfl rfl rfl (by kernel_rfl)
      have hS := hI.world
      refine wanted_go rfl ?_
      clear hI hd hnd
      go_simp
      go_at_call 55
      refine (rBooksW_c y cy w2 (EY.out.keep hS) hfy).mono ?_
      rintro e w3 hP
      obtain ⟨v, rfl, h1, h2, h3⟩ := NewP.from hP hS
      exact hK.out _ _ h1 (Ks.of rfl h2) (Ks.keep h3)
    · intro listed A0 w2 hI hd hnd K hK
      obtain ⟨x0, e0, h0⟩ := hI.dep hd 4 9 rfl rfl rfl (by kernel_rfl)
      have hS := hI.world
      obtain ⟨Ab, cb, rfl, _, _⟩ := h0.1.form
      have hcv : (convert 22 9 (.slice Ab (encBooks y).length cb)).run Try.prog w2 = .ok (.string (bstr (encBooks y))) w2 := run_str (h0.1.rd (fun k hk => h0.1.lt hk)).2
      clear h0
      refine wanted_go rfl ?_
      clear hI hd hnd
      go_simp
      exact hK.out _ _ hS (Ks.of rfl rfl) (fun _ _ h => h)
    · intro listed A0 w2 hI hd hnd K hK
      have e0 := hI.depv hd 2 7 _ rfl rfl rfl (by kernel_rfl)
      have e1 := hI.depv hd 5 10 _ rfl rfl rfl (by kernel_rfl)
      have hS := hI.world
      have hbe : ((bstr (encBooks x)).toList == (bstr (encBooks y)).toList) = decide (encBooks x = encBooks y) := bstr_beq _ _
      refine wanted_go rfl ?_
      clear hI hd hnd
      go_simp
      exact hK.out _ _ hS (Ks.of rfl rfl) (fun _ _ h => h)
    · intro listed A0 w2 hI hd hnd K hK
      have e0 := hI.depv hd 6 11 _ rfl rfl rfl (by kernel_rfl)
      have hS := hI.world
      refine wanted_go rfl ?_
      clear hI hd hnd
      go_simp
      exact hK.out _ _ hS (Ks.of rfl rfl) (fun _ _ h => h)
  · intro listed A0 w2 hI hall
    obtain ⟨x0, g0, h0⟩ := hI.got 0 _ 5 rfl rfl (hall 0 (by decide))
    obtain ⟨x1, g1, h1⟩ := hI.got 1 _ 6 rfl rfl (hall 1 (by decide))
    obtain ⟨x2, g2, h2⟩ := hI.got 2 _ 7 rfl rfl (hall 2 (by decide))
    obtain ⟨x3, g3, h3⟩ := hI.got 3 _ 8 rfl rfl (hall 3 (by decide))
    obtain ⟨x4, g4, h4⟩ := hI.got 4 _ 9 rfl rfl (hall 4 (by decide))
    obtain ⟨x5, g5, h5⟩ := hI.got 5 _ 10 rfl rfl (hall 5 (by decide))
    obtain ⟨x6, g6, h6⟩ := hI.got 6 _ 11 rfl rfl (hall 6 (by decide))
    obtain ⟨x7, g7, h7⟩ := hI.got 7 _ 4 rfl rfl (hall 7 (by decide))
    have hS := hI.world
    have hA : A0 = _ := hI.tmps [(5, x0), (6, x1), (7, x2), (8, x3), (9, x4), (10, x5), (11, x6), (4, x7)] (by simp only [List.mem_cons, List.not_mem_nil, or_false, forall_eq_or_imp, forall_eq]; exact ⟨g0, g1, g2, g3, g4, g5, g6, g7⟩) (by kernel_rfl)
    obtain rfl : x7 = .bool (decide (encBooks x = encBooks y)) := h7 _ rfl
    clear h0 g0 h1 g1 h2 g2 h3 g3 h4 g4 h5 g5 h6 g6 h7 g7 hI hall
    simp only [setAll, List.foldl, List.setIfInBounds_toArray, List.set_cons_zero, List.set_cons_succ] at hA
    rw [hA]
    clear hA
    go_wp2_with fail
    go_ret
    exact ⟨rfl, hbW.trans (hS.mono hbW.size)⟩

theorem encL_mem {α : Type} {f : α → List UInt8} {x : α} {l : List α} (h : x ∈ l) : (f x).length ≤ (encL f l).length := by
  have : (f x).length ≤ (l.flatMap f).length := by
    induction l with
    | nil => cases h
    | cons a l ih =>
      simp only [List.flatMap_cons, List.length_append]
      rcases List.mem_cons.1 h with rfl | h
      · omega
      · have := ih h; omega
  unfold encL
  simp only [List.length_append]
  omega
theorem encL_lenW {α : Type} {f : α → List UInt8} (hf : ∀ x, 1 ≤ (f x).length) (l : List α) : l.length ≤ (encL f l).length := by
  have := flat_le f hf l
  unfold encL
  simp only [List.length_append]
  omega
theorem encS_lenW (s : ByteArray) : s.size ≤ (encS s).length := by
  have := sb_length s
  unfold encS
  simp only [List.length_append]
  omega
theorem fewBksW_of {x : XBooks} (h : (encBooks x).length ≤ 20000) : FewBksW x := by
  simp only [encBooks, encGroup, List.length_append] at h
  have h1 := encS_lenW x.group.currency
  have h2 := encL_lenW encAccount_pos x.group.chart
  have h3 := encL_lenW encEntity_pos x.group.entities
  have h4 := encL_lenW encEntry_pos x.entries
  have h5 := encL_lenW encRate_pos x.rates
  have h6 := encL_lenW encHolding_pos x.holdings
  have h7 := encL_lenW encMatch_pos x.matches_
  have h8 := encL_lenW encStock_pos x.stocks
  have h9 := encS_lenW x.rules
  refine ⟨⟨by omega, by omega, by omega, fun y hy => ?_⟩, by omega, by omega, by omega, by omega, by omega, by omega, fun y hy => ?_, fun y hy => ?_, fun y hy => ?_⟩
  · have k := encL_mem (f := encEntity) hy
    have k1 := encS_lenW y.name
    have k2 := encS_lenW y.currency
    have k3 := encL_lenW encAccount_pos y.chart
    have k4 := encL_lenW encLink_pos y.links
    simp only [encEntity, List.length_append] at k
    exact ⟨by omega, by omega, by omega, by omega⟩
  · have k := encL_mem (f := encEntry) hy
    have k1 := encS_lenW y.text
    have k2 := encL_lenW encLine_pos y.lines
    simp only [encEntry, List.length_append] at k
    exact ⟨by omega, by omega⟩
  · have k := encL_mem (f := encRate) hy
    have k1 := encS_lenW y.currency
    simp only [encRate, List.length_append] at k
    omega
  · have k := encL_mem (f := encMatch) hy
    have k1 := encL_lenW encRef_pos y.left
    have k2 := encL_lenW encRef_pos y.right
    simp only [encMatch, List.length_append] at k
    exact ⟨by omega, by omega⟩
theorem fewBksWZ : FewBksW {} := fewBksW_of (by decide +kernel)
end
end Go.Proofs.Ytgdibeegheddmaa
