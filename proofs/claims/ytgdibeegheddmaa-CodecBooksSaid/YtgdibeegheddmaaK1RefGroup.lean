/- The reference writer of groups. Written by gen_k1.py. -/
import Derived.Test.YtgdibeegheddmaaJ1EventsWalk
namespace Go.Proofs.Ytgdibeegheddmaa
open Go Go.RowKit
set_option linter.unusedVariables false
set_option linter.unusedSimpArgs false
attribute [local go_sem ↓] Go.wp_at_zero Go.wp_at_succ
theorem flat_le_m {α : Type} (g : α → List UInt8) (n : Nat) : ∀ l : List α, (∀ x ∈ l, (g x).length ≤ n) → (l.flatMap g).length ≤ n * l.length
  | [], _ => by simp
  | x :: l, h => by
    have h1 := flat_le_m g n l (fun y hy => h y (List.mem_cons_of_mem _ hy))
    have h2 := h x List.mem_cons_self
    simp only [List.flatMap_cons, List.length_append, List.length_cons, Nat.mul_add]
    omega
theorem flat_take_m {α : Type} (g : α → List UInt8) (n k : Nat) (l : List α) (h : ∀ x ∈ l, (g x).length ≤ n) : ((l.take k).flatMap g).length ≤ n * l.length :=
  Nat.le_trans (flat_take_le g l k) (flat_le_m g n l h)
theorem take_flat {α : Type} (g : α → List UInt8) (l : List α) (k : Nat) (h : k < l.length) : (l.take (k + 1)).flatMap g = (l.take k).flatMap g ++ g l[k] := by
  rw [List.take_succ_eq_append_getElem h, List.flatMap_append]; simp only [List.flatMap_cons, List.flatMap_nil, List.append_nil]
theorem encAccount_len (x : XAccount) : (encAccount x).length ≤ 40 := by
  have := enc_len x.code; have := enc_len x.kind; have := enc_len x.basis; have := enc_len x.parent; simp only [encAccount, List.length_append]; omega
theorem encLink_len (x : XLink) : (encLink x).length ≤ 30 := by
  have := enc_len x.from_; have := enc_len x.2; have := enc_len x.since; simp only [encLink, List.length_append]; omega
theorem encB_len (b : Bool) : (encB b).length ≤ 10 := enc_len _
theorem rFlag_c (b : Bool) (w : World) : Calls Try.prog 90 #[.bool b] w (NewP w (encB b)) := by
  cases b
  · go_enter Try.func90, Try.ntmps90
    go_wp2_with fail
    refine (refInt_c 0 w (by omega) (by omega)).mono ?_
    rintro e w1 ⟨v1, rfl, hn1⟩
    go_wp2_with fail
    go_ret
    exact ⟨_, rfl, hn1⟩
  · go_enter Try.func90, Try.ntmps90
    go_wp2_with fail
    refine (refInt_c 1 w (by omega) (by omega)).mono ?_
    rintro e w1 ⟨v1, rfl, hn1⟩
    go_wp2_with fail
    go_ret
    exact ⟨_, rfl, hn1⟩
set_option maxRecDepth 100000 in
theorem rAccounts_c (A : Option Addr) (c : Nat) (xs : List XAccount) (w : World) (hx : ListC AccountC 4 w (· < w.heap.size) [.slice A xs.length c] xs) (hl : xs.length ≤ 1000000000) :
    Calls Try.prog 84 #[.slice A xs.length c] w (NewP w (encL encAccount xs)) := by
  obtain ⟨A', c', e, _, _, hel⟩ := hx
  simp only [List.cons.injEq, and_true, Value.slice.injEq, true_and] at e
  obtain ⟨rfl, rfl⟩ := e
  go_enter Try.func84, Try.ntmps84
  go_wp2_with fail
  refine (refInt_c (xs.length : Int) _ (by omega) (by omega)).mono ?_
  rintro e w1 ⟨v1, rfl, hn1⟩
  have hl2 := enc_len (xs.length : Int)
  go_wp2_with fail
  go_loopw [3, 4] (fun o i wr => ∃ k : Nat, k ≤ xs.length ∧ i = .int .i64 (k : Int) ∧ NewBytes w wr o (enc xs.length ++ (xs.take k).flatMap encAccount)) (fun _ i _ => xs.length - (intOf i).toNat)
  case atStart => exact ⟨0, by omega, rfl, by simpa using hn1⟩
  case round =>
    obtain ⟨k, hk, rfl, hn⟩ := hrel
    by_cases hlt : k < xs.length
    · have hltI : (k : Int) < (xs.length : Int) := by omega
      obtain ⟨b2, o2, rfl, hb2', hi⟩ := hel (by omega)
      obtain ⟨es, ⟨d0, d1, d2, d3, rfl, ⟨rfl, hq0⟩, ⟨rfl, hq1⟩, ⟨rfl, hq2⟩, ⟨rfl, hq3⟩⟩, hae⟩ := hi k xs[k] (List.getElem?_eq_getElem hlt)
      have hae2 := hae.fr (Fr.ofBelow hn.2.2)
      have k0 := hae2.c (j := 0) rfl
      have k1 := hae2.c (j := 1) rfl
      have k2 := hae2.c (j := 2) rfl
      have k3 := hae2.c (j := 3) rfl
      have HT := Lib.hid (take_flat encAccount xs k hlt)
      clear hae hi hel
      go_wp2_with fail
      have hb3 : b2 < wr.heap.size := by have := hn.2.2.size; omega
      refine wp_region_inv2 23 (Ks wr [.val (u3), .val (.slice (some ⟨b2, o2, none⟩) xs.length c), .val (.int .i64 (k : Int)), .val (.pointer (some ⟨b2, o2 + k * 4, none⟩)), .val (.pointer (some ⟨b2, o2 + k * 4, none⟩)), .val (.int .i64 xs[k].code), .val (.slice (some ⟨b2, o2, none⟩) xs.length c), .val (.int .i64 (k : Int)), .val (.pointer (some ⟨b2, o2 + k * 4, none⟩)), .val (.pointer (some ⟨b2, o2 + k * 4 + 1, none⟩)), .val (.int .i64 xs[k].kind), .val (.slice (some ⟨b2, o2, none⟩) xs.length c), .val (.int .i64 (k : Int)), .val (.pointer (some ⟨b2, o2 + k * 4, none⟩)), .val (.pointer (some ⟨b2, o2 + k * 4 + 2, none⟩)), .val (.int .i64 xs[k].basis), .val (.slice (some ⟨b2, o2, none⟩) xs.length c), .val (.int .i64 (k : Int)), .val (.pointer (some ⟨b2, o2 + k * 4, none⟩)), .val (.pointer (some ⟨b2, o2 + k * 4 + 3, none⟩)), .val (.int .i64 xs[k].parent), .ints [xs[k].code, xs[k].kind, xs[k].basis, xs[k].parent], .row (encAccount xs[k])])
        (fun w' => Below wr.heap.size wr w') (by kernel_rfl) (by kernel_rfl) (by kernel_rfl) (by decide) (by kernel_rfl) (by kernel_rfl) (Below.refl _ _).drew ?_ ?_
      · refine ⟨?_, ?_, ?_, ?_, ?_, ?_, ?_, ?_, ?_, ?_, ?_, ?_, ?_, ?_, ?_, ?_, ?_, ?_, ?_, ?_, ?_, ?_, ?_, trivial⟩
        · intro listed A0 w2 hI hd hnd K hK
          have e0 := hI.slot hnd 3 _ rfl (by kernel_rfl)
          have hS := hI.world
          refine wanted_go rfl ?_
          clear hI hd hnd
          go_simp
          exact hK.out _ _ hS (Ks.of rfl rfl) (fun _ _ h => h)
        · intro listed A0 w2 hI hd hnd K hK
          have e0 := hI.slot hnd 0 _ rfl (by kernel_rfl)
          have hS := hI.world
          refine wanted_go rfl ?_
          clear hI hd hnd
          go_simp
          exact hK.out _ _ hS (Ks.of rfl rfl) (fun _ _ h => h)
        · intro listed A0 w2 hI hd hnd K hK
          have e0 := hI.slot hnd 4 _ rfl (by kernel_rfl)
          have hS := hI.world
          refine wanted_go rfl ?_
          clear hI hd hnd
          go_simp
          exact hK.out _ _ hS (Ks.of rfl rfl) (fun _ _ h => h)
        · intro listed A0 w2 hI hd hnd K hK
          have e0 := hI.depv hd 1 15 _ rfl rfl rfl (by kernel_rfl)
          have e1 := hI.depv hd 2 16 _ rfl rfl rfl (by kernel_rfl)
          have hS := hI.world
          refine wanted_go rfl ?_
          clear hI hd hnd
          go_simp
          exact hK.out _ _ hS (Ks.of rfl rfl) (fun _ _ h => h)
        · intro listed A0 w2 hI hd hnd K hK
          have e0 := hI.depv hd 3 17 _ rfl rfl rfl (by kernel_rfl)
          have hS := hI.world
          refine wanted_go rfl ?_
          clear hI hd hnd
          go_simp
          exact hK.out _ _ hS (Ks.of rfl rfl) (fun _ _ h => h)
        · intro listed A0 w2 hI hd hnd K hK
          have e0 := hI.depv hd 4 18 _ rfl rfl rfl (by kernel_rfl)
          have hS := hI.world
          have hcc : w2.cell? ⟨b2, o2 + k * 4, none⟩ = _ := (hS.cell (p := ⟨b2, o2 + k * 4, none⟩) hb3).trans k0
          refine wanted_go rfl ?_
          clear hI hd hnd
          go_simp
          exact hK.out _ _ hS (Ks.of rfl rfl) (fun _ _ h => h)
        · intro listed A0 w2 hI hd hnd K hK
          have e0 := hI.slot hnd 0 _ rfl (by kernel_rfl)
          have hS := hI.world
          refine wanted_go rfl ?_
          clear hI hd hnd
          go_simp
          exact hK.out _ _ hS (Ks.of rfl rfl) (fun _ _ h => h)
        · intro listed A0 w2 hI hd hnd K hK
          have e0 := hI.slot hnd 4 _ rfl (by kernel_rfl)
          have hS := hI.world
          refine wanted_go rfl ?_
          clear hI hd hnd
          go_simp
          exact hK.out _ _ hS (Ks.of rfl rfl) (fun _ _ h => h)
        · intro listed A0 w2 hI hd hnd K hK
          have e0 := hI.depv hd 6 20 _ rfl rfl rfl (by kernel_rfl)
          have e1 := hI.depv hd 7 21 _ rfl rfl rfl (by kernel_rfl)
          have hS := hI.world
          refine wanted_go rfl ?_
          clear hI hd hnd
          go_simp
          exact hK.out _ _ hS (Ks.of rfl rfl) (fun _ _ h => h)
        · intro listed A0 w2 hI hd hnd K hK
          have e0 := hI.depv hd 8 22 _ rfl rfl rfl (by kernel_rfl)
          have hS := hI.world
          refine wanted_go rfl ?_
          clear hI hd hnd
          go_simp
          exact hK.out _ _ hS (Ks.of rfl rfl) (fun _ _ h => h)
        · intro listed A0 w2 hI hd hnd K hK
          have e0 := hI.depv hd 9 23 _ rfl rfl rfl (by kernel_rfl)
          have hS := hI.world
          have hcc : w2.cell? ⟨b2, o2 + k * 4 + 1, none⟩ = _ := (hS.cell (p := ⟨b2, o2 + k * 4 + 1, none⟩) hb3).trans k1
          refine wanted_go rfl ?_
          clear hI hd hnd
          go_simp
          exact hK.out _ _ hS (Ks.of rfl rfl) (fun _ _ h => h)
        · intro listed A0 w2 hI hd hnd K hK
          have e0 := hI.slot hnd 0 _ rfl (by kernel_rfl)
          have hS := hI.world
          refine wanted_go rfl ?_
          clear hI hd hnd
          go_simp
          exact hK.out _ _ hS (Ks.of rfl rfl) (fun _ _ h => h)
        · intro listed A0 w2 hI hd hnd K hK
          have e0 := hI.slot hnd 4 _ rfl (by kernel_rfl)
          have hS := hI.world
          refine wanted_go rfl ?_
          clear hI hd hnd
          go_simp
          exact hK.out _ _ hS (Ks.of rfl rfl) (fun _ _ h => h)
        · intro listed A0 w2 hI hd hnd K hK
          have e0 := hI.depv hd 11 25 _ rfl rfl rfl (by kernel_rfl)
          have e1 := hI.depv hd 12 26 _ rfl rfl rfl (by kernel_rfl)
          have hS := hI.world
          refine wanted_go rfl ?_
          clear hI hd hnd
          go_simp
          exact hK.out _ _ hS (Ks.of rfl rfl) (fun _ _ h => h)
        · intro listed A0 w2 hI hd hnd K hK
          have e0 := hI.depv hd 13 27 _ rfl rfl rfl (by kernel_rfl)
          have hS := hI.world
          refine wanted_go rfl ?_
          clear hI hd hnd
          go_simp
          exact hK.out _ _ hS (Ks.of rfl rfl) (fun _ _ h => h)
        · intro listed A0 w2 hI hd hnd K hK
          have e0 := hI.depv hd 14 28 _ rfl rfl rfl (by kernel_rfl)
          have hS := hI.world
          have hcc : w2.cell? ⟨b2, o2 + k * 4 + 2, none⟩ = _ := (hS.cell (p := ⟨b2, o2 + k * 4 + 2, none⟩) hb3).trans k2
          refine wanted_go rfl ?_
          clear hI hd hnd
          go_simp
          exact hK.out _ _ hS (Ks.of rfl rfl) (fun _ _ h => h)
        · intro listed A0 w2 hI hd hnd K hK
          have e0 := hI.slot hnd 0 _ rfl (by kernel_rfl)
          have hS := hI.world
          refine wanted_go rfl ?_
          clear hI hd hnd
          go_simp
          exact hK.out _ _ hS (Ks.of rfl rfl) (fun _ _ h => h)
        · intro listed A0 w2 hI hd hnd K hK
          have e0 := hI.slot hnd 4 _ rfl (by kernel_rfl)
          have hS := hI.world
          refine wanted_go rfl ?_
          clear hI hd hnd
          go_simp
          exact hK.out _ _ hS (Ks.of rfl rfl) (fun _ _ h => h)
        · intro listed A0 w2 hI hd hnd K hK
          have e0 := hI.depv hd 16 30 _ rfl rfl rfl (by kernel_rfl)
          have e1 := hI.depv hd 17 31 _ rfl rfl rfl (by kernel_rfl)
          have hS := hI.world
          refine wanted_go rfl ?_
          clear hI hd hnd
          go_simp
          exact hK.out _ _ hS (Ks.of rfl rfl) (fun _ _ h => h)
        · intro listed A0 w2 hI hd hnd K hK
          have e0 := hI.depv hd 18 32 _ rfl rfl rfl (by kernel_rfl)
          have hS := hI.world
          refine wanted_go rfl ?_
          clear hI hd hnd
          go_simp
          exact hK.out _ _ hS (Ks.of rfl rfl) (fun _ _ h => h)
        · intro listed A0 w2 hI hd hnd K hK
          have e0 := hI.depv hd 19 33 _ rfl rfl rfl (by kernel_rfl)
          have hS := hI.world
          have hcc : w2.cell? ⟨b2, o2 + k * 4 + 3, none⟩ = _ := (hS.cell (p := ⟨b2, o2 + k * 4 + 3, none⟩) hb3).trans k3
          refine wanted_go rfl ?_
          clear hI hd hnd
          go_simp
          exact hK.out _ _ hS (Ks.of rfl rfl) (fun _ _ h => h)
        · intro listed A0 w2 hI hd hnd K hK
          have e0 := hI.depv hd 5 19 _ rfl rfl rfl (by kernel_rfl)
          have e1 := hI.depv hd 10 24 _ rfl rfl rfl (by kernel_rfl)
          have e2 := hI.depv hd 15 29 _ rfl rfl rfl (by kernel_rfl)
          have e3 := hI.depv hd 20 34 _ rfl rfl rfl (by kernel_rfl)
          have hS := hI.world
          refine wanted_go rfl ?_
          clear hI hd hnd
          go_simp
          exact hK.out _ _ (hS.alloc hS.size _) (Ks.of rfl (NewInts.made (W := wr) [xs[k].code, xs[k].kind, xs[k].basis, xs[k].parent] 4 rfl _ rfl _ rfl)) (Ks.keep (below1 w2 _))
        · intro listed A0 w2 hI hd hnd K hK
          obtain ⟨x0, e0, h0⟩ := hI.dep hd 21 35 rfl rfl rfl (by kernel_rfl)
          obtain ⟨bb0, rfl, hr0⟩ := h0
          have hS := hI.world
          refine wanted_go rfl ?_
          clear hI hd hnd
          go_simp
          go_at_call 41
          refine (ints_n _ _ _ [xs[k].code, xs[k].kind, xs[k].basis, xs[k].parent] (encAccount xs[k]) w2 rfl (by simp [encAccount]) hr0 (by simp [hq0, hq1, hq2, hq3]) (by simp)).mono ?_
          rintro e w3 hP
          obtain ⟨v, rfl, h1, h2, h3⟩ := NewP.from hP hS
          exact hK.out _ _ h1 (Ks.of rfl h2) (Ks.keep h3)
      · intro f A0 w2 hI
        obtain ⟨x0, g0, h0⟩ := hI.got 0 _ 14 rfl rfl rfl
        obtain ⟨x1, g1, h1⟩ := hI.got 1 _ 15 rfl rfl rfl
        obtain ⟨x2, g2, h2⟩ := hI.got 2 _ 16 rfl rfl rfl
        obtain ⟨x3, g3, h3⟩ := hI.got 3 _ 17 rfl rfl rfl
        obtain ⟨x4, g4, h4⟩ := hI.got 4 _ 18 rfl rfl rfl
        obtain ⟨x5, g5, h5⟩ := hI.got 5 _ 19 rfl rfl rfl
        obtain ⟨x6, g6, h6⟩ := hI.got 6 _ 20 rfl rfl rfl
        obtain ⟨x7, g7, h7⟩ := hI.got 7 _ 21 rfl rfl rfl
        obtain ⟨x8, g8, h8⟩ := hI.got 8 _ 22 rfl rfl rfl
        obtain ⟨x9, g9, h9⟩ := hI.got 9 _ 23 rfl rfl rfl
        obtain ⟨x10, g10, h10⟩ := hI.got 10 _ 24 rfl rfl rfl
        obtain ⟨x11, g11, h11⟩ := hI.got 11 _ 25 rfl rfl rfl
        obtain ⟨x12, g12, h12⟩ := hI.got 12 _ 26 rfl rfl rfl
        obtain ⟨x13, g13, h13⟩ := hI.got 13 _ 27 rfl rfl rfl
        obtain ⟨x14, g14, h14⟩ := hI.got 14 _ 28 rfl rfl rfl
        obtain ⟨x15, g15, h15⟩ := hI.got 15 _ 29 rfl rfl rfl
        obtain ⟨x16, g16, h16⟩ := hI.got 16 _ 30 rfl rfl rfl
        obtain ⟨x17, g17, h17⟩ := hI.got 17 _ 31 rfl rfl rfl
        obtain ⟨x18, g18, h18⟩ := hI.got 18 _ 32 rfl rfl rfl
        obtain ⟨x19, g19, h19⟩ := hI.got 19 _ 33 rfl rfl rfl
        obtain ⟨x20, g20, h20⟩ := hI.got 20 _ 34 rfl rfl rfl
        obtain ⟨x21, g21, h21⟩ := hI.got 21 _ 35 rfl rfl rfl
        obtain ⟨x22, g22, h22⟩ := hI.got 22 _ 36 rfl rfl rfl
        have hS := hI.world
        have o37 := hI.oldHead 37 (by kernel_rfl)
        have o3 := hI.oldHead 3 (by kernel_rfl)
        have hA : A0 = _ := hI.tmps [(14, x0), (15, x1), (16, x2), (17, x3), (18, x4), (19, x5), (20, x6), (21, x7), (22, x8), (23, x9), (24, x10), (25, x11), (26, x12), (27, x13), (28, x14), (29, x15), (30, x16), (31, x17), (32, x18), (33, x19), (34, x20), (35, x21), (36, x22), (37, u37), (3, u3)] (by simp only [List.mem_cons, List.not_mem_nil, or_false, forall_eq_or_imp, forall_eq]; exact ⟨g0, g1, g2, g3, g4, g5, g6, g7, g8, g9, g10, g11, g12, g13, g14, g15, g16, g17, g18, g19, g20, g21, g22, o37, o3⟩) (by kernel_rfl)
        obtain rfl : x0 = u3 := h0 _ rfl
        have k22 : NewBytes wr w2 x22 (encAccount xs[k]) := h22 _ rfl
        clear h0 g0 h1 g1 h2 g2 h3 g3 h4 g4 h5 g5 h6 g6 h7 g7 h8 g8 h9 g9 h10 g10 h11 g11 h12 g12 h13 g13 h14 g14 h15 g15 h16 g16 h17 g17 h18 g18 h19 g19 h20 g20 h21 g21 h22 g22 o37 o3 hI
        simp only [setAll, List.foldl, List.setIfInBounds_toArray, List.set_cons_zero, List.set_cons_succ] at hA
        rw [hA]
        clear hA
        have hn2 := hn.keep hS
        have hl5 := encAccount_len xs[k]
        have hl6 := flat_take_m encAccount 40 k xs (fun x _ => by have := encAccount_len x; omega)
        obtain ⟨Ar, cr, rfl, _, _⟩ := k22.1.form
        show wpAny _ _ _ _ (f + 1 + 1) _ _ _
        refine wpAny_all (rs := [23]) (by kernel_rfl) (by simp) ?_
        intro i hi
        obtain rfl : i = 23 := by simpa using hi
        refine wpOp_step (o := _) rfl (fun K hK => ?_)
        refine step_appB _ rfl (.tmp 14) (.tmp 36) rfl _ (enc xs.length ++ (xs.take k).flatMap encAccount) rfl hn2.1 (· < w2.heap.size) Ar cr (encAccount xs[k]) rfl (k22.1.rd (fun k hk => k22.1.lt hk)).2 (by unfold Lim; simp only [List.length_append]; omega) ?_
        intro v13 w13 hby hg hat
        refine hK _ _ ?_
        refine wpAny_all (rs := [24]) (by kernel_rfl) (by simp) ?_
        intro i hi
        obtain rfl : i = 24 := by simpa using hi
        refine wpOp_step (o := _) rfl (fun K hK => ?_)
        refine wanted_go rfl ?_
        go_simp
        refine hK _ _ ?_
        refine wpAny_done (by kernel_rfl) ?_ _
        go_wp2_with fail
        go_roundw
        case rel =>
          refine ⟨k + 1, by omega, by go_num, ?_⟩
          rw [HT.out, ← List.append_assoc]
          exact hn2.app hby hg hat
        case measure => simp [intOf]; omega
    · have hkk : k = xs.length := by omega
      subst hkk
      rw [List.take_length] at hn
      have hltI : ¬ ((xs.length : Nat) : Int) < (xs.length : Int) := by omega
      go_wp2_with fail
      go_ret
      exact ⟨_, rfl, hn⟩
theorem rAccounts_n (cs : List Value) (v : Value) (xs : List XAccount) (w : World) (hx : ListC AccountC 4 w (· < w.heap.size) cs xs) (hv : cs = [v]) (hl : xs.length ≤ 1000000000) :
    Calls Try.prog 84 #[v] w (NewP w (encL encAccount xs)) := by
  subst hv
  have hx2 := hx
  obtain ⟨A, c, e, _⟩ := hx2
  injection e with e
  subst e
  exact rAccounts_c A c xs w hx hl

/-- An entity is small. -/
structure FewEnt (y : XEntity) : Prop where
  name : y.name.size ≤ 1000
  cur : y.currency.size ≤ 1000
  chart : y.chart.length ≤ 250
  links : y.links.length ≤ 450
theorem FewEnt.len {y : XEntity} (h : FewEnt y) : (encEntity y).length ≤ 30000 := by
  have h1 := encS_len y.name
  have h2 := encS_len y.currency
  have h3 := encL_len_n encAccount 40 encAccount_len y.chart
  have h4 := encL_len_n encLink 30 encLink_len y.links
  have h5 := encB_len y.joint
  have := h.name
  have := h.cur
  have := h.chart
  have := h.links
  simp only [encEntity, List.length_append]
  omega
set_option maxHeartbeats 1000000 in
set_option maxRecDepth 100000 in
theorem rEntity_c (x : XEntity) (cx : List Value) (w : World) (hx : EntityC w (· < w.heap.size) cx x) (hf : FewEnt x) :
    Calls Try.prog 85 #[.agg cx.toArray] w (NewP w (encEntity x)) := by
  have q1 := hf.name
  have q2 := hf.cur
  have q3 := hf.chart
  have q4 := hf.links
  have HX := Lib.hid hx
  clear hx
  go_enter Try.func85, Try.ntmps85
  go_wp2_with fail
  have hbox : (w.alloc (Obj.cells cx.toArray 133)).heap[w.heap.size]? = some (Obj.cells cx.toArray 133) := heap_alloc_new w _
  generalize hW : w.alloc (Obj.cells cx.toArray 133) = W at *
  have hbW : Below w.heap.size w W := by rw [← hW]; exact below1 w _
  have hWs : w.heap.size < W.heap.size := by rw [← hW]; simp
  clear hW
  obtain ⟨C0, C1, ⟨cc, hcc0, acc⟩, ⟨cl, hcl, acl⟩, ⟨C4, _⟩⟩ := EntityC.at_ (HX.out.keep hbW) (box_at hbox)
  have hlc := hcc0.len
  obtain ⟨vc, rfl⟩ := List.length_eq_one_iff.1 hlc
  have HA := Lib.hid hcc0
  have C2 := acc.c (j := 0) rfl
  obtain ⟨Al, cal, rfl, _, _, hel⟩ := hcl
  have C3 := acl.c (j := 0) rfl
  simp only [Nat.zero_add, Nat.add_zero] at C0 C1 C2 C3 C4
  have hLL : (encS x.name ++ encS x.currency ++ encL encAccount x.chart ++ enc (x.links.length : Int)).length ≤ 100000000000 := by
    have h1 := encS_len x.name
    have h2 := encS_len x.currency
    have h3 := encL_len_n encAccount 40 encAccount_len x.chart
    have h6 := enc_len (x.links.length : Int)
    simp only [List.length_append]
    omega
  have HLL := Lib.hid hLL
  clear hLL acl acc hcc0 hlc hbox
  refine wp_region_inv (Ks W [.val (.pointer (some ⟨w.heap.size, 0, none⟩)), .val (.string x.name), .row (encS x.name), .val (.pointer (some ⟨w.heap.size, 1, none⟩)), .val (.string x.currency), .row (encS x.currency), .val (.pointer (some ⟨w.heap.size, 2, none⟩)), .val (vc), .row (encL encAccount x.chart), .val (.pointer (some ⟨w.heap.size, 3, none⟩)), .val (.slice Al x.links.length cal), .val (.int .i64 (x.links.length : Int)), .row (enc (x.links.length : Int)), .parts [encS x.name, encS x.currency, encL encAccount x.chart, enc (x.links.length : Int)], .row (encS x.name ++ encS x.currency ++ encL encAccount x.chart ++ enc (x.links.length : Int)), .row (encS x.name ++ encS x.currency ++ encL encAccount x.chart ++ enc (x.links.length : Int))])
    (fun w' => Below W.heap.size W w') (by kernel_rfl) (by kernel_rfl) (by kernel_rfl) (Below.refl _ _).drew ?_ ?_
  · refine ⟨?_, ?_, ?_, ?_, ?_, ?_, ?_, ?_, ?_, ?_, ?_, ?_, ?_, ?_, ?_, ?_, trivial⟩
    · intro listed A0 w2 hI hd hnd K hK
      have e0 := hI.slot hnd 1 _ rfl (by kernel_rfl)
      have hS := hI.world
      refine wanted_go rfl ?_
      clear hI hd hnd
      go_simp
      exact hK.out _ _ hS (Ks.of rfl rfl) (fun _ _ h => h)
    · intro listed A0 w2 hI hd hnd K hK
      have e0 := hI.depv hd 0 5 _ rfl rfl rfl (by kernel_rfl)
      have hS := hI.world
      have hcc : w2.cell? ⟨w.heap.size, 0, none⟩ = _ := (hS.cell (p := ⟨w.heap.size, 0, none⟩) hWs).trans C0
      refine wanted_go rfl ?_
      clear hI hd hnd
      go_simp
      exact hK.out _ _ hS (Ks.of rfl rfl) (fun _ _ h => h)
    · intro listed A0 w2 hI hd hnd K hK
      have e0 := hI.depv hd 1 6 _ rfl rfl rfl (by kernel_rfl)
      have hS := hI.world
      refine wanted_go rfl ?_
      clear hI hd hnd
      go_simp
      go_at_call 40
      refine (text_c x.name w2 (by omega)).mono ?_
      rintro e w3 hP
      obtain ⟨v, rfl, h1, h2, h3⟩ := NewP.from hP hS
      exact hK.out _ _ h1 (Ks.of rfl h2) (Ks.keep h3)
    · intro listed A0 w2 hI hd hnd K hK
      have e0 := hI.slot hnd 1 _ rfl (by kernel_rfl)
      have hS := hI.world
      refine wanted_go rfl ?_
      clear hI hd hnd
      go_simp
      exact hK.out _ _ hS (Ks.of rfl rfl) (fun _ _ h => h)
    · intro listed A0 w2 hI hd hnd K hK
      have e0 := hI.depv hd 3 8 _ rfl rfl rfl (by kernel_rfl)
      have hS := hI.world
      have hcc : w2.cell? ⟨w.heap.size, 1, none⟩ = _ := (hS.cell (p := ⟨w.heap.size, 1, none⟩) hWs).trans C1
      refine wanted_go rfl ?_
      clear hI hd hnd
      go_simp
      exact hK.out _ _ hS (Ks.of rfl rfl) (fun _ _ h => h)
    · intro listed A0 w2 hI hd hnd K hK
      have e0 := hI.depv hd 4 9 _ rfl rfl rfl (by kernel_rfl)
      have hS := hI.world
      refine wanted_go rfl ?_
      clear hI hd hnd
      go_simp
      go_at_call 40
      refine (text_c x.currency w2 (by omega)).mono ?_
      rintro e w3 hP
      obtain ⟨v, rfl, h1, h2, h3⟩ := NewP.from hP hS
      exact hK.out _ _ h1 (Ks.of rfl h2) (Ks.keep h3)
    · intro listed A0 w2 hI hd hnd K hK
      have e0 := hI.slot hnd 1 _ rfl (by kernel_rfl)
      have hS := hI.world
      refine wanted_go rfl ?_
      clear hI hd hnd
      go_simp
      exact hK.out _ _ hS (Ks.of rfl rfl) (fun _ _ h => h)
    · intro listed A0 w2 hI hd hnd K hK
      have e0 := hI.depv hd 6 11 _ rfl rfl rfl (by kernel_rfl)
      have hS := hI.world
      have hcc : w2.cell? ⟨w.heap.size, 2, none⟩ = _ := (hS.cell (p := ⟨w.heap.size, 2, none⟩) hWs).trans C2
      refine wanted_go rfl ?_
      clear hI hd hnd
      go_simp
      exact hK.out _ _ hS (Ks.of rfl rfl) (fun _ _ h => h)
    · intro listed A0 w2 hI hd hnd K hK
      have e0 := hI.depv hd 7 12 _ rfl rfl rfl (by kernel_rfl)
      have hS := hI.world
      refine wanted_go rfl ?_
      clear hI hd hnd
      go_simp
      go_at_call 84
      refine (rAccounts_n _ _ x.chart w2 (HA.out.keep AccountC.fr AccountC.mono hS) rfl (by omega)).mono ?_
      rintro e w3 hP
      obtain ⟨v, rfl, h1, h2, h3⟩ := NewP.from hP hS
      exact hK.out _ _ h1 (Ks.of rfl h2) (Ks.keep h3)
    · intro listed A0 w2 hI hd hnd K hK
      have e0 := hI.slot hnd 1 _ rfl (by kernel_rfl)
      have hS := hI.world
      refine wanted_go rfl ?_
      clear hI hd hnd
      go_simp
      exact hK.out _ _ hS (Ks.of rfl rfl) (fun _ _ h => h)
    · intro listed A0 w2 hI hd hnd K hK
      have e0 := hI.depv hd 9 14 _ rfl rfl rfl (by kernel_rfl)
      have hS := hI.world
      have hcc : w2.cell? ⟨w.heap.size, 3, none⟩ = _ := (hS.cell (p := ⟨w.heap.size, 3, none⟩) hWs).trans C3
      refine wanted_go rfl ?_
      clear hI hd hnd
      go_simp
      exact hK.out _ _ hS (Ks.of rfl rfl) (fun _ _ h => h)
    · intro listed A0 w2 hI hd hnd K hK
      have e0 := hI.depv hd 10 15 _ rfl rfl rfl (by kernel_rfl)
      have hS := hI.world
      refine wanted_go rfl ?_
      clear hI hd hnd
      go_simp
      exact hK.out _ _ hS (Ks.of rfl rfl) (fun _ _ h => h)
    · intro listed A0 w2 hI hd hnd K hK
      have e0 := hI.depv hd 11 16 _ rfl rfl rfl (by kernel_rfl)
      have hS := hI.world
      refine wanted_go rfl ?_
      clear hI hd hnd
      go_simp
      go_at_call 14
      refine (refInt_c (x.links.length : Int) w2 (by first | exact And.left (by assumption) | omega) (by first | exact And.right (by assumption) | omega)).mono ?_
      rintro e w3 hP
      obtain ⟨v, rfl, h1, h2, h3⟩ := NewP.from hP hS
      exact hK.out _ _ h1 (Ks.of rfl h2) (Ks.keep h3)
    · intro listed A0 w2 hI hd hnd K hK
      obtain ⟨x0, e0, h0⟩ := hI.dep hd 2 7 rfl rfl rfl (by kernel_rfl)
      obtain ⟨x1, e1, h1⟩ := hI.dep hd 5 10 rfl rfl rfl (by kernel_rfl)
      obtain ⟨x2, e2, h2⟩ := hI.dep hd 8 13 rfl rfl rfl (by kernel_rfl)
      obtain ⟨x3, e3, h3⟩ := hI.dep hd 12 17 rfl rfl rfl (by kernel_rfl)
      have hS := hI.world
      obtain ⟨A0, n0, c0, rfl⟩ := Bytes.shape h0.1
      obtain ⟨A1, n1, c1, rfl⟩ := Bytes.shape h1.1
      obtain ⟨A2, n2, c2, rfl⟩ := Bytes.shape h2.1
      obtain ⟨A3, n3, c3, rfl⟩ := Bytes.shape h3.1
      have HPP := Lib.hid (Parts.cons h0 (Parts.cons h1 (Parts.cons h2 (Parts.cons h3 (Parts.nil w2)))))
      refine wanted_go rfl ?_
      clear hI hd hnd h0 h1 h2 h3
      go_simp
      exact hK.out _ _ (hS.alloc hS.size _) (Ks.of rfl (NewParts.made (W := W) _ [encS x.name, encS x.currency, encL encAccount x.chart, enc (x.links.length : Int)] 4 rfl rfl _ rfl _ rfl HPP.out)) (Ks.keep (below1 w2 _))
    · intro listed A0 w2 hI hd hnd K hK
      obtain ⟨x0, e0, h0⟩ := hI.dep hd 13 18 rfl rfl rfl (by kernel_rfl)
      obtain ⟨bb0, vs0, rfl, hr0, hp0⟩ := h0
      have hS := hI.world
      have HPP := Lib.hid hp0
      clear hp0
      refine wanted_go rfl ?_
      clear hI hd hnd
      go_simp
      go_at_call 64
      refine (join_n _ _ _ vs0 [encS x.name, encS x.currency, encL encAccount x.chart, enc (x.links.length : Int)] (encS x.name ++ encS x.currency ++ encL encAccount x.chart ++ enc (x.links.length : Int)) w2 rfl (by simp) hr0 HPP.out HLL.out (by simp)).mono ?_
      rintro e w3 hP
      obtain ⟨v, rfl, h1, h2, h3⟩ := NewP.from hP hS
      exact hK.out _ _ h1 (Ks.of rfl h2) (Ks.keep h3)
    · intro listed A0 w2 hI hd hnd K hK
      obtain ⟨x0, e0, h0⟩ := hI.dep hd 14 19 rfl rfl rfl (by kernel_rfl)
      have hS := hI.world
      refine wanted_go rfl ?_
      clear hI hd hnd
      go_simp
      exact hK.out _ _ hS (Ks.of rfl h0) (fun _ _ h => h)
  · intro listed A0 w2 hI hall
    obtain ⟨x0, g0, h0⟩ := hI.got 0 _ 5 rfl rfl (hall 0 (by decide))
    obtain ⟨x1, g1, h1⟩ := hI.got 1 _ 6 rfl rfl (hall 1 (by decide))
    obtain ⟨x2, g2, h2⟩ := hI.got 2 _ 7 rfl rfl (hall 2 (by decide))
    obtain ⟨x3, g3, h3⟩ := hI.got 3 _ 8 rfl rfl (hall 3 (by decide))
    obtain ⟨x4, g4, h4⟩ := hI.got 4 _ 9 rfl rfl (hall 4 (by decide))
    obtain ⟨x5, g5, h5⟩ := hI.got 5 _ 10 rfl rfl (hall 5 (by decide))
    obtain ⟨x6, g6, h6⟩ := hI.got 6 _ 11 rfl rfl (hall 6 (by decide))
    obtain ⟨x7, g7, h7⟩ := hI.got 7 _ 12 rfl rfl (hall 7 (by decide))
    obtain ⟨x8, g8, h8⟩ := hI.got 8 _ 13 rfl rfl (hall 8 (by decide))
    obtain ⟨x9, g9, h9⟩ := hI.got 9 _ 14 rfl rfl (hall 9 (by decide))
    obtain ⟨x10, g10, h10⟩ := hI.got 10 _ 15 rfl rfl (hall 10 (by decide))
    obtain ⟨x11, g11, h11⟩ := hI.got 11 _ 16 rfl rfl (hall 11 (by decide))
    obtain ⟨x12, g12, h12⟩ := hI.got 12 _ 17 rfl rfl (hall 12 (by decide))
    obtain ⟨x13, g13, h13⟩ := hI.got 13 _ 18 rfl rfl (hall 13 (by decide))
    obtain ⟨x14, g14, h14⟩ := hI.got 14 _ 19 rfl rfl (hall 14 (by decide))
    obtain ⟨x15, g15, h15⟩ := hI.got 15 _ 3 rfl rfl (hall 15 (by decide))
    have hS := hI.world
    have hA : A0 = _ := hI.tmps [(5, x0), (6, x1), (7, x2), (8, x3), (9, x4), (10, x5), (11, x6), (12, x7), (13, x8), (14, x9), (15, x10), (16, x11), (17, x12), (18, x13), (19, x14), (3, x15)] (by simp only [List.mem_cons, List.not_mem_nil, or_false, forall_eq_or_imp, forall_eq]; exact ⟨g0, g1, g2, g3, g4, g5, g6, g7, g8, g9, g10, g11, g12, g13, g14, g15⟩) (by kernel_rfl)
    have k15 : NewBytes W w2 x15 (encS x.name ++ encS x.currency ++ encL encAccount x.chart ++ enc (x.links.length : Int)) := h15 _ rfl
    clear h0 g0 h1 g1 h2 g2 h3 g3 h4 g4 h5 g5 h6 g6 h7 g7 h8 g8 h9 g9 h10 g10 h11 g11 h12 g12 h13 g13 h14 g14 h15 g15 hI hall
    simp only [setAll, List.foldl, List.setIfInBounds_toArray, List.set_cons_zero, List.set_cons_succ] at hA
    rw [hA]
    clear hA
    have hll2 := HLL.out
    generalize hP0 : encS x.name ++ encS x.currency ++ encL encAccount x.chart ++ enc (x.links.length : Int) = P0 at *
    have HP0 := Lib.hid hP0
    have HC4 := Lib.hid C4
    clear hP0 HLL C0 C1 C2 C4
    go_wp2_with fail
    go_loopw [3, 4] (fun o i wr => ∃ k : Nat, k ≤ x.links.length ∧ i = .int .i64 (k : Int) ∧ NewBytes W wr o (P0 ++ (x.links.take k).flatMap encLink)) (fun _ i _ => x.links.length - (intOf i).toNat)
    case atStart => exact ⟨0, by omega, rfl, by simpa using k15⟩
    case round =>
      obtain ⟨k, hk, rfl, hn⟩ := hrel
      have K3 := (hn.2.2.cell (p := ⟨w.heap.size, 3, none⟩) hWs).trans C3
      have hb4 : w.heap.size < wr.heap.size := by have := hn.2.2.size; omega
      by_cases hlt : k < x.links.length
      · have hltI : (k : Int) < (x.links.length : Int) := by omega
        obtain ⟨b2, o2, rfl, hbb, hi⟩ := hel (by omega)
        obtain ⟨es, ⟨c0, c1, c2, rfl, ⟨rfl, hb0⟩, ⟨rfl, hb1⟩, ⟨rfl, hb2⟩⟩, hae⟩ := hi k x.links[k] (List.getElem?_eq_getElem hlt)
        have hae2 := hae.fr (Fr.ofBelow hn.2.2)
        have k0 := hae2.c (j := 0) rfl
        have k1 := hae2.c (j := 1) rfl
        have k2 := hae2.c (j := 2) rfl
        have hb3 : b2 < wr.heap.size := by have := hn.2.2.size; omega
        have HT := Lib.hid (take_flat encLink x.links k hlt)
        clear hae hi hel
        go_wp2_with fail
        refine wp_region_inv2 21 (Ks wr [.val (u3), .val (.pointer (some ⟨w.heap.size, 3, none⟩)), .val (.slice (some ⟨b2, o2, none⟩) x.links.length cal), .val (.int .i64 (k : Int)), .val (.pointer (some ⟨b2, o2 + k * 3, none⟩)), .val (.pointer (some ⟨b2, o2 + k * 3, none⟩)), .val (.int .i64 x.links[k].from_), .val (.pointer (some ⟨w.heap.size, 3, none⟩)), .val (.slice (some ⟨b2, o2, none⟩) x.links.length cal), .val (.int .i64 (k : Int)), .val (.pointer (some ⟨b2, o2 + k * 3, none⟩)), .val (.pointer (some ⟨b2, o2 + k * 3 + 1, none⟩)), .val (.int .i64 x.links[k].2), .val (.pointer (some ⟨w.heap.size, 3, none⟩)), .val (.slice (some ⟨b2, o2, none⟩) x.links.length cal), .val (.int .i64 (k : Int)), .val (.pointer (some ⟨b2, o2 + k * 3, none⟩)), .val (.pointer (some ⟨b2, o2 + k * 3 + 2, none⟩)), .val (.int .i64 x.links[k].since), .ints [x.links[k].from_, x.links[k].2, x.links[k].since], .row (encLink x.links[k])])
          (fun w' => Below wr.heap.size wr w') (by kernel_rfl) (by kernel_rfl) (by kernel_rfl) (by decide) (by kernel_rfl) (by kernel_rfl) (Below.refl _ _).drew ?_ ?_
        · refine ⟨?_, ?_, ?_, ?_, ?_, ?_, ?_, ?_, ?_, ?_, ?_, ?_, ?_, ?_, ?_, ?_, ?_, ?_, ?_, ?_, ?_, trivial⟩
          · intro listed A0 w2 hI hd hnd K hK
            have e0 := hI.slot hnd 3 _ rfl (by kernel_rfl)
            have hS := hI.world
            refine wanted_go rfl ?_
            clear hI hd hnd
            go_simp
            exact hK.out _ _ hS (Ks.of rfl rfl) (fun _ _ h => h)
          · intro listed A0 w2 hI hd hnd K hK
            have e0 := hI.slot hnd 1 _ rfl (by kernel_rfl)
            have hS := hI.world
            refine wanted_go rfl ?_
            clear hI hd hnd
            go_simp
            exact hK.out _ _ hS (Ks.of rfl rfl) (fun _ _ h => h)
          · intro listed A0 w2 hI hd hnd K hK
            have e0 := hI.depv hd 1 28 _ rfl rfl rfl (by kernel_rfl)
            have hS := hI.world
            have hcc : w2.cell? ⟨w.heap.size, 3, none⟩ = _ := (hS.cell (p := ⟨w.heap.size, 3, none⟩) hb4).trans K3
            refine wanted_go rfl ?_
            clear hI hd hnd
            go_simp
            exact hK.out _ _ hS (Ks.of rfl rfl) (fun _ _ h => h)
          · intro listed A0 w2 hI hd hnd K hK
            have e0 := hI.slot hnd 4 _ rfl (by kernel_rfl)
            have hS := hI.world
            refine wanted_go rfl ?_
            clear hI hd hnd
            go_simp
            exact hK.out _ _ hS (Ks.of rfl rfl) (fun _ _ h => h)
          · intro listed A0 w2 hI hd hnd K hK
            have e0 := hI.depv hd 2 29 _ rfl rfl rfl (by kernel_rfl)
            have e1 := hI.depv hd 3 30 _ rfl rfl rfl (by kernel_rfl)
            have hS := hI.world
            refine wanted_go rfl ?_
            clear hI hd hnd
            go_simp
            exact hK.out _ _ hS (Ks.of rfl rfl) (fun _ _ h => h)
          · intro listed A0 w2 hI hd hnd K hK
            have e0 := hI.depv hd 4 31 _ rfl rfl rfl (by kernel_rfl)
            have hS := hI.world
            refine wanted_go rfl ?_
            clear hI hd hnd
            go_simp
            exact hK.out _ _ hS (Ks.of rfl rfl) (fun _ _ h => h)
          · intro listed A0 w2 hI hd hnd K hK
            have e0 := hI.depv hd 5 32 _ rfl rfl rfl (by kernel_rfl)
            have hS := hI.world
            have hcc : w2.cell? ⟨b2, o2 + k * 3, none⟩ = _ := (hS.cell (p := ⟨b2, o2 + k * 3, none⟩) hb3).trans k0
            refine wanted_go rfl ?_
            clear hI hd hnd
            go_simp
            exact hK.out _ _ hS (Ks.of rfl rfl) (fun _ _ h => h)
          · intro listed A0 w2 hI hd hnd K hK
            have e0 := hI.slot hnd 1 _ rfl (by kernel_rfl)
            have hS := hI.world
            refine wanted_go rfl ?_
            clear hI hd hnd
            go_simp
            exact hK.out _ _ hS (Ks.of rfl rfl) (fun _ _ h => h)
          · intro listed A0 w2 hI hd hnd K hK
            have e0 := hI.depv hd 7 34 _ rfl rfl rfl (by kernel_rfl)
            have hS := hI.world
            have hcc : w2.cell? ⟨w.heap.size, 3, none⟩ = _ := (hS.cell (p := ⟨w.heap.size, 3, none⟩) hb4).trans K3
            refine wanted_go rfl ?_
            clear hI hd hnd
            go_simp
            exact hK.out _ _ hS (Ks.of rfl rfl) (fun _ _ h => h)
          · intro listed A0 w2 hI hd hnd K hK
            have e0 := hI.slot hnd 4 _ rfl (by kernel_rfl)
            have hS := hI.world
            refine wanted_go rfl ?_
            clear hI hd hnd
            go_simp
            exact hK.out _ _ hS (Ks.of rfl rfl) (fun _ _ h => h)
          · intro listed A0 w2 hI hd hnd K hK
            have e0 := hI.depv hd 8 35 _ rfl rfl rfl (by kernel_rfl)
            have e1 := hI.depv hd 9 36 _ rfl rfl rfl (by kernel_rfl)
            have hS := hI.world
            refine wanted_go rfl ?_
            clear hI hd hnd
            go_simp
            exact hK.out _ _ hS (Ks.of rfl rfl) (fun _ _ h => h)
          · intro listed A0 w2 hI hd hnd K hK
            have e0 := hI.depv hd 10 37 _ rfl rfl rfl (by kernel_rfl)
            have hS := hI.world
            refine wanted_go rfl ?_
            clear hI hd hnd
            go_simp
            exact hK.out _ _ hS (Ks.of rfl rfl) (fun _ _ h => h)
          · intro listed A0 w2 hI hd hnd K hK
            have e0 := hI.depv hd 11 38 _ rfl rfl rfl (by kernel_rfl)
            have hS := hI.world
            have hcc : w2.cell? ⟨b2, o2 + k * 3 + 1, none⟩ = _ := (hS.cell (p := ⟨b2, o2 + k * 3 + 1, none⟩) hb3).trans k1
            refine wanted_go rfl ?_
            clear hI hd hnd
            go_simp
            exact hK.out _ _ hS (Ks.of rfl rfl) (fun _ _ h => h)
          · intro listed A0 w2 hI hd hnd K hK
            have e0 := hI.slot hnd 1 _ rfl (by kernel_rfl)
            have hS := hI.world
            refine wanted_go rfl ?_
            clear hI hd hnd
            go_simp
            exact hK.out _ _ hS (Ks.of rfl rfl) (fun _ _ h => h)
          · intro listed A0 w2 hI hd hnd K hK
            have e0 := hI.depv hd 13 40 _ rfl rfl rfl (by kernel_rfl)
            have hS := hI.world
            have hcc : w2.cell? ⟨w.heap.size, 3, none⟩ = _ := (hS.cell (p := ⟨w.heap.size, 3, none⟩) hb4).trans K3
            refine wanted_go rfl ?_
            clear hI hd hnd
            go_simp
            exact hK.out _ _ hS (Ks.of rfl rfl) (fun _ _ h => h)
          · intro listed A0 w2 hI hd hnd K hK
            have e0 := hI.slot hnd 4 _ rfl (by kernel_rfl)
            have hS := hI.world
            refine wanted_go rfl ?_
            clear hI hd hnd
            go_simp
            exact hK.out _ _ hS (Ks.of rfl rfl) (fun _ _ h => h)
          · intro listed A0 w2 hI hd hnd K hK
            have e0 := hI.depv hd 14 41 _ rfl rfl rfl (by kernel_rfl)
            have e1 := hI.depv hd 15 42 _ rfl rfl rfl (by kernel_rfl)
            have hS := hI.world
            refine wanted_go rfl ?_
            clear hI hd hnd
            go_simp
            exact hK.out _ _ hS (Ks.of rfl rfl) (fun _ _ h => h)
          · intro listed A0 w2 hI hd hnd K hK
            have e0 := hI.depv hd 16 43 _ rfl rfl rfl (by kernel_rfl)
            have hS := hI.world
            refine wanted_go rfl ?_
            clear hI hd hnd
            go_simp
            exact hK.out _ _ hS (Ks.of rfl rfl) (fun _ _ h => h)
          · intro listed A0 w2 hI hd hnd K hK
            have e0 := hI.depv hd 17 44 _ rfl rfl rfl (by kernel_rfl)
            have hS := hI.world
            have hcc : w2.cell? ⟨b2, o2 + k * 3 + 2, none⟩ = _ := (hS.cell (p := ⟨b2, o2 + k * 3 + 2, none⟩) hb3).trans k2
            refine wanted_go rfl ?_
            clear hI hd hnd
            go_simp
            exact hK.out _ _ hS (Ks.of rfl rfl) (fun _ _ h => h)
          · intro listed A0 w2 hI hd hnd K hK
            have e0 := hI.depv hd 6 33 _ rfl rfl rfl (by kernel_rfl)
            have e1 := hI.depv hd 12 39 _ rfl rfl rfl (by kernel_rfl)
            have e2 := hI.depv hd 18 45 _ rfl rfl rfl (by kernel_rfl)
            have hS := hI.world
            refine wanted_go rfl ?_
            clear hI hd hnd
            go_simp
            exact hK.out _ _ (hS.alloc hS.size _) (Ks.of rfl (NewInts.made (W := wr) [x.links[k].from_, x.links[k].2, x.links[k].since] 3 rfl _ rfl _ rfl)) (Ks.keep (below1 w2 _))
          · intro listed A0 w2 hI hd hnd K hK
            obtain ⟨x0, e0, h0⟩ := hI.dep hd 19 46 rfl rfl rfl (by kernel_rfl)
            obtain ⟨bb0, rfl, hr0⟩ := h0
            have hS := hI.world
            refine wanted_go rfl ?_
            clear hI hd hnd
            go_simp
            go_at_call 41
            refine (ints_n _ _ _ [x.links[k].from_, x.links[k].2, x.links[k].since] (encLink x.links[k]) w2 rfl (by simp [encLink]) hr0 (by simp [hb0, hb1, hb2]) (by simp)).mono ?_
            rintro e w3 hP
            obtain ⟨v, rfl, h1, h2, h3⟩ := NewP.from hP hS
            exact hK.out _ _ h1 (Ks.of rfl h2) (Ks.keep h3)
        · intro f A0 w2 hI
          obtain ⟨x0, g0, h0⟩ := hI.got 0 _ 27 rfl rfl rfl
          obtain ⟨x1, g1, h1⟩ := hI.got 1 _ 28 rfl rfl rfl
          obtain ⟨x2, g2, h2⟩ := hI.got 2 _ 29 rfl rfl rfl
          obtain ⟨x3, g3, h3⟩ := hI.got 3 _ 30 rfl rfl rfl
          obtain ⟨x4, g4, h4⟩ := hI.got 4 _ 31 rfl rfl rfl
          obtain ⟨x5, g5, h5⟩ := hI.got 5 _ 32 rfl rfl rfl
          obtain ⟨x6, g6, h6⟩ := hI.got 6 _ 33 rfl rfl rfl
          obtain ⟨x7, g7, h7⟩ := hI.got 7 _ 34 rfl rfl rfl
          obtain ⟨x8, g8, h8⟩ := hI.got 8 _ 35 rfl rfl rfl
          obtain ⟨x9, g9, h9⟩ := hI.got 9 _ 36 rfl rfl rfl
          obtain ⟨x10, g10, h10⟩ := hI.got 10 _ 37 rfl rfl rfl
          obtain ⟨x11, g11, h11⟩ := hI.got 11 _ 38 rfl rfl rfl
          obtain ⟨x12, g12, h12⟩ := hI.got 12 _ 39 rfl rfl rfl
          obtain ⟨x13, g13, h13⟩ := hI.got 13 _ 40 rfl rfl rfl
          obtain ⟨x14, g14, h14⟩ := hI.got 14 _ 41 rfl rfl rfl
          obtain ⟨x15, g15, h15⟩ := hI.got 15 _ 42 rfl rfl rfl
          obtain ⟨x16, g16, h16⟩ := hI.got 16 _ 43 rfl rfl rfl
          obtain ⟨x17, g17, h17⟩ := hI.got 17 _ 44 rfl rfl rfl
          obtain ⟨x18, g18, h18⟩ := hI.got 18 _ 45 rfl rfl rfl
          obtain ⟨x19, g19, h19⟩ := hI.got 19 _ 46 rfl rfl rfl
          obtain ⟨x20, g20, h20⟩ := hI.got 20 _ 47 rfl rfl rfl
          have hS := hI.world
          have o48 := hI.oldHead 48 (by kernel_rfl)
          have o3 := hI.oldHead 3 (by kernel_rfl)
          have hA : A0 = _ := hI.tmps [(27, x0), (28, x1), (29, x2), (30, x3), (31, x4), (32, x5), (33, x6), (34, x7), (35, x8), (36, x9), (37, x10), (38, x11), (39, x12), (40, x13), (41, x14), (42, x15), (43, x16), (44, x17), (45, x18), (46, x19), (47, x20), (48, u48), (3, u3)] (by simp only [List.mem_cons, List.not_mem_nil, or_false, forall_eq_or_imp, forall_eq]; exact ⟨g0, g1, g2, g3, g4, g5, g6, g7, g8, g9, g10, g11, g12, g13, g14, g15, g16, g17, g18, g19, g20, o48, o3⟩) (by kernel_rfl)
          obtain rfl : x0 = u3 := h0 _ rfl
          have k20 : NewBytes wr w2 x20 (encLink x.links[k]) := h20 _ rfl
          clear h0 g0 h1 g1 h2 g2 h3 g3 h4 g4 h5 g5 h6 g6 h7 g7 h8 g8 h9 g9 h10 g10 h11 g11 h12 g12 h13 g13 h14 g14 h15 g15 h16 g16 h17 g17 h18 g18 h19 g19 h20 g20 o48 o3 hI
          simp only [setAll, List.foldl, List.setIfInBounds_toArray, List.set_cons_zero, List.set_cons_succ] at hA
          rw [hA]
          clear hA
          have hn2 := hn.keep hS
          have hl5 := encLink_len x.links[k]
          have hl6 := flat_take_m encLink 30 k x.links (fun x _ => encLink_len x)
          obtain ⟨Ar, cr, rfl, _, _⟩ := k20.1.form
          show wpAny _ _ _ _ (f + 1 + 1) _ _ _
          refine wpAny_all (rs := [21]) (by kernel_rfl) (by simp) ?_
          intro i hi
          obtain rfl : i = 21 := by simpa using hi
          refine wpOp_step (o := _) rfl (fun K hK => ?_)
          refine step_appB _ rfl (.tmp 27) (.tmp 47) rfl _ (P0 ++ (x.links.take k).flatMap encLink) rfl hn2.1 (· < w2.heap.size) Ar cr (encLink x.links[k]) rfl (k20.1.rd (fun k hk => k20.1.lt hk)).2 (by unfold Lim; simp only [List.length_append]; omega) ?_
          intro v13 w13 hby hg hat
          refine hK _ _ ?_
          refine wpAny_all (rs := [22]) (by kernel_rfl) (by simp) ?_
          intro i hi
          obtain rfl : i = 22 := by simpa using hi
          refine wpOp_step (o := _) rfl (fun K hK => ?_)
          refine wanted_go rfl ?_
          go_simp
          refine hK _ _ ?_
          refine wpAny_done (by kernel_rfl) ?_ _
          go_wp2_with fail
          go_roundw
          case rel =>
            refine ⟨k + 1, by omega, by go_num, ?_⟩
            rw [HT.out, ← List.append_assoc]
            exact hn2.app hby hg hat
          case measure => simp [intOf]; omega
      · have hkk : k = x.links.length := by omega
        subst hkk
        rw [List.take_length] at hn
        have hltI : ¬ ((x.links.length : Nat) : Int) < (x.links.length : Int) := by omega
        have K4 := (hn.2.2.cell (p := ⟨w.heap.size, 4, none⟩) hWs).trans HC4.out
        have hl6 := flat_le_m encLink 30 x.links (fun x _ => encLink_len x)
        generalize hP1 : P0 ++ x.links.flatMap encLink = P1 at *
        have hl7 : P1.length ≤ 1000000000000 - 100 := by rw [← hP1]; simp only [List.length_append]; omega
        have HP1 := Lib.hid hP1
        clear hP1 hel
        have hl8 := encB_len x.joint
        obtain ⟨Ap, cp, rfl, _, _⟩ := hn.1.form
        go_wp2_with fail
        refine (rFlag_c x.joint wr).mono ?_
        rintro e w5 ⟨v5, rfl, hm5⟩
        have hn5 := hn.keep hm5.2.2
        obtain ⟨A5, c5, rfl, _, _⟩ := hm5.1.form
        go_wp2_with (at_builtin; go_loud (refine wpList_appB _ rfl (.tmp 49) (.tmp 52) rfl _ P1 rfl hn5.1 (· < w5.heap.size) A5 c5 (encB x.joint) rfl (hm5.1.rd (fun k hk => hm5.1.lt hk)).2 (by unfold Lim; omega) ?_); intro v6 w6 hby6 hg6 hat6)
        go_ret
        have e : encEntity x = P1 ++ encB x.joint := by
          rw [← HP1.out, ← HP0.out]
          simp only [encEntity, encL, List.append_assoc]
        rw [e]
        exact NewP.below ⟨_, rfl, hn5.app hby6 hg6 hat6⟩ hbW

end Go.Proofs.Ytgdibeegheddmaa
