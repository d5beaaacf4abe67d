/- The reference writer: refs, entry, match. Written by gen_h6.py. -/
import Derived.Test.YtgdibeegheddmaaYHa
namespace Go.Proofs.Ytgdibeegheddmaa
open Go Go.RowKit
set_option linter.unusedVariables false
set_option linter.unusedSimpArgs false
attribute [local go_sem ↓] Go.wp_at_zero Go.wp_at_succ
theorem flat_le_n {α : Type} (g : α → List UInt8) (n : Nat) (h : ∀ x, (g x).length ≤ n) : ∀ l : List α, (l.flatMap g).length ≤ n * l.length
  | [] => by simp
  | x :: l => by
    have := flat_le_n g n h l
    have := h x
    simp only [List.flatMap_cons, List.length_append, List.length_cons, Nat.mul_add]
    omega
theorem Inv.oldHead {md : Region.Mode} {ops : Array Oper} {V : Nat → Value → World → Prop} {S : World → Prop} {a0 : Act} {a : Act} {w : World} {m n : Nat} (hI : Inv md ops V S a0 (headDone m n) a w) (j : Nat)
    (h : ((ops.toList.take m).all fun o => o.dst != some j) = true) : a.tmps[j]? = a0.tmps[j]? := by
  refine hI.old j fun i o hi hd hdn => ?_
  have him : i < m := by
    by_cases hin : i < n
    · have := headDone_get m n i hin
      simp only [Done, Array.getD_eq_getD_getElem?, this, Option.getD_some, decide_eq_true_eq] at hdn
      exact hdn
    · have : (headDone m n)[i]? = none := Array.getElem?_eq_none (by simp [headDone]; omega)
      simp [Done, Array.getD_eq_getD_getElem?, this] at hdn
  simp only [List.all_eq_true] at h
  have := h o (List.mem_iff_getElem?.2 ⟨i, by rw [List.getElem?_take_of_lt him]; simpa using hi⟩)
  simp [hd] at this
theorem encS_len (s : ByteArray) : (encS s).length ≤ s.size + 10 := by
  have := enc_len (s.size : Int)
  simp only [encS, List.length_append, sb_length]; omega
theorem box_at {w : World} {b : Nat} {cs : List Value} {t : TypeId} (h : w.heap[b]? = some (.cells cs.toArray t)) : At w (· < w.heap.size) ⟨b, 0, none⟩ cs := by
  refine ⟨blk_lt h, fun j u hu => ?_⟩
  rw [Addr.add_lit, Nat.zero_add, blk_cell h j, blk_frozen h j]
  exact ⟨by simpa using hu, rfl⟩

set_option maxRecDepth 100000 in
theorem rRefs_c (A : Option Addr) (c : Nat) (xs : List XRef) (w : World) (hx : ListC RefC 2 w (· < w.heap.size) [.slice A xs.length c] xs) (hl : xs.length ≤ 1000000000) :
    Calls Try.prog 65 #[.slice A xs.length c] w (NewP w (encL encRef xs)) := by
  obtain ⟨A', c', e, _, _, hel⟩ := hx
  simp only [List.cons.injEq, and_true, Value.slice.injEq, true_and] at e
  obtain ⟨rfl, rfl⟩ := e
  go_enter Try.func65, Try.ntmps65
  go_wp2_with fail
  refine (refInt_c (xs.length : Int) _ (by omega) (by omega)).mono ?_
  rintro e w1 ⟨v1, rfl, hn1⟩
  have hl2 := enc_len (xs.length : Int)
  go_wp2_with fail
  go_loopw [3, 4] (fun o i wr => ∃ k : Nat, k ≤ xs.length ∧ i = .int .i64 (k : Int) ∧ NewBytes w wr o (enc xs.length ++ (xs.take k).flatMap encRef)) (fun _ i _ => xs.length - (intOf i).toNat)
  case atStart => exact ⟨0, by omega, rfl, by simpa using hn1⟩
  case round =>
    obtain ⟨k, hk, rfl, hn⟩ := hrel
    by_cases hlt : k < xs.length
    · have hltI : (k : Int) < (xs.length : Int) := by omega
      obtain ⟨b2, o2, rfl, hb2, hi⟩ := hel (by omega)
      obtain ⟨es, ⟨c0, c1, rfl, ⟨rfl, hbe⟩, ⟨rfl, hbl⟩⟩, hae⟩ := hi k xs[k] (List.getElem?_eq_getElem hlt)
      have hae2 := hae.fr (Fr.ofBelow hn.2.2)
      have k0 := hae2.c (j := 0) rfl
      have k1 := hae2.c (j := 1) rfl
      have htk : (xs.take (k + 1)).flatMap encRef = (xs.take k).flatMap encRef ++ encRef xs[k] := by
        rw [List.take_succ_eq_append_getElem hlt, List.flatMap_append]; simp only [List.flatMap_cons, List.flatMap_nil, List.append_nil]
      have HT := Lib.hid htk
      clear htk hae hi hel
      go_wp2_with fail
      have hb3 : b2 < wr.heap.size := by have := hn.2.2.size; omega
      refine wp_region_inv2 13 (Ks wr [.val (u3), .val (.slice (some ⟨b2, o2, none⟩) xs.length c), .val (.int .i64 (k : Int)), .val (.pointer (some ⟨b2, o2 + k * 2, none⟩)), .val (.pointer (some ⟨b2, o2 + k * 2, none⟩)), .val (.int .i64 xs[k].entry), .val (.slice (some ⟨b2, o2, none⟩) xs.length c), .val (.int .i64 (k : Int)), .val (.pointer (some ⟨b2, o2 + k * 2, none⟩)), .val (.pointer (some ⟨b2, o2 + k * 2 + 1, none⟩)), .val (.int .i64 xs[k].line), .ints [xs[k].entry, xs[k].line], .row (encRef xs[k])])
        (fun w' => Below wr.heap.size wr w') (by kernel_rfl) (by kernel_rfl) (by kernel_rfl) (by decide) (by kernel_rfl) (by kernel_rfl) (Below.refl _ _).drew ?_ ?_
      · refine ⟨?_, ?_, ?_, ?_, ?_, ?_, ?_, ?_, ?_, ?_, ?_, ?_, ?_, trivial⟩
        · intro listed A0 w2 hI hd hnd K hK
          have e0 := hI.slot hnd 3 _ rfl (by kernel_rfl)
          have hS := hI.world
          refine wanted_go rfl ?_
          clear hI hd hnd
          go_simp
          exact hK.out _ _ hS (Ks.of rfl rfl) (fun _ _ h => h)
        · intro listed A0 w2 hI hd hnd K hK
          have e0 := hI.slot hnd 0 _ rfl (by kernel_rfl)
          have hS := hI.world
          refine wanted_go rfl ?_
          clear hI hd hnd
          go_simp
          exact hK.out _ _ hS (Ks.of rfl rfl) (fun _ _ h => h)
        · intro listed A0 w2 hI hd hnd K hK
          have e0 := hI.slot hnd 4 _ rfl (by kernel_rfl)
          have hS := hI.world
          refine wanted_go rfl ?_
          clear hI hd hnd
          go_simp
          exact hK.out _ _ hS (Ks.of rfl rfl) (fun _ _ h => h)
        · intro listed A0 w2 hI hd hnd K hK
          have e0 := hI.depv hd 1 15 _ rfl rfl rfl (by kernel_rfl)
          have e1 := hI.depv hd 2 16 _ rfl rfl rfl (by kernel_rfl)
          have hS := hI.world
          refine wanted_go rfl ?_
          clear hI hd hnd
          go_simp
          exact hK.out _ _ hS (Ks.of rfl rfl) (fun _ _ h => h)
        · intro listed A0 w2 hI hd hnd K hK
          have e0 := hI.depv hd 3 17 _ rfl rfl rfl (by kernel_rfl)
          have hS := hI.world
          refine wanted_go rfl ?_
          clear hI hd hnd
          go_simp
          exact hK.out _ _ hS (Ks.of rfl rfl) (fun _ _ h => h)
        · intro listed A0 w2 hI hd hnd K hK
          have e0 := hI.depv hd 4 18 _ rfl rfl rfl (by kernel_rfl)
          have hS := hI.world
          have hcc : w2.cell? ⟨b2, o2 + k * 2, none⟩ = _ := (hS.cell (p := ⟨b2, o2 + k * 2, none⟩) hb3).trans k0
          refine wanted_go rfl ?_
          clear hI hd hnd
          go_simp
          exact hK.out _ _ hS (Ks.of rfl rfl) (fun _ _ h => h)
        · intro listed A0 w2 hI hd hnd K hK
          have e0 := hI.slot hnd 0 _ rfl (by kernel_rfl)
          have hS := hI.world
          refine wanted_go rfl ?_
          clear hI hd hnd
          go_simp
          exact hK.out _ _ hS (Ks.of rfl rfl) (fun _ _ h => h)
        · intro listed A0 w2 hI hd hnd K hK
          have e0 := hI.slot hnd 4 _ rfl (by kernel_rfl)
          have hS := hI.world
          refine wanted_go rfl ?_
          clear hI hd hnd
          go_simp
          exact hK.out _ _ hS (Ks.of rfl rfl) (fun _ _ h => h)
        · intro listed A0 w2 hI hd hnd K hK
          have e0 := hI.depv hd 6 20 _ rfl rfl rfl (by kernel_rfl)
          have e1 := hI.depv hd 7 21 _ rfl rfl rfl (by kernel_rfl)
          have hS := hI.world
          refine wanted_go rfl ?_
          clear hI hd hnd
          go_simp
          exact hK.out _ _ hS (Ks.of rfl rfl) (fun _ _ h => h)
        · intro listed A0 w2 hI hd hnd K hK
          have e0 := hI.depv hd 8 22 _ rfl rfl rfl (by kernel_rfl)
          have hS := hI.world
          refine wanted_go rfl ?_
          clear hI hd hnd
          go_simp
          exact hK.out _ _ hS (Ks.of rfl rfl) (fun _ _ h => h)
        · intro listed A0 w2 hI hd hnd K hK
          have e0 := hI.depv hd 9 23 _ rfl rfl rfl (by kernel_rfl)
          have hS := hI.world
          have hcc : w2.cell? ⟨b2, o2 + k * 2 + 1, none⟩ = _ := (hS.cell (p := ⟨b2, o2 + k * 2 + 1, none⟩) hb3).trans k1
          refine wanted_go rfl ?_
          clear hI hd hnd
          go_simp
          exact hK.out _ _ hS (Ks.of rfl rfl) (fun _ _ h => h)
        · intro listed A0 w2 hI hd hnd K hK
          have e0 := hI.depv hd 5 19 _ rfl rfl rfl (by kernel_rfl)
          have e1 := hI.depv hd 10 24 _ rfl rfl rfl (by kernel_rfl)
          have hS := hI.world
          refine wanted_go rfl ?_
          clear hI hd hnd
          go_simp
          exact hK.out _ _ (hS.alloc hS.size _) (Ks.of rfl (NewInts.made (W := wr) [xs[k].entry, xs[k].line] 2 rfl _ rfl _ rfl)) (Ks.keep (below1 w2 _))
        · intro listed A0 w2 hI hd hnd K hK
          obtain ⟨x0, e0, h0⟩ := hI.dep hd 11 25 rfl rfl rfl (by kernel_rfl)
          obtain ⟨bb0, rfl, hr0⟩ := h0
          have hS := hI.world
          refine wanted_go rfl ?_
          clear hI hd hnd
          go_simp
          go_at_call 41
          refine (ints_n _ _ _ [xs[k].entry, xs[k].line] (encRef xs[k]) w2 rfl (by simp [encRef]) hr0 (by simp [hbe, hbl]) (by simp)).mono ?_
          rintro e w3 hP
          obtain ⟨v, rfl, h1, h2, h3⟩ := NewP.from hP hS
          exact hK.out _ _ h1 (Ks.of rfl h2) (Ks.keep h3)
      · intro f A0 w2 hI
        obtain ⟨x0, g0, h0⟩ := hI.got 0 _ 14 rfl rfl rfl
        obtain ⟨x1, g1, h1⟩ := hI.got 1 _ 15 rfl rfl rfl
        obtain ⟨x2, g2, h2⟩ := hI.got 2 _ 16 rfl rfl rfl
        obtain ⟨x3, g3, h3⟩ := hI.got 3 _ 17 rfl rfl rfl
        obtain ⟨x4, g4, h4⟩ := hI.got 4 _ 18 rfl rfl rfl
        obtain ⟨x5, g5, h5⟩ := hI.got 5 _ 19 rfl rfl rfl
        obtain ⟨x6, g6, h6⟩ := hI.got 6 _ 20 rfl rfl rfl
        obtain ⟨x7, g7, h7⟩ := hI.got 7 _ 21 rfl rfl rfl
        obtain ⟨x8, g8, h8⟩ := hI.got 8 _ 22 rfl rfl rfl
        obtain ⟨x9, g9, h9⟩ := hI.got 9 _ 23 rfl rfl rfl
        obtain ⟨x10, g10, h10⟩ := hI.got 10 _ 24 rfl rfl rfl
        obtain ⟨x11, g11, h11⟩ := hI.got 11 _ 25 rfl rfl rfl
        obtain ⟨x12, g12, h12⟩ := hI.got 12 _ 26 rfl rfl rfl
        have hS := hI.world
        have o27 := hI.oldHead 27 (by kernel_rfl)
        have o3 := hI.oldHead 3 (by kernel_rfl)
        have hA : A0 = _ := hI.tmps [(14, x0), (15, x1), (16, x2), (17, x3), (18, x4), (19, x5), (20, x6), (21, x7), (22, x8), (23, x9), (24, x10), (25, x11), (26, x12), (27, u27), (3, u3)] (by simp only [List.mem_cons, List.not_mem_nil, or_false, forall_eq_or_imp, forall_eq]; exact ⟨g0, g1, g2, g3, g4, g5, g6, g7, g8, g9, g10, g11, g12, o27, o3⟩) (by kernel_rfl)
        obtain rfl : x0 = u3 := h0 _ rfl
        have k12 : NewBytes wr w2 x12 (encRef xs[k]) := h12 _ rfl
        clear h0 g0 h1 g1 h2 g2 h3 g3 h4 g4 h5 g5 h6 g6 h7 g7 h8 g8 h9 g9 h10 g10 h11 g11 h12 g12 o27 o3 hI
        simp only [setAll, List.foldl, List.setIfInBounds_toArray, List.set_cons_zero, List.set_cons_succ] at hA
        rw [hA]
        clear hA
        have hn2 := hn.keep hS
        have hl3 := enc_len xs[k].entry
        have hl4 := enc_len xs[k].line
        have hl5 : (encRef xs[k]).length ≤ 20 := by simp only [encRef, List.length_append]; omega
        have hl6 := flat_le_n encRef 20 (fun x => by have := enc_len x.entry; have := enc_len x.line; simp only [encRef, List.length_append]; omega) (xs.take k)
        have hl7 : (xs.take k).length ≤ xs.length := by rw [List.length_take]; omega
        obtain ⟨Ar, cr, rfl, _, _⟩ := k12.1.form
        show wpAny _ _ _ _ (f + 1 + 1) _ _ _
        refine wpAny_all (rs := [13]) (by kernel_rfl) (by simp) ?_
        intro i hi
        obtain rfl : i = 13 := by simpa using hi
        refine wpOp_step (o := _) rfl (fun K hK => ?_)
        refine step_appB _ rfl (.tmp 14) (.tmp 26) rfl _ (enc xs.length ++ (xs.take k).flatMap encRef) rfl hn2.1 (· < w2.heap.size) Ar cr (encRef xs[k]) rfl (k12.1.rd (fun k hk => k12.1.lt hk)).2 (by unfold Lim; simp only [List.length_append]; omega) ?_
        intro v13 w13 hby hg hat
        refine hK _ _ ?_
        refine wpAny_all (rs := [14]) (by kernel_rfl) (by simp) ?_
        intro i hi
        obtain rfl : i = 14 := by simpa using hi
        refine wpOp_step (o := _) rfl (fun K hK => ?_)
        refine wanted_go rfl ?_
        go_simp
        refine hK _ _ ?_
        refine wpAny_done (by kernel_rfl) ?_ _
        go_wp2_with fail
        go_roundw
        case rel =>
          refine ⟨k + 1, by omega, by go_num, ?_⟩
          rw [HT.out, ← List.append_assoc]
          exact hn2.app hby hg hat
        case measure => simp [intOf]; omega
    · have hkk : k = xs.length := by omega
      subst hkk
      rw [List.take_length] at hn
      have hltI : ¬ ((xs.length : Nat) : Int) < (xs.length : Int) := by omega
      go_wp2_with fail
      go_ret
      exact ⟨_, rfl, hn⟩
theorem rRefs_n (cs : List Value) (v : Value) (xs : List XRef) (w : World) (hx : ListC RefC 2 w (· < w.heap.size) cs xs) (hv : cs = [v]) (hl : xs.length ≤ 1000000000) :
    Calls Try.prog 65 #[v] w (NewP w (encL encRef xs)) := by
  subst hv
  have hx2 := hx
  obtain ⟨A, c, e, _⟩ := hx2
  injection e with e
  subst e
  exact rRefs_c A c xs w hx hl
theorem ListC.keep {α : Type} {El : World → (Nat → Prop) → List Value → α → Prop} {size : Nat} {w w' : World} {cs : List Value} {xs : List α} (h : ListC El size w (· < w.heap.size) cs xs)
    (hE : ∀ {Q w w' es x}, El w Q es x → Fr Q w w' → El w' Q es x) (hM : ∀ {Q Q' w es x}, El w Q es x → (∀ k, Q k → Q' k) → El w Q' es x) (hb : Below w.heap.size w w') : ListC El size w' (· < w'.heap.size) cs xs :=
  (h.fr (fun h => hE h (Fr.ofBelow hb)) (Fr.ofBelow hb)).mono (fun h => hM h (fun k hk => by have := hb.size; omega)) (fun k hk => by have := hb.size; omega)

set_option maxHeartbeats 1000000 in
set_option maxRecDepth 100000 in
theorem rEntry_c (x : XEntry) (cx : List Value) (w : World) (hx : EntryC w (· < w.heap.size) cx x) (hl : x.lines.length ≤ 1000000000) (hs : x.text.size ≤ 10000000000) :
    Calls Try.prog 35 #[.agg cx.toArray] w (NewP w (encEntry x)) := by
  have HX := Lib.hid hx
  clear hx
  go_enter Try.func35, Try.ntmps35
  go_wp2_with fail
  have hbox : (w.alloc (Obj.cells cx.toArray 34)).heap[w.heap.size]? = some (Obj.cells cx.toArray 34) := heap_alloc_new w _
  generalize hW : w.alloc (Obj.cells cx.toArray 34) = W at *
  have hbW : Below w.heap.size w W := by rw [← hW]; exact below1 w _
  have hWs : w.heap.size < W.heap.size := by rw [← hW]; simp
  clear hW
  obtain ⟨⟨C0, i0⟩, ⟨C1, i1⟩, ⟨C2, i2⟩, ⟨C3, i3⟩, ⟨C4, i4⟩, C5, cl, hcl, acl⟩ := EntryC.at_ (HX.out.fr (Fr.ofBelow hbW)) (box_at hbox)
  simp only [Nat.zero_add] at C1 C2 C3 C4 C5 acl
  obtain ⟨Al, cal, rfl, _, _, hel⟩ := hcl
  have C6 := acl.c (j := 0) rfl
  simp only [Nat.add_zero] at C6
  have hLL : (enc x.id ++ enc x.entity ++ enc x.date ++ enc x.kind ++ enc x.of_ ++ encS x.text ++ enc (x.lines.length : Int)).length ≤ 100000000000 := by
    have h1 := enc_len x.id
    have h2 := enc_len x.entity
    have h3 := enc_len x.date
    have h4 := enc_len x.kind
    have h5 := enc_len x.of_
    have h6 := enc_len (x.lines.length : Int)
    have h7 := encS_len x.text
    simp only [List.length_append]
    omega
  have HLL := Lib.hid hLL
  clear hLL acl hbox
  refine wp_region_inv (Ks W [.val (.pointer (some ⟨w.heap.size, 0, none⟩)), .val (.int .i64 x.id), .val (.pointer (some ⟨w.heap.size, 1, none⟩)), .val (.int .i64 x.entity), .val (.pointer (some ⟨w.heap.size, 2, none⟩)), .val (.int .i64 x.date), .val (.pointer (some ⟨w.heap.size, 3, none⟩)), .val (.int .i64 x.kind), .val (.pointer (some ⟨w.heap.size, 4, none⟩)), .val (.int .i64 x.of_), .ints [x.id, x.entity, x.date, x.kind, x.of_], .row (([x.id, x.entity, x.date, x.kind, x.of_] : List Int).flatMap enc), .val (.pointer (some ⟨w.heap.size, 5, none⟩)), .val (.string x.text), .row (encS x.text), .val (.pointer (some ⟨w.heap.size, 6, none⟩)), .val (.slice Al x.lines.length cal), .val (.int .i64 (x.lines.length : Int)), .row (enc (x.lines.length : Int)), .parts [([x.id, x.entity, x.date, x.kind, x.of_] : List Int).flatMap enc, encS x.text, enc (x.lines.length : Int)], .row (enc x.id ++ enc x.entity ++ enc x.date ++ enc x.kind ++ enc x.of_ ++ encS x.text ++ enc (x.lines.length : Int)), .row (enc x.id ++ enc x.entity ++ enc x.date ++ enc x.kind ++ enc x.of_ ++ encS x.text ++ enc (x.lines.length : Int))])
    (fun w' => Below W.heap.size W w') (by kernel_rfl) (by kernel_rfl) (by kernel_rfl) (Below.refl _ _).drew ?_ ?_
  · refine ⟨?_, ?_, ?_, ?_, ?_, ?_, ?_, ?_, ?_, ?_, ?_, ?_, ?_, ?_, ?_, ?_, ?_, ?_, ?_, ?_, ?_, ?_, trivial⟩
    · intro listed A0 w2 hI hd hnd K hK
      have e0 := hI.slot hnd 1 _ rfl (by kernel_rfl)
      have hS := hI.world
      refine wanted_go rfl ?_
      clear hI hd hnd
      go_simp
      exact hK.out _ _ hS (Ks.of rfl rfl) (fun _ _ h => h)
    · intro listed A0 w2 hI hd hnd K hK
      have e0 := hI.depv hd 0 5 _ rfl rfl rfl (by kernel_rfl)
      have hS := hI.world
      have hcc : w2.cell? ⟨w.heap.size, 0, none⟩ = _ := (hS.cell (p := ⟨w.heap.size, 0, none⟩) hWs).trans C0
      refine wanted_go rfl ?_
      clear hI hd hnd
      go_simp
      exact hK.out _ _ hS (Ks.of rfl rfl) (fun _ _ h => h)
    · intro listed A0 w2 hI hd hnd K hK
      have e0 := hI.slot hnd 1 _ rfl (by kernel_rfl)
      have hS := hI.world
      refine wanted_go rfl ?_
      clear hI hd hnd
      go_simp
      exact hK.out _ _ hS (Ks.of rfl rfl) (fun _ _ h => h)
    · intro listed A0 w2 hI hd hnd K hK
      have e0 := hI.depv hd 2 7 _ rfl rfl rfl (by kernel_rfl)
      have hS := hI.world
      have hcc : w2.cell? ⟨w.heap.size, 1, none⟩ = _ := (hS.cell (p := ⟨w.heap.size, 1, none⟩) hWs).trans C1
      refine wanted_go rfl ?_
      clear hI hd hnd
      go_simp
      exact hK.out _ _ hS (Ks.of rfl rfl) (fun _ _ h => h)
    · intro listed A0 w2 hI hd hnd K hK
      have e0 := hI.slot hnd 1 _ rfl (by kernel_rfl)
      have hS := hI.world
      refine wanted_go rfl ?_
      clear hI hd hnd
      go_simp
      exact hK.out _ _ hS (Ks.of rfl rfl) (fun _ _ h => h)
    · intro listed A0 w2 hI hd hnd K hK
      have e0 := hI.depv hd 4 9 _ rfl rfl rfl (by kernel_rfl)
      have hS := hI.world
      have hcc : w2.cell? ⟨w.heap.size, 2, none⟩ = _ := (hS.cell (p := ⟨w.heap.size, 2, none⟩) hWs).trans C2
      refine wanted_go rfl ?_
      clear hI hd hnd
      go_simp
      exact hK.out _ _ hS (Ks.of rfl rfl) (fun _ _ h => h)
    · intro listed A0 w2 hI hd hnd K hK
      have e0 := hI.slot hnd 1 _ rfl (by kernel_rfl)
      have hS := hI.world
      refine wanted_go rfl ?_
      clear hI hd hnd
      go_simp
      exact hK.out _ _ hS (Ks.of rfl rfl) (fun _ _ h => h)
    · intro listed A0 w2 hI hd hnd K hK
      have e0 := hI.depv hd 6 11 _ rfl rfl rfl (by kernel_rfl)
      have hS := hI.world
      have hcc : w2.cell? ⟨w.heap.size, 3, none⟩ = _ := (hS.cell (p := ⟨w.heap.size, 3, none⟩) hWs).trans C3
      refine wanted_go rfl ?_
      clear hI hd hnd
      go_simp
      exact hK.out _ _ hS (Ks.of rfl rfl) (fun _ _ h => h)
    · intro listed A0 w2 hI hd hnd K hK
      have e0 := hI.slot hnd 1 _ rfl (by kernel_rfl)
      have hS := hI.world
      refine wanted_go rfl ?_
      clear hI hd hnd
      go_simp
      exact hK.out _ _ hS (Ks.of rfl rfl) (fun _ _ h => h)
    · intro listed A0 w2 hI hd hnd K hK
      have e0 := hI.depv hd 8 13 _ rfl rfl rfl (by kernel_rfl)
      have hS := hI.world
      have hcc : w2.cell? ⟨w.heap.size, 4, none⟩ = _ := (hS.cell (p := ⟨w.heap.size, 4, none⟩) hWs).trans C4
      refine wanted_go rfl ?_
      clear hI hd hnd
      go_simp
      exact hK.out _ _ hS (Ks.of rfl rfl) (fun _ _ h => h)
    · intro listed A0 w2 hI hd hnd K hK
      have e0 := hI.depv hd 1 6 _ rfl rfl rfl (by kernel_rfl)
      have e1 := hI.depv hd 3 8 _ rfl rfl rfl (by kernel_rfl)
      have e2 := hI.depv hd 5 10 _ rfl rfl rfl (by kernel_rfl)
      have e3 := hI.depv hd 7 12 _ rfl rfl rfl (by kernel_rfl)
      have e4 := hI.depv hd 9 14 _ rfl rfl rfl (by kernel_rfl)
      have hS := hI.world
      refine wanted_go rfl ?_
      clear hI hd hnd
      go_simp
      exact hK.out _ _ (hS.alloc hS.size _) (Ks.of rfl (NewInts.made (W := W) [x.id, x.entity, x.date, x.kind, x.of_] 5 rfl _ rfl _ rfl)) (Ks.keep (below1 w2 _))
    · intro listed A0 w2 hI hd hnd K hK
      obtain ⟨x0, e0, h0⟩ := hI.dep hd 10 15 rfl rfl rfl (by kernel_rfl)
      obtain ⟨bb0, rfl, hr0⟩ := h0
      have hS := hI.world
      refine wanted_go rfl ?_
      clear hI hd hnd
      go_simp
      go_at_call 41
      refine (ints_n _ _ _ [x.id, x.entity, x.date, x.kind, x.of_] (([x.id, x.entity, x.date, x.kind, x.of_] : List Int).flatMap enc) w2 rfl (rfl) hr0 (by simp [i0, i1, i2, i3, i4]) (by simp)).mono ?_
      rintro e w3 hP
      obtain ⟨v, rfl, h1, h2, h3⟩ := NewP.from hP hS
      exact hK.out _ _ h1 (Ks.of rfl h2) (Ks.keep h3)
    · intro listed A0 w2 hI hd hnd K hK
      have e0 := hI.slot hnd 1 _ rfl (by kernel_rfl)
      have hS := hI.world
      refine wanted_go rfl ?_
      clear hI hd hnd
      go_simp
      exact hK.out _ _ hS (Ks.of rfl rfl) (fun _ _ h => h)
    · intro listed A0 w2 hI hd hnd K hK
      have e0 := hI.depv hd 12 17 _ rfl rfl rfl (by kernel_rfl)
      have hS := hI.world
      have hcc : w2.cell? ⟨w.heap.size, 5, none⟩ = _ := (hS.cell (p := ⟨w.heap.size, 5, none⟩) hWs).trans C5
      refine wanted_go rfl ?_
      clear hI hd hnd
      go_simp
      exact hK.out _ _ hS (Ks.of rfl rfl) (fun _ _ h => h)
    · intro listed A0 w2 hI hd hnd K hK
      have e0 := hI.depv hd 13 18 _ rfl rfl rfl (by kernel_rfl)
      have hS := hI.world
      refine wanted_go rfl ?_
      clear hI hd hnd
      go_simp
      go_at_call 40
      refine (text_c x.text w2 (by omega)).mono ?_
      rintro e w3 hP
      obtain ⟨v, rfl, h1, h2, h3⟩ := NewP.from hP hS
      exact hK.out _ _ h1 (Ks.of rfl h2) (Ks.keep h3)
    · intro listed A0 w2 hI hd hnd K hK
      have e0 := hI.slot hnd 1 _ rfl (by kernel_rfl)
      have hS := hI.world
      refine wanted_go rfl ?_
      clear hI hd hnd
      go_simp
      exact hK.out _ _ hS (Ks.of rfl rfl) (fun _ _ h => h)
    · intro listed A0 w2 hI hd hnd K hK
      have e0 := hI.depv hd 15 20 _ rfl rfl rfl (by kernel_rfl)
      have hS := hI.world
      have hcc : w2.cell? ⟨w.heap.size, 6, none⟩ = _ := (hS.cell (p := ⟨w.heap.size, 6, none⟩) hWs).trans C6
      refine wanted_go rfl ?_
      clear hI hd hnd
      go_simp
      exact hK.out _ _ hS (Ks.of rfl rfl) (fun _ _ h => h)
    · intro listed A0 w2 hI hd hnd K hK
      have e0 := hI.depv hd 16 21 _ rfl rfl rfl (by kernel_rfl)
      have hS := hI.world
      refine wanted_go rfl ?_
      clear hI hd hnd
      go_simp
      exact hK.out _ _ hS (Ks.of rfl rfl) (fun _ _ h => h)
    · intro listed A0 w2 hI hd hnd K hK
      have e0 := hI.depv hd 17 22 _ rfl rfl rfl (by kernel_rfl)
      have hS := hI.world
      refine wanted_go rfl ?_
      clear hI hd hnd
      go_simp
      go_at_call 14
      refine (refInt_c (x.lines.length : Int) w2 (by first | exact And.left (by assumption) | omega) (by first | exact And.right (by assumption) | omega)).mono ?_
      rintro e w3 hP
      obtain ⟨v, rfl, h1, h2, h3⟩ := NewP.from hP hS
      exact hK.out _ _ h1 (Ks.of rfl h2) (Ks.keep h3)
    · intro listed A0 w2 hI hd hnd K hK
      obtain ⟨x0, e0, h0⟩ := hI.dep hd 11 16 rfl rfl rfl (by kernel_rfl)
      obtain ⟨x1, e1, h1⟩ := hI.dep hd 14 19 rfl rfl rfl (by kernel_rfl)
      obtain ⟨x2, e2, h2⟩ := hI.dep hd 18 23 rfl rfl rfl (by kernel_rfl)
      have hS := hI.world
      obtain ⟨A0, n0, c0, rfl⟩ := Bytes.shape h0.1
      obtain ⟨A1, n1, c1, rfl⟩ := Bytes.shape h1.1
      obtain ⟨A2, n2, c2, rfl⟩ := Bytes.shape h2.1
      have HPP := Lib.hid (Parts.cons h0 (Parts.cons h1 (Parts.cons h2 (Parts.nil w2))))
      refine wanted_go rfl ?_
      clear hI hd hnd h0 h1 h2
      go_simp
      exact hK.out _ _ (hS.alloc hS.size _) (Ks.of rfl (NewParts.made (W := W) _ [([x.id, x.entity, x.date, x.kind, x.of_] : List Int).flatMap enc, encS x.text, enc (x.lines.length : Int)] 3 rfl rfl _ rfl _ rfl HPP.out)) (Ks.keep (below1 w2 _))
    · intro listed A0 w2 hI hd hnd K hK
      obtain ⟨x0, e0, h0⟩ := hI.dep hd 19 24 rfl rfl rfl (by kernel_rfl)
      obtain ⟨bb0, vs0, rfl, hr0, hp0⟩ := h0
      have hS := hI.world
      have HPP := Lib.hid hp0
      clear hp0
      refine wanted_go rfl ?_
      clear hI hd hnd
      go_simp
      go_at_call 64
      refine (join_n _ _ _ vs0 [([x.id, x.entity, x.date, x.kind, x.of_] : List Int).flatMap enc, encS x.text, enc (x.lines.length : Int)] (enc x.id ++ enc x.entity ++ enc x.date ++ enc x.kind ++ enc x.of_ ++ encS x.text ++ enc (x.lines.length : Int)) w2 rfl (by simp [List.flatMap]) hr0 HPP.out HLL.out (by simp)).mono ?_
      rintro e w3 hP
      obtain ⟨v, rfl, h1, h2, h3⟩ := NewP.from hP hS
      exact hK.out _ _ h1 (Ks.of rfl h2) (Ks.keep h3)
    · intro listed A0 w2 hI hd hnd K hK
      obtain ⟨x0, e0, h0⟩ := hI.dep hd 20 25 rfl rfl rfl (by kernel_rfl)
      have hS := hI.world
      refine wanted_go rfl ?_
      clear hI hd hnd
      go_simp
      exact hK.out _ _ hS (Ks.of rfl h0) (fun _ _ h => h)
  · intro listed A0 w2 hI hall
    obtain ⟨x0, g0, h0⟩ := hI.got 0 _ 5 rfl rfl (hall 0 (by decide))
    obtain ⟨x1, g1, h1⟩ := hI.got 1 _ 6 rfl rfl (hall 1 (by decide))
    obtain ⟨x2, g2, h2⟩ := hI.got 2 _ 7 rfl rfl (hall 2 (by decide))
    obtain ⟨x3, g3, h3⟩ := hI.got 3 _ 8 rfl rfl (hall 3 (by decide))
    obtain ⟨x4, g4, h4⟩ := hI.got 4 _ 9 rfl rfl (hall 4 (by decide))
    obtain ⟨x5, g5, h5⟩ := hI.got 5 _ 10 rfl rfl (hall 5 (by decide))
    obtain ⟨x6, g6, h6⟩ := hI.got 6 _ 11 rfl rfl (hall 6 (by decide))
    obtain ⟨x7, g7, h7⟩ := hI.got 7 _ 12 rfl rfl (hall 7 (by decide))
    obtain ⟨x8, g8, h8⟩ := hI.got 8 _ 13 rfl rfl (hall 8 (by decide))
    obtain ⟨x9, g9, h9⟩ := hI.got 9 _ 14 rfl rfl (hall 9 (by decide))
    obtain ⟨x10, g10, h10⟩ := hI.got 10 _ 15 rfl rfl (hall 10 (by decide))
    obtain ⟨x11, g11, h11⟩ := hI.got 11 _ 16 rfl rfl (hall 11 (by decide))
    obtain ⟨x12, g12, h12⟩ := hI.got 12 _ 17 rfl rfl (hall 12 (by decide))
    obtain ⟨x13, g13, h13⟩ := hI.got 13 _ 18 rfl rfl (hall 13 (by decide))
    obtain ⟨x14, g14, h14⟩ := hI.got 14 _ 19 rfl rfl (hall 14 (by decide))
    obtain ⟨x15, g15, h15⟩ := hI.got 15 _ 20 rfl rfl (hall 15 (by decide))
    obtain ⟨x16, g16, h16⟩ := hI.got 16 _ 21 rfl rfl (hall 16 (by decide))
    obtain ⟨x17, g17, h17⟩ := hI.got 17 _ 22 rfl rfl (hall 17 (by decide))
    obtain ⟨x18, g18, h18⟩ := hI.got 18 _ 23 rfl rfl (hall 18 (by decide))
    obtain ⟨x19, g19, h19⟩ := hI.got 19 _ 24 rfl rfl (hall 19 (by decide))
    obtain ⟨x20, g20, h20⟩ := hI.got 20 _ 25 rfl rfl (hall 20 (by decide))
    obtain ⟨x21, g21, h21⟩ := hI.got 21 _ 3 rfl rfl (hall 21 (by decide))
    have hS := hI.world
    have hA : A0 = _ := hI.tmps [(5, x0), (6, x1), (7, x2), (8, x3), (9, x4), (10, x5), (11, x6), (12, x7), (13, x8), (14, x9), (15, x10), (16, x11), (17, x12), (18, x13), (19, x14), (20, x15), (21, x16), (22, x17), (23, x18), (24, x19), (25, x20), (3, x21)] (by simp only [List.mem_cons, List.not_mem_nil, or_false, forall_eq_or_imp, forall_eq]; exact ⟨g0, g1, g2, g3, g4, g5, g6, g7, g8, g9, g10, g11, g12, g13, g14, g15, g16, g17, g18, g19, g20, g21⟩) (by kernel_rfl)
    have k21 : NewBytes W w2 x21 (enc x.id ++ enc x.entity ++ enc x.date ++ enc x.kind ++ enc x.of_ ++ encS x.text ++ enc (x.lines.length : Int)) := h21 _ rfl
    clear h0 g0 h1 g1 h2 g2 h3 g3 h4 g4 h5 g5 h6 g6 h7 g7 h8 g8 h9 g9 h10 g10 h11 g11 h12 g12 h13 g13 h14 g14 h15 g15 h16 g16 h17 g17 h18 g18 h19 g19 h20 g20 h21 g21 hI hall
    simp only [setAll, List.foldl, List.setIfInBounds_toArray, List.set_cons_zero, List.set_cons_succ] at hA
    rw [hA]
    clear hA
    have hll2 := HLL.out
    generalize hP0 : enc x.id ++ enc x.entity ++ enc x.date ++ enc x.kind ++ enc x.of_ ++ encS x.text ++ enc (x.lines.length : Int) = P0 at *
    have HP0 := Lib.hid hP0
    clear hP0 HLL C0 C1 C2 C3 C4 C5
    go_wp2_with fail
    go_loopw [3, 4] (fun o i wr => ∃ k : Nat, k ≤ x.lines.length ∧ i = .int .i64 (k : Int) ∧ NewBytes W wr o (P0 ++ (x.lines.take k).flatMap encLine)) (fun _ i _ => x.lines.length - (intOf i).toNat)
    case atStart => exact ⟨0, by omega, rfl, by simpa using k21⟩
    case round =>
      obtain ⟨k, hk, rfl, hn⟩ := hrel
      have K6 := (hn.2.2.cell (p := ⟨w.heap.size, 6, none⟩) hWs).trans C6
      have hb4 : w.heap.size < wr.heap.size := by have := hn.2.2.size; omega
      by_cases hlt : k < x.lines.length
      · have hltI : (k : Int) < (x.lines.length : Int) := by omega
        obtain ⟨b2, o2, rfl, hbb, hi⟩ := hel (by omega)
        obtain ⟨es, ⟨c0, c1, c2, rfl, ⟨rfl, hb0⟩, ⟨rfl, hb1⟩, ⟨rfl, hb2⟩⟩, hae⟩ := hi k x.lines[k] (List.getElem?_eq_getElem hlt)
        have hae2 := hae.fr (Fr.ofBelow (hn.2.2.mono (Nat.le_of_lt hWs)))
        have k0 := hae2.c (j := 0) rfl
        have k1 := hae2.c (j := 1) rfl
        have k2 := hae2.c (j := 2) rfl
        have hb3 : b2 < wr.heap.size := by omega
        have htk : (x.lines.take (k + 1)).flatMap encLine = (x.lines.take k).flatMap encLine ++ encLine x.lines[k] := by
          rw [List.take_succ_eq_append_getElem hlt, List.flatMap_append]; simp only [List.flatMap_cons, List.flatMap_nil, List.append_nil]
        have HT := Lib.hid htk
        clear htk hae hi hel
        go_wp2_with fail
        refine wp_region_inv2 21 (Ks wr [.val (u3), .val (.pointer (some ⟨w.heap.size, 6, none⟩)), .val (.slice (some ⟨b2, o2, none⟩) x.lines.length cal), .val (.int .i64 (k : Int)), .val (.pointer (some ⟨b2, o2 + k * 3, none⟩)), .val (.pointer (some ⟨b2, o2 + k * 3, none⟩)), .val (.int .i64 x.lines[k].account), .val (.pointer (some ⟨w.heap.size, 6, none⟩)), .val (.slice (some ⟨b2, o2, none⟩) x.lines.length cal), .val (.int .i64 (k : Int)), .val (.pointer (some ⟨b2, o2 + k * 3, none⟩)), .val (.pointer (some ⟨b2, o2 + k * 3 + 1, none⟩)), .val (.int .i64 x.lines[k].amount), .val (.pointer (some ⟨w.heap.size, 6, none⟩)), .val (.slice (some ⟨b2, o2, none⟩) x.lines.length cal), .val (.int .i64 (k : Int)), .val (.pointer (some ⟨b2, o2 + k * 3, none⟩)), .val (.pointer (some ⟨b2, o2 + k * 3 + 2, none⟩)), .val (.int .i64 x.lines[k].partner), .ints [x.lines[k].account, x.lines[k].amount, x.lines[k].partner], .row (encLine x.lines[k])])
          (fun w' => Below wr.heap.size wr w') (by kernel_rfl) (by kernel_rfl) (by kernel_rfl) (by decide) (by kernel_rfl) (by kernel_rfl) (Below.refl _ _).drew ?_ ?_
        · refine ⟨?_, ?_, ?_, ?_, ?_, ?_, ?_, ?_, ?_, ?_, ?_, ?_, ?_, ?_, ?_, ?_, ?_, ?_, ?_, ?_, ?_, trivial⟩
          · intro listed A0 w2 hI hd hnd K hK
            have e0 := hI.slot hnd 3 _ rfl (by kernel_rfl)
            have hS := hI.world
            refine wanted_go rfl ?_
            clear hI hd hnd
            go_simp
            exact hK.out _ _ hS (Ks.of rfl rfl) (fun _ _ h => h)
          · intro listed A0 w2 hI hd hnd K hK
            have e0 := hI.slot hnd 1 _ rfl (by kernel_rfl)
            have hS := hI.world
            refine wanted_go rfl ?_
            clear hI hd hnd
            go_simp
            exact hK.out _ _ hS (Ks.of rfl rfl) (fun _ _ h => h)
          · intro listed A0 w2 hI hd hnd K hK
            have e0 := hI.depv hd 1 34 _ rfl rfl rfl (by kernel_rfl)
            have hS := hI.world
            have hcc : w2.cell? ⟨w.heap.size, 6, none⟩ = _ := (hS.cell (p := ⟨w.heap.size, 6, none⟩) hb4).trans K6
            refine wanted_go rfl ?_
            clear hI hd hnd
            go_simp
            exact hK.out _ _ hS (Ks.of rfl rfl) (fun _ _ h => h)
          · intro listed A0 w2 hI hd hnd K hK
            have e0 := hI.slot hnd 4 _ rfl (by kernel_rfl)
            have hS := hI.world
            refine wanted_go rfl ?_
            clear hI hd hnd
            go_simp
            exact hK.out _ _ hS (Ks.of rfl rfl) (fun _ _ h => h)
          · intro listed A0 w2 hI hd hnd K hK
            have e0 := hI.depv hd 2 35 _ rfl rfl rfl (by kernel_rfl)
            have e1 := hI.depv hd 3 36 _ rfl rfl rfl (by kernel_rfl)
            have hS := hI.world
            refine wanted_go rfl ?_
            clear hI hd hnd
            go_simp
            exact hK.out _ _ hS (Ks.of rfl rfl) (fun _ _ h => h)
          · intro listed A0 w2 hI hd hnd K hK
            have e0 := hI.depv hd 4 37 _ rfl rfl rfl (by kernel_rfl)
            have hS := hI.world
            refine wanted_go rfl ?_
            clear hI hd hnd
            go_simp
            exact hK.out _ _ hS (Ks.of rfl rfl) (fun _ _ h => h)
          · intro listed A0 w2 hI hd hnd K hK
            have e0 := hI.depv hd 5 38 _ rfl rfl rfl (by kernel_rfl)
            have hS := hI.world
            have hcc : w2.cell? ⟨b2, o2 + k * 3, none⟩ = _ := (hS.cell (p := ⟨b2, o2 + k * 3, none⟩) hb3).trans k0
            refine wanted_go rfl ?_
            clear hI hd hnd
            go_simp
            exact hK.out _ _ hS (Ks.of rfl rfl) (fun _ _ h => h)
          · intro listed A0 w2 hI hd hnd K hK
            have e0 := hI.slot hnd 1 _ rfl (by kernel_rfl)
            have hS := hI.world
            refine wanted_go rfl ?_
            clear hI hd hnd
            go_simp
            exact hK.out _ _ hS (Ks.of rfl rfl) (fun _ _ h => h)
          · intro listed A0 w2 hI hd hnd K hK
            have e0 := hI.depv hd 7 40 _ rfl rfl rfl (by kernel_rfl)
            have hS := hI.world
            have hcc : w2.cell? ⟨w.heap.size, 6, none⟩ = _ := (hS.cell (p := ⟨w.heap.size, 6, none⟩) hb4).trans K6
            refine wanted_go rfl ?_
            clear hI hd hnd
            go_simp
            exact hK.out _ _ hS (Ks.of rfl rfl) (fun _ _ h => h)
          · intro listed A0 w2 hI hd hnd K hK
            have e0 := hI.slot hnd 4 _ rfl (by kernel_rfl)
            have hS := hI.world
            refine wanted_go rfl ?_
            clear hI hd hnd
            go_simp
            exact hK.out _ _ hS (Ks.of rfl rfl) (fun _ _ h => h)
          · intro listed A0 w2 hI hd hnd K hK
            have e0 := hI.depv hd 8 41 _ rfl rfl rfl (by kernel_rfl)
            have e1 := hI.depv hd 9 42 _ rfl rfl rfl (by kernel_rfl)
            have hS := hI.world
            refine wanted_go rfl ?_
            clear hI hd hnd
            go_simp
            exact hK.out _ _ hS (Ks.of rfl rfl) (fun _ _ h => h)
          · intro listed A0 w2 hI hd hnd K hK
            have e0 := hI.depv hd 10 43 _ rfl rfl rfl (by kernel_rfl)
            have hS := hI.world
            refine wanted_go rfl ?_
            clear hI hd hnd
            go_simp
            exact hK.out _ _ hS (Ks.of rfl rfl) (fun _ _ h => h)
          · intro listed A0 w2 hI hd hnd K hK
            have e0 := hI.depv hd 11 44 _ rfl rfl rfl (by kernel_rfl)
            have hS := hI.world
            have hcc : w2.cell? ⟨b2, o2 + k * 3 + 1, none⟩ = _ := (hS.cell (p := ⟨b2, o2 + k * 3 + 1, none⟩) hb3).trans k1
            refine wanted_go rfl ?_
            clear hI hd hnd
            go_simp
            exact hK.out _ _ hS (Ks.of rfl rfl) (fun _ _ h => h)
          · intro listed A0 w2 hI hd hnd K hK
            have e0 := hI.slot hnd 1 _ rfl (by kernel_rfl)
            have hS := hI.world
            refine wanted_go rfl ?_
            clear hI hd hnd
            go_simp
            exact hK.out _ _ hS (Ks.of rfl rfl) (fun _ _ h => h)
          · intro listed A0 w2 hI hd hnd K hK
            have e0 := hI.depv hd 13 46 _ rfl rfl rfl (by kernel_rfl)
            have hS := hI.world
            have hcc : w2.cell? ⟨w.heap.size, 6, none⟩ = _ := (hS.cell (p := ⟨w.heap.size, 6, none⟩) hb4).trans K6
            refine wanted_go rfl ?_
            clear hI hd hnd
            go_simp
            exact hK.out _ _ hS (Ks.of rfl rfl) (fun _ _ h => h)
          · intro listed A0 w2 hI hd hnd K hK
            have e0 := hI.slot hnd 4 _ rfl (by kernel_rfl)
            have hS := hI.world
            refine wanted_go rfl ?_
            clear hI hd hnd
            go_simp
            exact hK.out _ _ hS (Ks.of rfl rfl) (fun _ _ h => h)
          · intro listed A0 w2 hI hd hnd K hK
            have e0 := hI.depv hd 14 47 _ rfl rfl rfl (by kernel_rfl)
            have e1 := hI.depv hd 15 48 _ rfl rfl rfl (by kernel_rfl)
            have hS := hI.world
            refine wanted_go rfl ?_
            clear hI hd hnd
            go_simp
            exact hK.out _ _ hS (Ks.of rfl rfl) (fun _ _ h => h)
          · intro listed A0 w2 hI hd hnd K hK
            have e0 := hI.depv hd 16 49 _ rfl rfl rfl (by kernel_rfl)
            have hS := hI.world
            refine wanted_go rfl ?_
            clear hI hd hnd
            go_simp
            exact hK.out _ _ hS (Ks.of rfl rfl) (fun _ _ h => h)
          · intro listed A0 w2 hI hd hnd K hK
            have e0 := hI.depv hd 17 50 _ rfl rfl rfl (by kernel_rfl)
            have hS := hI.world
            have hcc : w2.cell? ⟨b2, o2 + k * 3 + 2, none⟩ = _ := (hS.cell (p := ⟨b2, o2 + k * 3 + 2, none⟩) hb3).trans k2
            refine wanted_go rfl ?_
            clear hI hd hnd
            go_simp
            exact hK.out _ _ hS (Ks.of rfl rfl) (fun _ _ h => h)
          · intro listed A0 w2 hI hd hnd K hK
            have e0 := hI.depv hd 6 39 _ rfl rfl rfl (by kernel_rfl)
            have e1 := hI.depv hd 12 45 _ rfl rfl rfl (by kernel_rfl)
            have e2 := hI.depv hd 18 51 _ rfl rfl rfl (by kernel_rfl)
            have hS := hI.world
            refine wanted_go rfl ?_
            clear hI hd hnd
            go_simp
            exact hK.out _ _ (hS.alloc hS.size _) (Ks.of rfl (NewInts.made (W := wr) [x.lines[k].account, x.lines[k].amount, x.lines[k].partner] 3 rfl _ rfl _ rfl)) (Ks.keep (below1 w2 _))
          · intro listed A0 w2 hI hd hnd K hK
            obtain ⟨x0, e0, h0⟩ := hI.dep hd 19 52 rfl rfl rfl (by kernel_rfl)
            obtain ⟨bb0, rfl, hr0⟩ := h0
            have hS := hI.world
            refine wanted_go rfl ?_
            clear hI hd hnd
            go_simp
            go_at_call 41
            refine (ints_n _ _ _ [x.lines[k].account, x.lines[k].amount, x.lines[k].partner] (encLine x.lines[k]) w2 rfl (by simp [encLine]) hr0 (by simp [hb0, hb1, hb2]) (by simp)).mono ?_
            rintro e w3 hP
            obtain ⟨v, rfl, h1, h2, h3⟩ := NewP.from hP hS
            exact hK.out _ _ h1 (Ks.of rfl h2) (Ks.keep h3)
        · intro f A0 w2 hI
          obtain ⟨x0, g0, h0⟩ := hI.got 0 _ 33 rfl rfl rfl
          obtain ⟨x1, g1, h1⟩ := hI.got 1 _ 34 rfl rfl rfl
          obtain ⟨x2, g2, h2⟩ := hI.got 2 _ 35 rfl rfl rfl
          obtain ⟨x3, g3, h3⟩ := hI.got 3 _ 36 rfl rfl rfl
          obtain ⟨x4, g4, h4⟩ := hI.got 4 _ 37 rfl rfl rfl
          obtain ⟨x5, g5, h5⟩ := hI.got 5 _ 38 rfl rfl rfl
          obtain ⟨x6, g6, h6⟩ := hI.got 6 _ 39 rfl rfl rfl
          obtain ⟨x7, g7, h7⟩ := hI.got 7 _ 40 rfl rfl rfl
          obtain ⟨x8, g8, h8⟩ := hI.got 8 _ 41 rfl rfl rfl
          obtain ⟨x9, g9, h9⟩ := hI.got 9 _ 42 rfl rfl rfl
          obtain ⟨x10, g10, h10⟩ := hI.got 10 _ 43 rfl rfl rfl
          obtain ⟨x11, g11, h11⟩ := hI.got 11 _ 44 rfl rfl rfl
          obtain ⟨x12, g12, h12⟩ := hI.got 12 _ 45 rfl rfl rfl
          obtain ⟨x13, g13, h13⟩ := hI.got 13 _ 46 rfl rfl rfl
          obtain ⟨x14, g14, h14⟩ := hI.got 14 _ 47 rfl rfl rfl
          obtain ⟨x15, g15, h15⟩ := hI.got 15 _ 48 rfl rfl rfl
          obtain ⟨x16, g16, h16⟩ := hI.got 16 _ 49 rfl rfl rfl
          obtain ⟨x17, g17, h17⟩ := hI.got 17 _ 50 rfl rfl rfl
          obtain ⟨x18, g18, h18⟩ := hI.got 18 _ 51 rfl rfl rfl
          obtain ⟨x19, g19, h19⟩ := hI.got 19 _ 52 rfl rfl rfl
          obtain ⟨x20, g20, h20⟩ := hI.got 20 _ 53 rfl rfl rfl
          have hS := hI.world
          have o54 := hI.oldHead 54 (by kernel_rfl)
          have o3 := hI.oldHead 3 (by kernel_rfl)
          have hA : A0 = _ := hI.tmps [(33, x0), (34, x1), (35, x2), (36, x3), (37, x4), (38, x5), (39, x6), (40, x7), (41, x8), (42, x9), (43, x10), (44, x11), (45, x12), (46, x13), (47, x14), (48, x15), (49, x16), (50, x17), (51, x18), (52, x19), (53, x20), (54, u54), (3, u3)] (by simp only [List.mem_cons, List.not_mem_nil, or_false, forall_eq_or_imp, forall_eq]; exact ⟨g0, g1, g2, g3, g4, g5, g6, g7, g8, g9, g10, g11, g12, g13, g14, g15, g16, g17, g18, g19, g20, o54, o3⟩) (by kernel_rfl)
          obtain rfl : x0 = u3 := h0 _ rfl
          have k20 : NewBytes wr w2 x20 (encLine x.lines[k]) := h20 _ rfl
          clear h0 g0 h1 g1 h2 g2 h3 g3 h4 g4 h5 g5 h6 g6 h7 g7 h8 g8 h9 g9 h10 g10 h11 g11 h12 g12 h13 g13 h14 g14 h15 g15 h16 g16 h17 g17 h18 g18 h19 g19 h20 g20 o54 o3 hI
          simp only [setAll, List.foldl, List.setIfInBounds_toArray, List.set_cons_zero, List.set_cons_succ] at hA
          rw [hA]
          clear hA
          have hn2 := hn.keep hS
          have hl3 := enc_len x.lines[k].account
          have hl4 := enc_len x.lines[k].amount
          have hl4b := enc_len x.lines[k].partner
          have hl5 : (encLine x.lines[k]).length ≤ 30 := by simp only [encLine, List.length_append]; omega
          have hl6 := flat_le_n encLine 30 (fun x => by have := enc_len x.account; have := enc_len x.amount; have := enc_len x.partner; simp only [encLine, List.length_append]; omega) (x.lines.take k)
          have hl7 : (x.lines.take k).length ≤ x.lines.length := by rw [List.length_take]; omega
          obtain ⟨Ar, cr, rfl, _, _⟩ := k20.1.form
          show wpAny _ _ _ _ (f + 1 + 1) _ _ _
          refine wpAny_all (rs := [21]) (by kernel_rfl) (by simp) ?_
          intro i hi
          obtain rfl : i = 21 := by simpa using hi
          refine wpOp_step (o := _) rfl (fun K hK => ?_)
          refine step_appB _ rfl (.tmp 33) (.tmp 53) rfl _ (P0 ++ (x.lines.take k).flatMap encLine) rfl hn2.1 (· < w2.heap.size) Ar cr (encLine x.lines[k]) rfl (k20.1.rd (fun k hk => k20.1.lt hk)).2 (by unfold Lim; simp only [List.length_append]; omega) ?_
          intro v13 w13 hby hg hat
          refine hK _ _ ?_
          refine wpAny_all (rs := [22]) (by kernel_rfl) (by simp) ?_
          intro i hi
          obtain rfl : i = 22 := by simpa using hi
          refine wpOp_step (o := _) rfl (fun K hK => ?_)
          refine wanted_go rfl ?_
          go_simp
          refine hK _ _ ?_
          refine wpAny_done (by kernel_rfl) ?_ _
          go_wp2_with fail
          go_roundw
          case rel =>
            refine ⟨k + 1, by omega, by go_num, ?_⟩
            rw [HT.out, ← List.append_assoc]
            exact hn2.app hby hg hat
          case measure => simp [intOf]; omega
      · have hkk : k = x.lines.length := by omega
        subst hkk
        rw [List.take_length] at hn
        have hltI : ¬ ((x.lines.length : Nat) : Int) < (x.lines.length : Int) := by omega
        go_wp2_with fail
        go_ret
        have e : encEntry x = P0 ++ x.lines.flatMap encLine := by
          rw [← HP0.out]
          simp only [encEntry, encL, List.append_assoc]
        rw [e]
        exact NewP.below ⟨_, rfl, hn⟩ hbW

theorem encL_len_n {α : Type} (g : α → List UInt8) (n : Nat) (h : ∀ x, (g x).length ≤ n) (l : List α) : (encL g l).length ≤ n * l.length + 10 := by
  have h1 := flat_le_n g n h l
  have h2 := enc_len (l.length : Int)
  simp only [encL, List.length_append]; omega
theorem encRef_len (x : XRef) : (encRef x).length ≤ 20 := by
  have := enc_len x.entry; have := enc_len x.line; simp only [encRef, List.length_append]; omega
theorem encLine_len (x : XLine) : (encLine x).length ≤ 30 := by
  have := enc_len x.account; have := enc_len x.amount; have := enc_len x.partner; simp only [encLine, List.length_append]; omega
theorem encMatch_len (x : XMatch) : (encMatch x).length ≤ 40 + 20 * (x.left.length + x.right.length) := by
  have h1 := enc_len x.id
  have h2 := enc_len x.state
  have h3 := encL_len_n encRef 20 encRef_len x.left
  have h4 := encL_len_n encRef 20 encRef_len x.right
  simp only [encMatch, List.length_append]
  omega
theorem encEntry_len (x : XEntry) : (encEntry x).length ≤ 70 + x.text.size + 30 * x.lines.length := by
  have h1 := enc_len x.id
  have h2 := enc_len x.entity
  have h3 := enc_len x.date
  have h4 := enc_len x.kind
  have h5 := enc_len x.of_
  have h6 := encL_len_n encLine 30 encLine_len x.lines
  have h7 := encS_len x.text
  simp only [encEntry, List.length_append]
  omega
set_option maxHeartbeats 1000000 in
set_option maxRecDepth 100000 in
theorem rMatch_c (x : XMatch) (cx : List Value) (w : World) (hx : MatchC w (· < w.heap.size) cx x) (hl : x.left.length ≤ 1000000000) (hr : x.right.length ≤ 1000000000) :
    Calls Try.prog 38 #[.agg cx.toArray] w (NewP w (encMatch x)) := by
  have HX := Lib.hid hx
  clear hx
  have HLL := Lib.hid (show (encMatch x).length ≤ 100000000000 by have := encMatch_len x; omega)
  go_enter Try.func38, Try.ntmps38
  go_wp2_with fail
  have hbox : (w.alloc (Obj.cells cx.toArray 41)).heap[w.heap.size]? = some (Obj.cells cx.toArray 41) := heap_alloc_new w _
  generalize hW : w.alloc (Obj.cells cx.toArray 41) = W at *
  have hbW : Below w.heap.size w W := by rw [← hW]; exact below1 w _
  have hWs : w.heap.size < W.heap.size := by rw [← hW]; simp
  clear hW
  obtain ⟨⟨C0, i0⟩, ⟨cl, hcl, acl⟩, ⟨cr, hcr, acr⟩, ⟨C3, i3⟩⟩ := MatchC.at_ (HX.out.fr (Fr.ofBelow hbW)) (box_at hbox)
  have hcl1 := hcl.len
  have hcr1 := hcr.len
  obtain ⟨vl, rfl⟩ := List.length_eq_one_iff.1 hcl1
  obtain ⟨vr, rfl⟩ := List.length_eq_one_iff.1 hcr1
  have hL := Lib.hid (hcl.mono (Q' := (· < W.heap.size)) (fun h => RefC.mono h (fun k hk => by omega)) (fun k hk => by omega))
  have hR := Lib.hid (hcr.mono (Q' := (· < W.heap.size)) (fun h => RefC.mono h (fun k hk => by omega)) (fun k hk => by omega))
  have C1 := acl.c (j := 0) rfl
  have C2 := acr.c (j := 0) rfl
  simp only [Nat.zero_add, Nat.add_zero] at C1 C2 C3
  clear hbox acl acr hcl hcr hcl1 hcr1
  refine wp_region_inv (Ks W [.val (.pointer (some ⟨w.heap.size, 0, none⟩)), .val (.int .i64 x.id), .row (enc x.id), .val (.pointer (some ⟨w.heap.size, 1, none⟩)), .val (vl), .row (encL encRef x.left), .val (.pointer (some ⟨w.heap.size, 2, none⟩)), .val (vr), .row (encL encRef x.right), .val (.pointer (some ⟨w.heap.size, 3, none⟩)), .val (.int .i64 x.state), .row (enc x.state), .parts [enc x.id, encL encRef x.left, encL encRef x.right, enc x.state], .row (encMatch x), .row (encMatch x)])
    (fun w' => Below W.heap.size W w') (by kernel_rfl) (by kernel_rfl) (by kernel_rfl) (Below.refl _ _).drew ?_ ?_
  · refine ⟨?_, ?_, ?_, ?_, ?_, ?_, ?_, ?_, ?_, ?_, ?_, ?_, ?_, ?_, ?_, trivial⟩
    · intro listed A0 w2 hI hd hnd K hK
      have e0 := hI.slot hnd 1 _ rfl (by kernel_rfl)
      have hS := hI.world
      refine wanted_go rfl ?_
      clear hI hd hnd
      go_simp
      exact hK.out _ _ hS (Ks.of rfl rfl) (fun _ _ h => h)
    · intro listed A0 w2 hI hd hnd K hK
      have e0 := hI.depv hd 0 3 _ rfl rfl rfl (by kernel_rfl)
      have hS := hI.world
      have hcc : w2.cell? ⟨w.heap.size, 0, none⟩ = _ := (hS.cell (p := ⟨w.heap.size, 0, none⟩) hWs).trans C0
      refine wanted_go rfl ?_
      clear hI hd hnd
      go_simp
      exact hK.out _ _ hS (Ks.of rfl rfl) (fun _ _ h => h)
    · intro listed A0 w2 hI hd hnd K hK
      have e0 := hI.depv hd 1 4 _ rfl rfl rfl (by kernel_rfl)
      have hS := hI.world
      refine wanted_go rfl ?_
      clear hI hd hnd
      go_simp
      go_at_call 14
      refine (refInt_c x.id w2 (by first | exact And.left (by assumption) | omega) (by first | exact And.right (by assumption) | omega)).mono ?_
      rintro e w3 hP
      obtain ⟨v, rfl, h1, h2, h3⟩ := NewP.from hP hS
      exact hK.out _ _ h1 (Ks.of rfl h2) (Ks.keep h3)
    · intro listed A0 w2 hI hd hnd K hK
      have e0 := hI.slot hnd 1 _ rfl (by kernel_rfl)
      have hS := hI.world
      refine wanted_go rfl ?_
      clear hI hd hnd
      go_simp
      exact hK.out _ _ hS (Ks.of rfl rfl) (fun _ _ h => h)
    · intro listed A0 w2 hI hd hnd K hK
      have e0 := hI.depv hd 3 6 _ rfl rfl rfl (by kernel_rfl)
      have hS := hI.world
      have hcc : w2.cell? ⟨w.heap.size, 1, none⟩ = _ := (hS.cell (p := ⟨w.heap.size, 1, none⟩) hWs).trans C1
      refine wanted_go rfl ?_
      clear hI hd hnd
      go_simp
      exact hK.out _ _ hS (Ks.of rfl rfl) (fun _ _ h => h)
    · intro listed A0 w2 hI hd hnd K hK
      have e0 := hI.depv hd 4 7 _ rfl rfl rfl (by kernel_rfl)
      have hS := hI.world
      refine wanted_go rfl ?_
      clear hI hd hnd
      go_simp
      go_at_call 65
      refine (rRefs_n _ _ x.left w2 (hL.out.keep RefC.fr RefC.mono hS) rfl (by omega)).mono ?_
      rintro e w3 hP
      obtain ⟨v, rfl, h1, h2, h3⟩ := NewP.from hP hS
      exact hK.out _ _ h1 (Ks.of rfl h2) (Ks.keep h3)
    · intro listed A0 w2 hI hd hnd K hK
      have e0 := hI.slot hnd 1 _ rfl (by kernel_rfl)
      have hS := hI.world
      refine wanted_go rfl ?_
      clear hI hd hnd
      go_simp
      exact hK.out _ _ hS (Ks.of rfl rfl) (fun _ _ h => h)
    · intro listed A0 w2 hI hd hnd K hK
      have e0 := hI.depv hd 6 9 _ rfl rfl rfl (by kernel_rfl)
      have hS := hI.world
      have hcc : w2.cell? ⟨w.heap.size, 2, none⟩ = _ := (hS.cell (p := ⟨w.heap.size, 2, none⟩) hWs).trans C2
      refine wanted_go rfl ?_
      clear hI hd hnd
      go_simp
      exact hK.out _ _ hS (Ks.of rfl rfl) (fun _ _ h => h)
    · intro listed A0 w2 hI hd hnd K hK
      have e0 := hI.depv hd 7 10 _ rfl rfl rfl (by kernel_rfl)
      have hS := hI.world
      refine wanted_go rfl ?_
      clear hI hd hnd
      go_simp
      go_at_call 65
      refine (rRefs_n _ _ x.right w2 (hR.out.keep RefC.fr RefC.mono hS) rfl (by omega)).mono ?_
      rintro e w3 hP
      obtain ⟨v, rfl, h1, h2, h3⟩ := NewP.from hP hS
      exact hK.out _ _ h1 (Ks.of rfl h2) (Ks.keep h3)
    · intro listed A0 w2 hI hd hnd K hK
      have e0 := hI.slot hnd 1 _ rfl (by kernel_rfl)
      have hS := hI.world
      refine wanted_go rfl ?_
      clear hI hd hnd
      go_simp
      exact hK.out _ _ hS (Ks.of rfl rfl) (fun _ _ h => h)
    · intro listed A0 w2 hI hd hnd K hK
      have e0 := hI.depv hd 9 12 _ rfl rfl rfl (by kernel_rfl)
      have hS := hI.world
      have hcc : w2.cell? ⟨w.heap.size, 3, none⟩ = _ := (hS.cell (p := ⟨w.heap.size, 3, none⟩) hWs).trans C3
      refine wanted_go rfl ?_
      clear hI hd hnd
      go_simp
      exact hK.out _ _ hS (Ks.of rfl rfl) (fun _ _ h => h)
    · intro listed A0 w2 hI hd hnd K hK
      have e0 := hI.depv hd 10 13 _ rfl rfl rfl (by kernel_rfl)
      have hS := hI.world
      refine wanted_go rfl ?_
      clear hI hd hnd
      go_simp
      go_at_call 14
      refine (refInt_c x.state w2 (by first | exact And.left (by assumption) | omega) (by first | exact And.right (by assumption) | omega)).mono ?_
      rintro e w3 hP
      obtain ⟨v, rfl, h1, h2, h3⟩ := NewP.from hP hS
      exact hK.out _ _ h1 (Ks.of rfl h2) (Ks.keep h3)
    · intro listed A0 w2 hI hd hnd K hK
      obtain ⟨x0, e0, h0⟩ := hI.dep hd 2 5 rfl rfl rfl (by kernel_rfl)
      obtain ⟨x1, e1, h1⟩ := hI.dep hd 5 8 rfl rfl rfl (by kernel_rfl)
      obtain ⟨x2, e2, h2⟩ := hI.dep hd 8 11 rfl rfl rfl (by kernel_rfl)
      obtain ⟨x3, e3, h3⟩ := hI.dep hd 11 14 rfl rfl rfl (by kernel_rfl)
      have hS := hI.world
      obtain ⟨A0, n0, c0, rfl⟩ := Bytes.shape h0.1
      obtain ⟨A1, n1, c1, rfl⟩ := Bytes.shape h1.1
      obtain ⟨A2, n2, c2, rfl⟩ := Bytes.shape h2.1
      obtain ⟨A3, n3, c3, rfl⟩ := Bytes.shape h3.1
      have HPP := Lib.hid (Parts.cons h0 (Parts.cons h1 (Parts.cons h2 (Parts.cons h3 (Parts.nil w2)))))
      refine wanted_go rfl ?_
      clear hI hd hnd h0 h1 h2 h3
      go_simp
      exact hK.out _ _ (hS.alloc hS.size _) (Ks.of rfl (NewParts.made (W := W) _ [enc x.id, encL encRef x.left, encL encRef x.right, enc x.state] 4 rfl rfl _ rfl _ rfl HPP.out)) (Ks.keep (below1 w2 _))
    · intro listed A0 w2 hI hd hnd K hK
      obtain ⟨x0, e0, h0⟩ := hI.dep hd 12 15 rfl rfl rfl (by kernel_rfl)
      obtain ⟨bb0, vs0, rfl, hr0, hp0⟩ := h0
      have hS := hI.world
      have HPP := Lib.hid hp0
      clear hp0
      refine wanted_go rfl ?_
      clear hI hd hnd
      go_simp
      go_at_call 64
      refine (join_n _ _ _ vs0 [enc x.id, encL encRef x.left, encL encRef x.right, enc x.state] (encMatch x) w2 rfl (by simp [encMatch]) hr0 HPP.out HLL.out (by simp)).mono ?_
      rintro e w3 hP
      obtain ⟨v, rfl, h1, h2, h3⟩ := NewP.from hP hS
      exact hK.out _ _ h1 (Ks.of rfl h2) (Ks.keep h3)
    · intro listed A0 w2 hI hd hnd K hK
      obtain ⟨x0, e0, h0⟩ := hI.dep hd 13 16 rfl rfl rfl (by kernel_rfl)
      have hS := hI.world
      refine wanted_go rfl ?_
      clear hI hd hnd
      go_simp
      exact hK.out _ _ hS (Ks.of rfl h0) (fun _ _ h => h)
  · intro listed A0 w2 hI hall
    obtain ⟨x0, g0, h0⟩ := hI.got 0 _ 3 rfl rfl (hall 0 (by decide))
    obtain ⟨x1, g1, h1⟩ := hI.got 1 _ 4 rfl rfl (hall 1 (by decide))
    obtain ⟨x2, g2, h2⟩ := hI.got 2 _ 5 rfl rfl (hall 2 (by decide))
    obtain ⟨x3, g3, h3⟩ := hI.got 3 _ 6 rfl rfl (hall 3 (by decide))
    obtain ⟨x4, g4, h4⟩ := hI.got 4 _ 7 rfl rfl (hall 4 (by decide))
    obtain ⟨x5, g5, h5⟩ := hI.got 5 _ 8 rfl rfl (hall 5 (by decide))
    obtain ⟨x6, g6, h6⟩ := hI.got 6 _ 9 rfl rfl (hall 6 (by decide))
    obtain ⟨x7, g7, h7⟩ := hI.got 7 _ 10 rfl rfl (hall 7 (by decide))
    obtain ⟨x8, g8, h8⟩ := hI.got 8 _ 11 rfl rfl (hall 8 (by decide))
    obtain ⟨x9, g9, h9⟩ := hI.got 9 _ 12 rfl rfl (hall 9 (by decide))
    obtain ⟨x10, g10, h10⟩ := hI.got 10 _ 13 rfl rfl (hall 10 (by decide))
    obtain ⟨x11, g11, h11⟩ := hI.got 11 _ 14 rfl rfl (hall 11 (by decide))
    obtain ⟨x12, g12, h12⟩ := hI.got 12 _ 15 rfl rfl (hall 12 (by decide))
    obtain ⟨x13, g13, h13⟩ := hI.got 13 _ 16 rfl rfl (hall 13 (by decide))
    obtain ⟨x14, g14, h14⟩ := hI.got 14 _ 2 rfl rfl (hall 14 (by decide))
    have hS := hI.world
    have hA : A0 = _ := hI.tmps [(3, x0), (4, x1), (5, x2), (6, x3), (7, x4), (8, x5), (9, x6), (10, x7), (11, x8), (12, x9), (13, x10), (14, x11), (15, x12), (16, x13), (2, x14)] (by simp only [List.mem_cons, List.not_mem_nil, or_false, forall_eq_or_imp, forall_eq]; exact ⟨g0, g1, g2, g3, g4, g5, g6, g7, g8, g9, g10, g11, g12, g13, g14⟩) (by kernel_rfl)
    have k14 : NewBytes W w2 x14 (encMatch x) := h14 _ rfl
    clear h0 g0 h1 g1 h2 g2 h3 g3 h4 g4 h5 g5 h6 g6 h7 g7 h8 g8 h9 g9 h10 g10 h11 g11 h12 g12 h13 g13 h14 g14 hI hall
    simp only [setAll, List.foldl, List.setIfInBounds_toArray, List.set_cons_zero, List.set_cons_succ] at hA
    rw [hA]
    clear hA
    go_wp2_with fail
    go_ret
    exact NewP.below ⟨_, rfl, k14⟩ hbW
end Go.Proofs.Ytgdibeegheddmaa
