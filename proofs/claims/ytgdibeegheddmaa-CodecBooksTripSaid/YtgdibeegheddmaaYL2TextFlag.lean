/- The stream reads strings and bools. Written by gen_l2.py. -/
import Derived.Test.YtgdibeegheddmaaYLa
namespace Go.Proofs.Ytgdibeegheddmaa
open Go Go.RowKit
set_option linter.unusedVariables false
set_option linter.unusedSimpArgs false
attribute [local go_sem ↓] Go.wp_at_zero Go.wp_at_succ
/-- What a reader leaves: the cells of some x in the target's place, in new memory what x leads to; x is what is read, if something is. -/
def RPost {α : Type} (C : World → (Nat → Prop) → List Value → α → Prop) (c : Cod α) (g tb : Nat) (pre post : List Value) (t : TypeId) (st : Option (List UInt8)) (w : World) (e : Ending) (w' : World) : Prop :=
  e = .returned (.tuple #[]) ∧ ∃ (cs : List Value) (x : α), C w' (Nw w w') cs x ∧ c.vl st x ∧ w'.heap[tb]? = some (.cells (pre ++ cs ++ post).toArray t (0, 0)) ∧ RS w' g (c.st st) ∧ Fr (Kp w g tb) w w'
def StrQ (w : World) (Q : Nat → Prop) (cs : List Value) (s : ByteArray) : Prop := StrC cs s
def BoolQ (w : World) (Q : Nat → Prop) (cs : List Value) (b : Bool) : Prop := BoolC cs b
theorem str_none : ∀ {st : Option (List UInt8)}, cInt.st st = none → cStr.st st = none ∧ ∀ s, cStr.vl st s := by
  intro st h
  have e : st.bind cStr.dec = none := by
    cases st with
    | none => rfl
    | some b =>
      have h' : Option.map (·.2) (decInt b) = none := h
      rw [Option.map_eq_none_iff] at h'
      show decStr b = none
      simp [decStr, h']
  exact ⟨by simp [Cod.st, e], fun s p hp => by rw [e] at hp; cases hp⟩
theorem str_some {st : Option (List UInt8)} {l : List UInt8} {n : Int} (h : cInt.st st = some l) (hv : cInt.vl st n) :
    (¬ (0 ≤ n ∧ n ≤ (l.length : Int)) → cStr.st st = none ∧ ∀ s, cStr.vl st s) ∧ (0 ≤ n ∧ n ≤ (l.length : Int) → cStr.st st = some (l.drop n.toNat) ∧ cStr.vl st (bstr (l.take n.toNat))) := by
  cases st with
  | none => cases h
  | some b =>
    have h' : Option.map (·.2) (decInt b) = some l := h
    rw [Option.map_eq_some_iff] at h'
    obtain ⟨p, hp, rfl⟩ := h'
    have hn : p.1 = n := hv p hp
    subst hn
    have e : cStr.dec b = if 0 ≤ p.1 ∧ p.1 ≤ (p.2.length : Int) then some (bstr (p.2.take p.1.toNat), p.2.drop p.1.toNat) else none := by
      show decStr b = _
      simp [decStr, hp]
    constructor
    · intro hc
      rw [if_neg hc] at e
      have e2 : (some b).bind cStr.dec = none := e
      exact ⟨by simp [Cod.st, e2], fun s q hq => by rw [e2] at hq; cases hq⟩
    · intro hc
      rw [if_pos hc] at e
      have e2 : (some b).bind cStr.dec = some (bstr (p.2.take p.1.toNat), p.2.drop p.1.toNat) := e
      exact ⟨by simp [Cod.st, e2], fun q hq => by rw [e2] at hq; injection hq with hq; rw [← hq]⟩
theorem bool_none : ∀ {st : Option (List UInt8)}, cInt.st st = none → cBool.st st = none ∧ ∀ s, cBool.vl st s := by
  intro st h
  have e : st.bind cBool.dec = none := by
    cases st with
    | none => rfl
    | some b =>
      have h' : Option.map (·.2) (decInt b) = none := h
      rw [Option.map_eq_none_iff] at h'
      show decBool b = none
      simp [decBool, h']
  exact ⟨by simp [Cod.st, e], fun s p hp => by rw [e] at hp; cases hp⟩
theorem bool_some {st : Option (List UInt8)} {l : List UInt8} {n : Int} (h : cInt.st st = some l) (hv : cInt.vl st n) :
    (n ≠ 0 ∧ n ≠ 1 → cBool.st st = none ∧ ∀ s, cBool.vl st s) ∧ (n = 0 ∨ n = 1 → cBool.st st = some l ∧ cBool.vl st (decide (n = 1))) := by
  cases st with
  | none => cases h
  | some b =>
    have h' : Option.map (·.2) (decInt b) = some l := h
    rw [Option.map_eq_some_iff] at h'
    obtain ⟨p, hp, rfl⟩ := h'
    have hn : p.1 = n := hv p hp
    subst hn
    have e : cBool.dec b = if p.1 = 0 then some (false, p.2) else if p.1 = 1 then some (true, p.2) else none := by
      show decBool b = _
      simp [decBool, hp]
    constructor
    · intro hc
      rw [if_neg hc.1, if_neg hc.2] at e
      have e2 : (some b).bind cBool.dec = none := e
      exact ⟨by simp [Cod.st, e2], fun s q hq => by rw [e2] at hq; cases hq⟩
    · intro hc
      rcases hc with hc | hc
      · rw [if_pos hc] at e
        have e2 : (some b).bind cBool.dec = some (false, p.2) := e
        exact ⟨by simp [Cod.st, e2], fun q hq => by rw [e2] at hq; injection hq with hq; rw [← hq]; simp [hc]⟩
      · rw [if_neg (by omega), if_pos hc] at e
        have e2 : (some b).bind cBool.dec = some (true, p.2) := e
        exact ⟨by simp [Cod.st, e2], fun q hq => by rw [e2] at hq; injection hq with hq; rw [← hq]; simp [hc]⟩
/-- The stream's cells, opened. -/
theorem RS.open {w : World} {g : Nat} {o : Option (List UInt8)} (h : RS w g o) : ∃ (A : Option Addr) (c : Nat) (L : List UInt8) (bad : Bool), w.heap[g]? = some (.cells #[.slice A L.length c, .bool true, .bool bad] 81 (0, 0)) ∧ Rd w (· < g) A L.length 1 (bv L) ∧ L.length ≤ c ∧ L.length ≤ 100000000 ∧
  (o = none → bad = true) ∧ (∀ l, o = some l → bad = false ∧ l = L) := by
  obtain ⟨A, c, L, bad, h1, h2, h3, h4, h5⟩ := h
  refine ⟨A, c, L, bad, h1, h2, h3, h4, fun e => ?_, fun l e => ?_⟩
  · subst e; exact h5
  · subst e; exact h5
theorem head_strL {w : World} {Q : Nat → Prop} {A : Option Addr} {c k : Nat} {L : List UInt8} (h : Rd w Q A L.length 1 (bv L)) (hk : k ≤ L.length) :
    (convert 22 9 (.slice A k c)).run Try.prog w = .ok (.string (bstr (L.take k))) w := by
  have h2 := h.headN hk
  have e : (L.take k).length = k := by simp; omega
  have := run_str (c := c) h2
  rw [e] at this
  exact this
/-- bad is set. -/
theorem RS.bad {w : World} {g : Nat} {A : Option Addr} {L : List UInt8} {c : Nat} {b : Bool} (hG : w.heap[g]? = some (.cells #[.slice A L.length c, .bool true, .bool b] 81 (0, 0))) (hR : Rd w (· < g) A L.length 1 (bv L)) (hLc : L.length ≤ c) (hLL : L.length ≤ 100000000) : RS (w.setCell ⟨g, 2, none⟩ (.bool true)) g none :=
  ⟨A, c, L, true, heap_setCell_same hG 2 _, hR.fr (Fr.setCell (Q := fun x => x < g) (p := ⟨g, 2, none⟩) (Fr.refl _ w) (fun h : g < g => Nat.lt_irrefl _ h) _), hLc, hLL, rfl⟩
set_option maxHeartbeats 4000000 in
set_option maxRecDepth 100000 in
theorem text_r (g tb o : Nat) (pre post : List Value) (t : TypeId) (st : Option (List UInt8)) (w : World)
    (hs : RS w g st) (hgt : g < tb) (ho : pre.length = o) (hT : w.heap[tb]? = some (.cells (pre ++ [Value.string ⟨#[]⟩] ++ post).toArray t (0, 0))) :
    Calls Try.prog 63 #[.pointer (some ⟨g, 0, none⟩), .pointer (some ⟨tb, o, none⟩)] w (RPost StrQ cStr g tb pre post t st w) := by
  have HPRE := Lib.hid ho
  have hTlt := blk_lt hT
  have hglt := hs.lt
  have HT0 := Lib.hid hT
  have htk0 := blk_get (j := 0) hT ho rfl
  rw [Nat.add_zero] at htk0
  clear ho hT
  go_enter Try.func63, Try.ntmps63
  go_wp2_with fail
  have hfA : Fr (· < w.heap.size) w (w.alloc (.cells #[.int .i64 0] 3)) := (Fr.refl _ w).alloc (fun _ h => h) _
  refine (num_rv g w.heap.size 0 [] [] [0] 3 st (by simp) (by rfl) (by rfl) (hs.alloc _) (by omega) rfl (heap_alloc_new w _) (by simp [intBd]) (by simp)).mono ?_
  rintro e V ⟨rfl, ns', hnl, hnb, hvl, hN, hRS, hfV⟩
  obtain ⟨n, rfl⟩ := List.length_eq_one_iff.1 hnl
  have hv1 : cInt.vl st n := hvl.1
  have hnbd : intBd n := hnb n (by simp)
  have hN1 : V.heap[w.heap.size]? = some (.cells #[.int .i64 n] 3 (0, 0)) := hN
  have hRS1 : RS V g (cInt.st st) := hRS
  have hFV : Fr (· < w.heap.size) w (w.alloc (.cells #[.int .i64 0] 3)) := hfA
  have hTV : V.heap[tb]? = _ := (hfV.block tb ⟨by simp; omega, by omega, by omega⟩).trans ((hfA.block tb hTlt).trans HT0.out)
  have hfW : Fr (Kp w g tb) w V := (hfA.mono (fun k hk => hk.1)).trans (hfV.mono (fun k hk => ⟨by simp; have := hk.1; omega, hk.2.1, by have := hk.1; omega⟩))
  have hnz : V.cell? ⟨w.heap.size, 0, none⟩ = some (.int .i64 n) := blk_cell hN1 0
  have hsz : w.heap.size < V.heap.size := blk_lt hN1
  obtain ⟨A, c, L, bad, hG, hrd, hLc, hLL, hst⟩ := hRS1.open
  have b1 : V.cell? ⟨g, 1, none⟩ = some (.bool true) := blk_cell hG 1
  have HG := Lib.hid hG
  have HRD := Lib.hid hrd
  have HTV := Lib.hid hTV
  have HFW := Lib.hid hfW
  have HV1 := Lib.hid hv1
  have HN := Lib.hid hN1
  clear hN hRS hfV hvl hnb hnl hG hrd hTV hFV hfW hv1 hN1 hfA hs HT0 hRS1
  cases hsti : cInt.st st with
  | none =>
    have hbad : bad = true := hst.1 hsti
    subst hbad
    have HB := Lib.hid (str_none hsti)
    clear hst hsti
    go_wp2_with fail
    refine wp_region_inv' (Ks V [.val (.pointer (some ⟨g, 0, none⟩)), .val (.pointer (some ⟨g, 0, none⟩)), .val (.pointer (some ⟨g, 2, none⟩)), .val (.bool true), .val (.bool true), .val (undef), .val (undef), .val (.bool true), .val (.bool true), .val (undef), .val (undef), .val (undef), .val (undef), .val (undef), .val (undef), .val (undef), .val (.bool true)])
      (fun w' => w' = V.drew) (by kernel_rfl) (by kernel_rfl) (by kernel_rfl) rfl ?_ ?_
    · refine ⟨?_, ?_, ?_, ?_, ?_, ?_, ?_, ?_, ?_, ?_, ?_, ?_, ?_, ?_, ?_, ?_, ?_, trivial⟩
      · intro listed A0 w2 hI hd hnd K hK
        have e0 := hI.slot hnd 0 _ rfl (by kernel_rfl)
        have hS := Lib.hid (show w2 = V.drew from hI.world)
        refine wanted_go rfl ?_
        clear hI hd hnd
        go_simp
        exact hK.out _ _ hS.out (Ks.of rfl rfl) (fun _ _ h => h)
      · intro listed A0 w2 hI hd hnd K hK
        have e0 := hI.depv hd 0 28 _ rfl rfl rfl (by kernel_rfl)
        have hS := Lib.hid (show w2 = V.drew from hI.world)
        refine wanted_go rfl ?_
        clear hI hd hnd
        go_simp
        exact hK.out _ _ hS.out (Ks.of rfl rfl) (fun _ _ h => h)
      · intro listed A0 w2 hI hd hnd K hK
        have e0 := hI.depv hd 1 29 _ rfl rfl rfl (by kernel_rfl)
        have hS := Lib.hid (show w2 = V.drew from hI.world)
        refine wanted_go rfl ?_
        clear hI hd hnd
        go_simp
        exact hK.out _ _ hS.out (Ks.of rfl rfl) (fun _ _ h => h)
      · intro listed A0 w2 hI hd hnd K hK
        have e0 := hI.depv hd 2 30 _ rfl rfl rfl (by kernel_rfl)
        have hS := Lib.hid (show w2 = V.drew from hI.world)
        have hcc : w2.cell? ⟨g, 2, none⟩ = some (.bool true) := by rw [hS.out]; exact blk_cell HG.out 2
        refine wanted_go rfl ?_
        clear hI hd hnd
        go_simp
        exact hK.out _ _ hS.out (Ks.of rfl rfl) (fun _ _ h => h)
      · intro listed A0 w2 hI hd hnd K hK
        have e0 := hI.depv hd 3 31 _ rfl rfl rfl (by kernel_rfl)
        have hS := Lib.hid (show w2 = V.drew from hI.world)
        refine wanted_go rfl ?_
        clear hI hd hnd
        go_simp
        exact hK.out _ _ hS.out (Ks.of rfl rfl) (fun _ _ h => h)
      · intro listed A0 w2 hI hd hnd K hK
        have hS := Lib.hid (show w2 = V.drew from hI.world)
        refine wanted_no rfl (hI.yield hd 4 32 true rfl rfl rfl (by kernel_rfl)) rfl ?_
        exact hK.out _ _ hS.out (Ks.of rfl rfl) (fun _ _ h => h)
      · intro listed A0 w2 hI hd hnd K hK
        have hS := Lib.hid (show w2 = V.drew from hI.world)
        refine wanted_no rfl (hI.yield hd 4 32 true rfl rfl rfl (by kernel_rfl)) rfl ?_
        exact hK.out _ _ hS.out (Ks.of rfl rfl) (fun _ _ h => h)
      · intro listed A0 w2 hI hd hnd K hK
        have e0 := hI.depv hd 4 32 _ rfl rfl rfl (by kernel_rfl)
        have e1 := hI.depv hd 6 34 _ rfl rfl rfl (by kernel_rfl)
        have hS := Lib.hid (show w2 = V.drew from hI.world)
        refine wanted_go rfl ?_
        clear hI hd hnd
        go_simp
        exact hK.out _ _ hS.out (Ks.of rfl rfl) (fun _ _ h => h)
      · intro listed A0 w2 hI hd hnd K hK
        have e0 := hI.depv hd 7 35 _ rfl rfl rfl (by kernel_rfl)
        have hS := Lib.hid (show w2 = V.drew from hI.world)
        refine wanted_go rfl ?_
        clear hI hd hnd
        go_simp
        exact hK.out _ _ hS.out (Ks.of rfl rfl) (fun _ _ h => h)
      · intro listed A0 w2 hI hd hnd K hK
        have hS := Lib.hid (show w2 = V.drew from hI.world)
        refine wanted_no rfl (hI.yield hd 8 36 true rfl rfl rfl (by kernel_rfl)) rfl ?_
        exact hK.out _ _ hS.out (Ks.of rfl rfl) (fun _ _ h => h)
      · intro listed A0 w2 hI hd hnd K hK
        have hS := Lib.hid (show w2 = V.drew from hI.world)
        refine wanted_no rfl (hI.yield hd 8 36 true rfl rfl rfl (by kernel_rfl)) rfl ?_
        exact hK.out _ _ hS.out (Ks.of rfl rfl) (fun _ _ h => h)
      · intro listed A0 w2 hI hd hnd K hK
        have hS := Lib.hid (show w2 = V.drew from hI.world)
        refine wanted_no rfl (hI.yield hd 8 36 true rfl rfl rfl (by kernel_rfl)) rfl ?_
        exact hK.out _ _ hS.out (Ks.of rfl rfl) (fun _ _ h => h)
      · intro listed A0 w2 hI hd hnd K hK
        have hS := Lib.hid (show w2 = V.drew from hI.world)
        refine wanted_no rfl (hI.yield hd 8 36 true rfl rfl rfl (by kernel_rfl)) rfl ?_
        exact hK.out _ _ hS.out (Ks.of rfl rfl) (fun _ _ h => h)
      · intro listed A0 w2 hI hd hnd K hK
        have hS := Lib.hid (show w2 = V.drew from hI.world)
        refine wanted_no rfl (hI.yield hd 8 36 true rfl rfl rfl (by kernel_rfl)) rfl ?_
        exact hK.out _ _ hS.out (Ks.of rfl rfl) (fun _ _ h => h)
      · intro listed A0 w2 hI hd hnd K hK
        have hS := Lib.hid (show w2 = V.drew from hI.world)
        refine wanted_no rfl (hI.yield hd 8 36 true rfl rfl rfl (by kernel_rfl)) rfl ?_
        exact hK.out _ _ hS.out (Ks.of rfl rfl) (fun _ _ h => h)
      · intro listed A0 w2 hI hd hnd K hK
        have hS := Lib.hid (show w2 = V.drew from hI.world)
        refine wanted_no rfl (hI.yield hd 8 36 true rfl rfl rfl (by kernel_rfl)) rfl ?_
        exact hK.out _ _ hS.out (Ks.of rfl rfl) (fun _ _ h => h)
      · intro listed A0 w2 hI hd hnd K hK
        have e0 := hI.depv hd 8 36 _ rfl rfl rfl (by kernel_rfl)
        have e1 := hI.depv hd 15 43 _ rfl rfl rfl (by kernel_rfl)
        have hS := Lib.hid (show w2 = V.drew from hI.world)
        refine wanted_go rfl ?_
        clear hI hd hnd
        go_simp
        exact hK.out _ _ hS.out (Ks.of rfl rfl) (fun _ _ h => h)
    · intro listed A0 w2 hI hall
      obtain ⟨x0, g0, h0⟩ := hI.got 0 _ 28 rfl rfl (hall 0 (by decide))
      obtain ⟨x1, g1, h1⟩ := hI.got 1 _ 29 rfl rfl (hall 1 (by decide))
      obtain ⟨x2, g2, h2⟩ := hI.got 2 _ 30 rfl rfl (hall 2 (by decide))
      obtain ⟨x3, g3, h3⟩ := hI.got 3 _ 31 rfl rfl (hall 3 (by decide))
      obtain ⟨x4, g4, h4⟩ := hI.got 4 _ 32 rfl rfl (hall 4 (by decide))
      obtain ⟨x5, g5, h5⟩ := hI.got 5 _ 33 rfl rfl (hall 5 (by decide))
      obtain ⟨x6, g6, h6⟩ := hI.got 6 _ 34 rfl rfl (hall 6 (by decide))
      obtain ⟨x7, g7, h7⟩ := hI.got 7 _ 35 rfl rfl (hall 7 (by decide))
      obtain ⟨x8, g8, h8⟩ := hI.got 8 _ 36 rfl rfl (hall 8 (by decide))
      obtain ⟨x9, g9, h9⟩ := hI.got 9 _ 37 rfl rfl (hall 9 (by decide))
      obtain ⟨x10, g10, h10⟩ := hI.got 10 _ 38 rfl rfl (hall 10 (by decide))
      obtain ⟨x11, g11, h11⟩ := hI.got 11 _ 39 rfl rfl (hall 11 (by decide))
      obtain ⟨x12, g12, h12⟩ := hI.got 12 _ 40 rfl rfl (hall 12 (by decide))
      obtain ⟨x13, g13, h13⟩ := hI.got 13 _ 41 rfl rfl (hall 13 (by decide))
      obtain ⟨x14, g14, h14⟩ := hI.got 14 _ 42 rfl rfl (hall 14 (by decide))
      obtain ⟨x15, g15, h15⟩ := hI.got 15 _ 43 rfl rfl (hall 15 (by decide))
      obtain ⟨x16, g16, h16⟩ := hI.got 16 _ 44 rfl rfl (hall 16 (by decide))
      obtain rfl : w2 = V.drew := hI.world
      have hA : A0 = _ := hI.tmps [(28, x0), (29, x1), (30, x2), (31, x3), (32, x4), (33, x5), (34, x6), (35, x7), (36, x8), (37, x9), (38, x10), (39, x11), (40, x12), (41, x13), (42, x14), (43, x15), (44, x16)] (by simp only [List.mem_cons, List.not_mem_nil, or_false, forall_eq_or_imp, forall_eq]; exact ⟨g0, g1, g2, g3, g4, g5, g6, g7, g8, g9, g10, g11, g12, g13, g14, g15, g16⟩) (by kernel_rfl)
      obtain rfl : x16 = .bool true := h16 _ rfl
      clear h0 g0 h1 g1 h2 g2 h3 g3 h4 g4 h5 g5 h6 g6 h7 g7 h8 g8 h9 g9 h10 g10 h11 g11 h12 g12 h13 g13 h14 g14 h15 g15 h16 g16 hI hall
      simp only [setAll, List.foldl, List.setIfInBounds_toArray, List.set_cons_zero, List.set_cons_succ] at hA
      rw [hA]
      clear hA
      have f2 : V.frozen? ⟨g, 2, none⟩ = false := blk_frozen HG.out 2
      have c2 := blk_cell HG.out 2
      go_wp2_with fail
      go_end0
      have hfS : Fr (fun i => i ≠ g) V (V.setCell ⟨g, 2, none⟩ (.bool true)).drew := ((Fr.refl _ V).setCell (p := ⟨g, 2, none⟩) (fun h => h rfl) _).drew
      refine ⟨rfl, _, ⟨#[]⟩, rfl, HB.out.2 _, (hfS.block tb (by omega)).trans HTV.out, ?_, HFW.out.trans (hfS.mono (fun i hi => hi.2.1))⟩
      rw [HB.out.1]
      exact (RS.bad (w := V) HG.out HRD.out hLc hLL).drew
  | some l =>
    obtain ⟨hbad, hl⟩ : bad = false ∧ l = L := hst.2 l hsti
    subst hbad hl
    have hsome := Lib.hid (str_some hsti HV1.out)
    clear hsti
    by_cases hlt : n < 0
    · have HB := Lib.hid (hsome.out.1 (by omega))
      have hltI : (n : Int) < 0 := hlt
      go_wp2_with fail
      refine wp_region_inv' (Ks V [.val (.pointer (some ⟨g, 0, none⟩)), .val (.pointer (some ⟨g, 0, none⟩)), .val (.pointer (some ⟨g, 2, none⟩)), .val (.bool false), .val (.bool false), .val (.int .i64 n), .val (.bool true), .val (.bool true), .val (.bool true), .val (undef), .val (undef), .val (undef), .val (undef), .val (undef), .val (undef), .val (undef), .val (.bool true)])
        (fun w' => w' = V.drew) (by kernel_rfl) (by kernel_rfl) (by kernel_rfl) rfl ?_ ?_
      · refine ⟨?_, ?_, ?_, ?_, ?_, ?_, ?_, ?_, ?_, ?_, ?_, ?_, ?_, ?_, ?_, ?_, ?_, trivial⟩
        · intro listed A0 w2 hI hd hnd K hK
          have e0 := hI.slot hnd 0 _ rfl (by kernel_rfl)
          have hS := Lib.hid (show w2 = V.drew from hI.world)
          refine wanted_go rfl ?_
          clear hI hd hnd
          go_simp
          exact hK.out _ _ hS.out (Ks.of rfl rfl) (fun _ _ h => h)
        · intro listed A0 w2 hI hd hnd K hK
          have e0 := hI.depv hd 0 28 _ rfl rfl rfl (by kernel_rfl)
          have hS := Lib.hid (show w2 = V.drew from hI.world)
          refine wanted_go rfl ?_
          clear hI hd hnd
          go_simp
          exact hK.out _ _ hS.out (Ks.of rfl rfl) (fun _ _ h => h)
        · intro listed A0 w2 hI hd hnd K hK
          have e0 := hI.depv hd 1 29 _ rfl rfl rfl (by kernel_rfl)
          have hS := Lib.hid (show w2 = V.drew from hI.world)
          refine wanted_go rfl ?_
          clear hI hd hnd
          go_simp
          exact hK.out _ _ hS.out (Ks.of rfl rfl) (fun _ _ h => h)
        · intro listed A0 w2 hI hd hnd K hK
          have e0 := hI.depv hd 2 30 _ rfl rfl rfl (by kernel_rfl)
          have hS := Lib.hid (show w2 = V.drew from hI.world)
          have hcc : w2.cell? ⟨g, 2, none⟩ = some (.bool false) := by rw [hS.out]; exact blk_cell HG.out 2
          refine wanted_go rfl ?_
          clear hI hd hnd
          go_simp
          exact hK.out _ _ hS.out (Ks.of rfl rfl) (fun _ _ h => h)
        · intro listed A0 w2 hI hd hnd K hK
          have e0 := hI.depv hd 3 31 _ rfl rfl rfl (by kernel_rfl)
          have hS := Lib.hid (show w2 = V.drew from hI.world)
          refine wanted_go rfl ?_
          clear hI hd hnd
          go_simp
          exact hK.out _ _ hS.out (Ks.of rfl rfl) (fun _ _ h => h)
        · intro listed A0 w2 hI hd hnd K hK
          have e0 := hI.slot hnd 4 _ rfl (by kernel_rfl)
          have hS := Lib.hid (show w2 = V.drew from hI.world)
          have hcc : w2.cell? ⟨w.heap.size, 0, none⟩ = some (.int .i64 n) := by rw [hS.out]; exact blk_cell HN.out 0
          refine wanted_yes rfl (hI.yield hd 4 32 false rfl rfl rfl (by kernel_rfl)) ?_
          clear hI hd hnd
          go_simp
          exact hK.out _ _ hS.out (Ks.of rfl rfl) (fun _ _ h => h)
        · intro listed A0 w2 hI hd hnd K hK
          have e0 := hI.depv hd 5 33 _ rfl rfl rfl (by kernel_rfl)
          have hS := Lib.hid (show w2 = V.drew from hI.world)
          refine wanted_yes rfl (hI.yield hd 4 32 false rfl rfl rfl (by kernel_rfl)) ?_
          clear hI hd hnd
          go_simp
          exact hK.out _ _ hS.out (Ks.of rfl rfl) (fun _ _ h => h)
        · intro listed A0 w2 hI hd hnd K hK
          have e0 := hI.depv hd 4 32 _ rfl rfl rfl (by kernel_rfl)
          have e1 := hI.depv hd 6 34 _ rfl rfl rfl (by kernel_rfl)
          have hS := Lib.hid (show w2 = V.drew from hI.world)
          refine wanted_go rfl ?_
          clear hI hd hnd
          go_simp
          exact hK.out _ _ hS.out (Ks.of rfl rfl) (fun _ _ h => h)
        · intro listed A0 w2 hI hd hnd K hK
          have e0 := hI.depv hd 7 35 _ rfl rfl rfl (by kernel_rfl)
          have hS := Lib.hid (show w2 = V.drew from hI.world)
          refine wanted_go rfl ?_
          clear hI hd hnd
          go_simp
          exact hK.out _ _ hS.out (Ks.of rfl rfl) (fun _ _ h => h)
        · intro listed A0 w2 hI hd hnd K hK
          have hS := Lib.hid (show w2 = V.drew from hI.world)
          refine wanted_no rfl (hI.yield hd 8 36 true rfl rfl rfl (by kernel_rfl)) rfl ?_
          exact hK.out _ _ hS.out (Ks.of rfl rfl) (fun _ _ h => h)
        · intro listed A0 w2 hI hd hnd K hK
          have hS := Lib.hid (show w2 = V.drew from hI.world)
          refine wanted_no rfl (hI.yield hd 8 36 true rfl rfl rfl (by kernel_rfl)) rfl ?_
          exact hK.out _ _ hS.out (Ks.of rfl rfl) (fun _ _ h => h)
        · intro listed A0 w2 hI hd hnd K hK
          have hS := Lib.hid (show w2 = V.drew from hI.world)
          refine wanted_no rfl (hI.yield hd 8 36 true rfl rfl rfl (by kernel_rfl)) rfl ?_
          exact hK.out _ _ hS.out (Ks.of rfl rfl) (fun _ _ h => h)
        · intro listed A0 w2 hI hd hnd K hK
          have hS := Lib.hid (show w2 = V.drew from hI.world)
          refine wanted_no rfl (hI.yield hd 8 36 true rfl rfl rfl (by kernel_rfl)) rfl ?_
          exact hK.out _ _ hS.out (Ks.of rfl rfl) (fun _ _ h => h)
        · intro listed A0 w2 hI hd hnd K hK
          have hS := Lib.hid (show w2 = V.drew from hI.world)
          refine wanted_no rfl (hI.yield hd 8 36 true rfl rfl rfl (by kernel_rfl)) rfl ?_
          exact hK.out _ _ hS.out (Ks.of rfl rfl) (fun _ _ h => h)
        · intro listed A0 w2 hI hd hnd K hK
          have hS := Lib.hid (show w2 = V.drew from hI.world)
          refine wanted_no rfl (hI.yield hd 8 36 true rfl rfl rfl (by kernel_rfl)) rfl ?_
          exact hK.out _ _ hS.out (Ks.of rfl rfl) (fun _ _ h => h)
        · intro listed A0 w2 hI hd hnd K hK
          have hS := Lib.hid (show w2 = V.drew from hI.world)
          refine wanted_no rfl (hI.yield hd 8 36 true rfl rfl rfl (by kernel_rfl)) rfl ?_
          exact hK.out _ _ hS.out (Ks.of rfl rfl) (fun _ _ h => h)
        · intro listed A0 w2 hI hd hnd K hK
          have e0 := hI.depv hd 8 36 _ rfl rfl rfl (by kernel_rfl)
          have e1 := hI.depv hd 15 43 _ rfl rfl rfl (by kernel_rfl)
          have hS := Lib.hid (show w2 = V.drew from hI.world)
          refine wanted_go rfl ?_
          clear hI hd hnd
          go_simp
          exact hK.out _ _ hS.out (Ks.of rfl rfl) (fun _ _ h => h)
      · intro listed A0 w2 hI hall
        obtain ⟨x0, g0, h0⟩ := hI.got 0 _ 28 rfl rfl (hall 0 (by decide))
        obtain ⟨x1, g1, h1⟩ := hI.got 1 _ 29 rfl rfl (hall 1 (by decide))
        obtain ⟨x2, g2, h2⟩ := hI.got 2 _ 30 rfl rfl (hall 2 (by decide))
        obtain ⟨x3, g3, h3⟩ := hI.got 3 _ 31 rfl rfl (hall 3 (by decide))
        obtain ⟨x4, g4, h4⟩ := hI.got 4 _ 32 rfl rfl (hall 4 (by decide))
        obtain ⟨x5, g5, h5⟩ := hI.got 5 _ 33 rfl rfl (hall 5 (by decide))
        obtain ⟨x6, g6, h6⟩ := hI.got 6 _ 34 rfl rfl (hall 6 (by decide))
        obtain ⟨x7, g7, h7⟩ := hI.got 7 _ 35 rfl rfl (hall 7 (by decide))
        obtain ⟨x8, g8, h8⟩ := hI.got 8 _ 36 rfl rfl (hall 8 (by decide))
        obtain ⟨x9, g9, h9⟩ := hI.got 9 _ 37 rfl rfl (hall 9 (by decide))
        obtain ⟨x10, g10, h10⟩ := hI.got 10 _ 38 rfl rfl (hall 10 (by decide))
        obtain ⟨x11, g11, h11⟩ := hI.got 11 _ 39 rfl rfl (hall 11 (by decide))
        obtain ⟨x12, g12, h12⟩ := hI.got 12 _ 40 rfl rfl (hall 12 (by decide))
        obtain ⟨x13, g13, h13⟩ := hI.got 13 _ 41 rfl rfl (hall 13 (by decide))
        obtain ⟨x14, g14, h14⟩ := hI.got 14 _ 42 rfl rfl (hall 14 (by decide))
        obtain ⟨x15, g15, h15⟩ := hI.got 15 _ 43 rfl rfl (hall 15 (by decide))
        obtain ⟨x16, g16, h16⟩ := hI.got 16 _ 44 rfl rfl (hall 16 (by decide))
        obtain rfl : w2 = V.drew := hI.world
        have hA : A0 = _ := hI.tmps [(28, x0), (29, x1), (30, x2), (31, x3), (32, x4), (33, x5), (34, x6), (35, x7), (36, x8), (37, x9), (38, x10), (39, x11), (40, x12), (41, x13), (42, x14), (43, x15), (44, x16)] (by simp only [List.mem_cons, List.not_mem_nil, or_false, forall_eq_or_imp, forall_eq]; exact ⟨g0, g1, g2, g3, g4, g5, g6, g7, g8, g9, g10, g11, g12, g13, g14, g15, g16⟩) (by kernel_rfl)
        obtain rfl : x16 = .bool true := h16 _ rfl
        clear h0 g0 h1 g1 h2 g2 h3 g3 h4 g4 h5 g5 h6 g6 h7 g7 h8 g8 h9 g9 h10 g10 h11 g11 h12 g12 h13 g13 h14 g14 h15 g15 h16 g16 hI hall
        simp only [setAll, List.foldl, List.setIfInBounds_toArray, List.set_cons_zero, List.set_cons_succ] at hA
        rw [hA]
        clear hA
        have f2 : V.frozen? ⟨g, 2, none⟩ = false := blk_frozen HG.out 2
        have c2 := blk_cell HG.out 2
        go_wp2_with fail
        go_end0
        have hfS : Fr (fun i => i ≠ g) V (V.setCell ⟨g, 2, none⟩ (.bool true)).drew := ((Fr.refl _ V).setCell (p := ⟨g, 2, none⟩) (fun h => h rfl) _).drew
        refine ⟨rfl, _, ⟨#[]⟩, rfl, HB.out.2 _, (hfS.block tb (by omega)).trans HTV.out, ?_, HFW.out.trans (hfS.mono (fun i hi => hi.2.1))⟩
        rw [HB.out.1]
        exact (RS.bad (w := V) HG.out HRD.out hLc hLL).drew
    · have hltI : ¬ (n : Int) < 0 := hlt
      by_cases hgtl : (l.length : Int) < n
      · have HB := Lib.hid (hsome.out.1 (by omega))
        go_wp2_with fail
        refine wp_region_inv' (Ks V [.val (.pointer (some ⟨g, 0, none⟩)), .val (.pointer (some ⟨g, 0, none⟩)), .val (.pointer (some ⟨g, 2, none⟩)), .val (.bool false), .val (.bool false), .val (.int .i64 n), .val (.bool false), .val (.bool false), .val (.bool false), .val (.int .i64 n), .val (.pointer (some ⟨g, 0, none⟩)), .val (.pointer (some ⟨g, 0, none⟩)), .val (.pointer (some ⟨g, 0, none⟩)), .val (.slice A l.length c), .val (.int .i64 (l.length : Int)), .val (.bool true), .val (.bool true)])
          (fun w' => w' = V.drew) (by kernel_rfl) (by kernel_rfl) (by kernel_rfl) rfl ?_ ?_
        · refine ⟨?_, ?_, ?_, ?_, ?_, ?_, ?_, ?_, ?_, ?_, ?_, ?_, ?_, ?_, ?_, ?_, ?_, trivial⟩
          · intro listed A0 w2 hI hd hnd K hK
            have e0 := hI.slot hnd 0 _ rfl (by kernel_rfl)
            have hS := Lib.hid (show w2 = V.drew from hI.world)
            refine wanted_go rfl ?_
            clear hI hd hnd
            go_simp
            exact hK.out _ _ hS.out (Ks.of rfl rfl) (fun _ _ h => h)
          · intro listed A0 w2 hI hd hnd K hK
            have e0 := hI.depv hd 0 28 _ rfl rfl rfl (by kernel_rfl)
            have hS := Lib.hid (show w2 = V.drew from hI.world)
            refine wanted_go rfl ?_
            clear hI hd hnd
            go_simp
            exact hK.out _ _ hS.out (Ks.of rfl rfl) (fun _ _ h => h)
          · intro listed A0 w2 hI hd hnd K hK
            have e0 := hI.depv hd 1 29 _ rfl rfl rfl (by kernel_rfl)
            have hS := Lib.hid (show w2 = V.drew from hI.world)
            refine wanted_go rfl ?_
            clear hI hd hnd
            go_simp
            exact hK.out _ _ hS.out (Ks.of rfl rfl) (fun _ _ h => h)
          · intro listed A0 w2 hI hd hnd K hK
            have e0 := hI.depv hd 2 30 _ rfl rfl rfl (by kernel_rfl)
            have hS := Lib.hid (show w2 = V.drew from hI.world)
            have hcc : w2.cell? ⟨g, 2, none⟩ = some (.bool false) := by rw [hS.out]; exact blk_cell HG.out 2
            refine wanted_go rfl ?_
            clear hI hd hnd
            go_simp
            exact hK.out _ _ hS.out (Ks.of rfl rfl) (fun _ _ h => h)
          · intro listed A0 w2 hI hd hnd K hK
            have e0 := hI.depv hd 3 31 _ rfl rfl rfl (by kernel_rfl)
            have hS := Lib.hid (show w2 = V.drew from hI.world)
            refine wanted_go rfl ?_
            clear hI hd hnd
            go_simp
            exact hK.out _ _ hS.out (Ks.of rfl rfl) (fun _ _ h => h)
          · intro listed A0 w2 hI hd hnd K hK
            have e0 := hI.slot hnd 4 _ rfl (by kernel_rfl)
            have hS := Lib.hid (show w2 = V.drew from hI.world)
            have hcc : w2.cell? ⟨w.heap.size, 0, none⟩ = some (.int .i64 n) := by rw [hS.out]; exact blk_cell HN.out 0
            refine wanted_yes rfl (hI.yield hd 4 32 false rfl rfl rfl (by kernel_rfl)) ?_
            clear hI hd hnd
            go_simp
            exact hK.out _ _ hS.out (Ks.of rfl rfl) (fun _ _ h => h)
          · intro listed A0 w2 hI hd hnd K hK
            have e0 := hI.depv hd 5 33 _ rfl rfl rfl (by kernel_rfl)
            have hS := Lib.hid (show w2 = V.drew from hI.world)
            have hdd : decide (n < 0) = false := decide_eq_false (by omega)
            refine wanted_yes rfl (hI.yield hd 4 32 false rfl rfl rfl (by kernel_rfl)) ?_
            clear hI hd hnd
            go_simp
            exact hK.out _ _ hS.out (Ks.of rfl rfl) (fun _ _ h => h)
          · intro listed A0 w2 hI hd hnd K hK
            have e0 := hI.depv hd 4 32 _ rfl rfl rfl (by kernel_rfl)
            have e1 := hI.depv hd 6 34 _ rfl rfl rfl (by kernel_rfl)
            have hS := Lib.hid (show w2 = V.drew from hI.world)
            refine wanted_go rfl ?_
            clear hI hd hnd
            go_simp
            exact hK.out _ _ hS.out (Ks.of rfl rfl) (fun _ _ h => h)
          · intro listed A0 w2 hI hd hnd K hK
            have e0 := hI.depv hd 7 35 _ rfl rfl rfl (by kernel_rfl)
            have hS := Lib.hid (show w2 = V.drew from hI.world)
            refine wanted_go rfl ?_
            clear hI hd hnd
            go_simp
            exact hK.out _ _ hS.out (Ks.of rfl rfl) (fun _ _ h => h)
          · intro listed A0 w2 hI hd hnd K hK
            have e0 := hI.slot hnd 4 _ rfl (by kernel_rfl)
            have hS := Lib.hid (show w2 = V.drew from hI.world)
            have hcc : w2.cell? ⟨w.heap.size, 0, none⟩ = some (.int .i64 n) := by rw [hS.out]; exact blk_cell HN.out 0
            refine wanted_yes rfl (hI.yield hd 8 36 false rfl rfl rfl (by kernel_rfl)) ?_
            clear hI hd hnd
            go_simp
            exact hK.out _ _ hS.out (Ks.of rfl rfl) (fun _ _ h => h)
          · intro listed A0 w2 hI hd hnd K hK
            have e0 := hI.slot hnd 0 _ rfl (by kernel_rfl)
            have hS := Lib.hid (show w2 = V.drew from hI.world)
            refine wanted_yes rfl (hI.yield hd 8 36 false rfl rfl rfl (by kernel_rfl)) ?_
            clear hI hd hnd
            go_simp
            exact hK.out _ _ hS.out (Ks.of rfl rfl) (fun _ _ h => h)
          · intro listed A0 w2 hI hd hnd K hK
            have e0 := hI.depv hd 10 38 _ rfl rfl rfl (by kernel_rfl)
            have hS := Lib.hid (show w2 = V.drew from hI.world)
            refine wanted_yes rfl (hI.yield hd 8 36 false rfl rfl rfl (by kernel_rfl)) ?_
            clear hI hd hnd
            go_simp
            exact hK.out _ _ hS.out (Ks.of rfl rfl) (fun _ _ h => h)
          · intro listed A0 w2 hI hd hnd K hK
            have e0 := hI.depv hd 11 39 _ rfl rfl rfl (by kernel_rfl)
            have hS := Lib.hid (show w2 = V.drew from hI.world)
            refine wanted_yes rfl (hI.yield hd 8 36 false rfl rfl rfl (by kernel_rfl)) ?_
            clear hI hd hnd
            go_simp
            exact hK.out _ _ hS.out (Ks.of rfl rfl) (fun _ _ h => h)
          · intro listed A0 w2 hI hd hnd K hK
            have e0 := hI.depv hd 12 40 _ rfl rfl rfl (by kernel_rfl)
            have hS := Lib.hid (show w2 = V.drew from hI.world)
            have hcc : w2.cell? ⟨g, 0, none⟩ = some (.slice A l.length c) := by rw [hS.out]; exact blk_cell HG.out 0
            refine wanted_yes rfl (hI.yield hd 8 36 false rfl rfl rfl (by kernel_rfl)) ?_
            clear hI hd hnd
            go_simp
            exact hK.out _ _ hS.out (Ks.of rfl rfl) (fun _ _ h => h)
          · intro listed A0 w2 hI hd hnd K hK
            have e0 := hI.depv hd 13 41 _ rfl rfl rfl (by kernel_rfl)
            have hS := Lib.hid (show w2 = V.drew from hI.world)
            refine wanted_yes rfl (hI.yield hd 8 36 false rfl rfl rfl (by kernel_rfl)) ?_
            clear hI hd hnd
            go_simp
            exact hK.out _ _ hS.out (Ks.of rfl rfl) (fun _ _ h => h)
          · intro listed A0 w2 hI hd hnd K hK
            have e0 := hI.depv hd 9 37 _ rfl rfl rfl (by kernel_rfl)
            have e1 := hI.depv hd 14 42 _ rfl rfl rfl (by kernel_rfl)
            have hS := Lib.hid (show w2 = V.drew from hI.world)
            refine wanted_yes rfl (hI.yield hd 8 36 false rfl rfl rfl (by kernel_rfl)) ?_
            clear hI hd hnd
            go_simp
            exact hK.out _ _ hS.out (Ks.of rfl rfl) (fun _ _ h => h)
          · intro listed A0 w2 hI hd hnd K hK
            have e0 := hI.depv hd 8 36 _ rfl rfl rfl (by kernel_rfl)
            have e1 := hI.depv hd 15 43 _ rfl rfl rfl (by kernel_rfl)
            have hS := Lib.hid (show w2 = V.drew from hI.world)
            refine wanted_go rfl ?_
            clear hI hd hnd
            go_simp
            exact hK.out _ _ hS.out (Ks.of rfl rfl) (fun _ _ h => h)
        · intro listed A0 w2 hI hall
          obtain ⟨x0, g0, h0⟩ := hI.got 0 _ 28 rfl rfl (hall 0 (by decide))
          obtain ⟨x1, g1, h1⟩ := hI.got 1 _ 29 rfl rfl (hall 1 (by decide))
          obtain ⟨x2, g2, h2⟩ := hI.got 2 _ 30 rfl rfl (hall 2 (by decide))
          obtain ⟨x3, g3, h3⟩ := hI.got 3 _ 31 rfl rfl (hall 3 (by decide))
          obtain ⟨x4, g4, h4⟩ := hI.got 4 _ 32 rfl rfl (hall 4 (by decide))
          obtain ⟨x5, g5, h5⟩ := hI.got 5 _ 33 rfl rfl (hall 5 (by decide))
          obtain ⟨x6, g6, h6⟩ := hI.got 6 _ 34 rfl rfl (hall 6 (by decide))
          obtain ⟨x7, g7, h7⟩ := hI.got 7 _ 35 rfl rfl (hall 7 (by decide))
          obtain ⟨x8, g8, h8⟩ := hI.got 8 _ 36 rfl rfl (hall 8 (by decide))
          obtain ⟨x9, g9, h9⟩ := hI.got 9 _ 37 rfl rfl (hall 9 (by decide))
          obtain ⟨x10, g10, h10⟩ := hI.got 10 _ 38 rfl rfl (hall 10 (by decide))
          obtain ⟨x11, g11, h11⟩ := hI.got 11 _ 39 rfl rfl (hall 11 (by decide))
          obtain ⟨x12, g12, h12⟩ := hI.got 12 _ 40 rfl rfl (hall 12 (by decide))
          obtain ⟨x13, g13, h13⟩ := hI.got 13 _ 41 rfl rfl (hall 13 (by decide))
          obtain ⟨x14, g14, h14⟩ := hI.got 14 _ 42 rfl rfl (hall 14 (by decide))
          obtain ⟨x15, g15, h15⟩ := hI.got 15 _ 43 rfl rfl (hall 15 (by decide))
          obtain ⟨x16, g16, h16⟩ := hI.got 16 _ 44 rfl rfl (hall 16 (by decide))
          obtain rfl : w2 = V.drew := hI.world
          have hA : A0 = _ := hI.tmps [(28, x0), (29, x1), (30, x2), (31, x3), (32, x4), (33, x5), (34, x6), (35, x7), (36, x8), (37, x9), (38, x10), (39, x11), (40, x12), (41, x13), (42, x14), (43, x15), (44, x16)] (by simp only [List.mem_cons, List.not_mem_nil, or_false, forall_eq_or_imp, forall_eq]; exact ⟨g0, g1, g2, g3, g4, g5, g6, g7, g8, g9, g10, g11, g12, g13, g14, g15, g16⟩) (by kernel_rfl)
          obtain rfl : x16 = .bool true := h16 _ rfl
          clear h0 g0 h1 g1 h2 g2 h3 g3 h4 g4 h5 g5 h6 g6 h7 g7 h8 g8 h9 g9 h10 g10 h11 g11 h12 g12 h13 g13 h14 g14 h15 g15 h16 g16 hI hall
          simp only [setAll, List.foldl, List.setIfInBounds_toArray, List.set_cons_zero, List.set_cons_succ] at hA
          rw [hA]
          clear hA
          have f2 : V.frozen? ⟨g, 2, none⟩ = false := blk_frozen HG.out 2
          have c2 := blk_cell HG.out 2
          go_wp2_with fail
          go_end0
          have hfS : Fr (fun i => i ≠ g) V (V.setCell ⟨g, 2, none⟩ (.bool true)).drew := ((Fr.refl _ V).setCell (p := ⟨g, 2, none⟩) (fun h => h rfl) _).drew
          refine ⟨rfl, _, ⟨#[]⟩, rfl, HB.out.2 _, (hfS.block tb (by omega)).trans HTV.out, ?_, HFW.out.trans (hfS.mono (fun i hi => hi.2.1))⟩
          rw [HB.out.1]
          exact (RS.bad (w := V) HG.out HRD.out hLc hLL).drew
      · have HB := Lib.hid (hsome.out.2 (by omega))
        obtain ⟨q, rfl⟩ : ∃ q : Nat, n = (q : Int) := ⟨n.toNat, by omega⟩
        have hql : q ≤ l.length := by omega
        have hqc : q ≤ c := by omega
        have htn : (q : Int).toNat = q := by omega
        have HTN := Lib.hid htn
        clear htn
        go_wp2_with fail
        refine wp_region_inv' (Ks V [.val (.pointer (some ⟨g, 0, none⟩)), .val (.pointer (some ⟨g, 0, none⟩)), .val (.pointer (some ⟨g, 2, none⟩)), .val (.bool false), .val (.bool false), .val (.int .i64 (q : Int)), .val (.bool false), .val (.bool false), .val (.bool false), .val (.int .i64 (q : Int)), .val (.pointer (some ⟨g, 0, none⟩)), .val (.pointer (some ⟨g, 0, none⟩)), .val (.pointer (some ⟨g, 0, none⟩)), .val (.slice A l.length c), .val (.int .i64 (l.length : Int)), .val (.bool false), .val (.bool false)])
          (fun w' => w' = V.drew) (by kernel_rfl) (by kernel_rfl) (by kernel_rfl) rfl ?_ ?_
        · refine ⟨?_, ?_, ?_, ?_, ?_, ?_, ?_, ?_, ?_, ?_, ?_, ?_, ?_, ?_, ?_, ?_, ?_, trivial⟩
          · intro listed A0 w2 hI hd hnd K hK
            have e0 := hI.slot hnd 0 _ rfl (by kernel_rfl)
            have hS := Lib.hid (show w2 = V.drew from hI.world)
            refine wanted_go rfl ?_
            clear hI hd hnd
            go_simp
            exact hK.out _ _ hS.out (Ks.of rfl rfl) (fun _ _ h => h)
          · intro listed A0 w2 hI hd hnd K hK
            have e0 := hI.depv hd 0 28 _ rfl rfl rfl (by kernel_rfl)
            have hS := Lib.hid (show w2 = V.drew from hI.world)
            refine wanted_go rfl ?_
            clear hI hd hnd
            go_simp
            exact hK.out _ _ hS.out (Ks.of rfl rfl) (fun _ _ h => h)
          · intro listed A0 w2 hI hd hnd K hK
            have e0 := hI.depv hd 1 29 _ rfl rfl rfl (by kernel_rfl)
            have hS := Lib.hid (show w2 = V.drew from hI.world)
            refine wanted_go rfl ?_
            clear hI hd hnd
            go_simp
            exact hK.out _ _ hS.out (Ks.of rfl rfl) (fun _ _ h => h)
          · intro listed A0 w2 hI hd hnd K hK
            have e0 := hI.depv hd 2 30 _ rfl rfl rfl (by kernel_rfl)
            have hS := Lib.hid (show w2 = V.drew from hI.world)
            have hcc : w2.cell? ⟨g, 2, none⟩ = some (.bool false) := by rw [hS.out]; exact blk_cell HG.out 2
            refine wanted_go rfl ?_
            clear hI hd hnd
            go_simp
            exact hK.out _ _ hS.out (Ks.of rfl rfl) (fun _ _ h => h)
          · intro listed A0 w2 hI hd hnd K hK
            have e0 := hI.depv hd 3 31 _ rfl rfl rfl (by kernel_rfl)
            have hS := Lib.hid (show w2 = V.drew from hI.world)
            refine wanted_go rfl ?_
            clear hI hd hnd
            go_simp
            exact hK.out _ _ hS.out (Ks.of rfl rfl) (fun _ _ h => h)
          · intro listed A0 w2 hI hd hnd K hK
            have e0 := hI.slot hnd 4 _ rfl (by kernel_rfl)
            have hS := Lib.hid (show w2 = V.drew from hI.world)
            have hcc : w2.cell? ⟨w.heap.size, 0, none⟩ = some (.int .i64 (q : Int)) := by rw [hS.out]; exact blk_cell HN.out 0
            refine wanted_yes rfl (hI.yield hd 4 32 false rfl rfl rfl (by kernel_rfl)) ?_
            clear hI hd hnd
            go_simp
            exact hK.out _ _ hS.out (Ks.of rfl rfl) (fun _ _ h => h)
          · intro listed A0 w2 hI hd hnd K hK
            have e0 := hI.depv hd 5 33 _ rfl rfl rfl (by kernel_rfl)
            have hS := Lib.hid (show w2 = V.drew from hI.world)
            have hdd : decide ((q : Int) < 0) = false := decide_eq_false (by omega)
            refine wanted_yes rfl (hI.yield hd 4 32 false rfl rfl rfl (by kernel_rfl)) ?_
            clear hI hd hnd
            go_simp
            exact hK.out _ _ hS.out (Ks.of rfl rfl) (fun _ _ h => h)
          · intro listed A0 w2 hI hd hnd K hK
            have e0 := hI.depv hd 4 32 _ rfl rfl rfl (by kernel_rfl)
            have e1 := hI.depv hd 6 34 _ rfl rfl rfl (by kernel_rfl)
            have hS := Lib.hid (show w2 = V.drew from hI.world)
            refine wanted_go rfl ?_
            clear hI hd hnd
            go_simp
            exact hK.out _ _ hS.out (Ks.of rfl rfl) (fun _ _ h => h)
          · intro listed A0 w2 hI hd hnd K hK
            have e0 := hI.depv hd 7 35 _ rfl rfl rfl (by kernel_rfl)
            have hS := Lib.hid (show w2 = V.drew from hI.world)
            refine wanted_go rfl ?_
            clear hI hd hnd
            go_simp
            exact hK.out _ _ hS.out (Ks.of rfl rfl) (fun _ _ h => h)
          · intro listed A0 w2 hI hd hnd K hK
            have e0 := hI.slot hnd 4 _ rfl (by kernel_rfl)
            have hS := Lib.hid (show w2 = V.drew from hI.world)
            have hcc : w2.cell? ⟨w.heap.size, 0, none⟩ = some (.int .i64 (q : Int)) := by rw [hS.out]; exact blk_cell HN.out 0
            refine wanted_yes rfl (hI.yield hd 8 36 false rfl rfl rfl (by kernel_rfl)) ?_
            clear hI hd hnd
            go_simp
            exact hK.out _ _ hS.out (Ks.of rfl rfl) (fun _ _ h => h)
          · intro listed A0 w2 hI hd hnd K hK
            have e0 := hI.slot hnd 0 _ rfl (by kernel_rfl)
            have hS := Lib.hid (show w2 = V.drew from hI.world)
            refine wanted_yes rfl (hI.yield hd 8 36 false rfl rfl rfl (by kernel_rfl)) ?_
            clear hI hd hnd
            go_simp
            exact hK.out _ _ hS.out (Ks.of rfl rfl) (fun _ _ h => h)
          · intro listed A0 w2 hI hd hnd K hK
            have e0 := hI.depv hd 10 38 _ rfl rfl rfl (by kernel_rfl)
            have hS := Lib.hid (show w2 = V.drew from hI.world)
            refine wanted_yes rfl (hI.yield hd 8 36 false rfl rfl rfl (by kernel_rfl)) ?_
            clear hI hd hnd
            go_simp
            exact hK.out _ _ hS.out (Ks.of rfl rfl) (fun _ _ h => h)
          · intro listed A0 w2 hI hd hnd K hK
            have e0 := hI.depv hd 11 39 _ rfl rfl rfl (by kernel_rfl)
            have hS := Lib.hid (show w2 = V.drew from hI.world)
            refine wanted_yes rfl (hI.yield hd 8 36 false rfl rfl rfl (by kernel_rfl)) ?_
            clear hI hd hnd
            go_simp
            exact hK.out _ _ hS.out (Ks.of rfl rfl) (fun _ _ h => h)
          · intro listed A0 w2 hI hd hnd K hK
            have e0 := hI.depv hd 12 40 _ rfl rfl rfl (by kernel_rfl)
            have hS := Lib.hid (show w2 = V.drew from hI.world)
            have hcc : w2.cell? ⟨g, 0, none⟩ = some (.slice A l.length c) := by rw [hS.out]; exact blk_cell HG.out 0
            refine wanted_yes rfl (hI.yield hd 8 36 false rfl rfl rfl (by kernel_rfl)) ?_
            clear hI hd hnd
            go_simp
            exact hK.out _ _ hS.out (Ks.of rfl rfl) (fun _ _ h => h)
          · intro listed A0 w2 hI hd hnd K hK
            have e0 := hI.depv hd 13 41 _ rfl rfl rfl (by kernel_rfl)
            have hS := Lib.hid (show w2 = V.drew from hI.world)
            refine wanted_yes rfl (hI.yield hd 8 36 false rfl rfl rfl (by kernel_rfl)) ?_
            clear hI hd hnd
            go_simp
            exact hK.out _ _ hS.out (Ks.of rfl rfl) (fun _ _ h => h)
          · intro listed A0 w2 hI hd hnd K hK
            have e0 := hI.depv hd 9 37 _ rfl rfl rfl (by kernel_rfl)
            have e1 := hI.depv hd 14 42 _ rfl rfl rfl (by kernel_rfl)
            have hS := Lib.hid (show w2 = V.drew from hI.world)
            have hdd : decide (l.length < q) = false := decide_eq_false (by omega)
            refine wanted_yes rfl (hI.yield hd 8 36 false rfl rfl rfl (by kernel_rfl)) ?_
            clear hI hd hnd
            go_simp
            exact hK.out _ _ hS.out (Ks.of rfl rfl) (fun _ _ h => h)
          · intro listed A0 w2 hI hd hnd K hK
            have e0 := hI.depv hd 8 36 _ rfl rfl rfl (by kernel_rfl)
            have e1 := hI.depv hd 15 43 _ rfl rfl rfl (by kernel_rfl)
            have hS := Lib.hid (show w2 = V.drew from hI.world)
            refine wanted_go rfl ?_
            clear hI hd hnd
            go_simp
            exact hK.out _ _ hS.out (Ks.of rfl rfl) (fun _ _ h => h)
        · intro listed A0 w2 hI hall
          obtain ⟨x0, g0, h0⟩ := hI.got 0 _ 28 rfl rfl (hall 0 (by decide))
          obtain ⟨x1, g1, h1⟩ := hI.got 1 _ 29 rfl rfl (hall 1 (by decide))
          obtain ⟨x2, g2, h2⟩ := hI.got 2 _ 30 rfl rfl (hall 2 (by decide))
          obtain ⟨x3, g3, h3⟩ := hI.got 3 _ 31 rfl rfl (hall 3 (by decide))
          obtain ⟨x4, g4, h4⟩ := hI.got 4 _ 32 rfl rfl (hall 4 (by decide))
          obtain ⟨x5, g5, h5⟩ := hI.got 5 _ 33 rfl rfl (hall 5 (by decide))
          obtain ⟨x6, g6, h6⟩ := hI.got 6 _ 34 rfl rfl (hall 6 (by decide))
          obtain ⟨x7, g7, h7⟩ := hI.got 7 _ 35 rfl rfl (hall 7 (by decide))
          obtain ⟨x8, g8, h8⟩ := hI.got 8 _ 36 rfl rfl (hall 8 (by decide))
          obtain ⟨x9, g9, h9⟩ := hI.got 9 _ 37 rfl rfl (hall 9 (by decide))
          obtain ⟨x10, g10, h10⟩ := hI.got 10 _ 38 rfl rfl (hall 10 (by decide))
          obtain ⟨x11, g11, h11⟩ := hI.got 11 _ 39 rfl rfl (hall 11 (by decide))
          obtain ⟨x12, g12, h12⟩ := hI.got 12 _ 40 rfl rfl (hall 12 (by decide))
          obtain ⟨x13, g13, h13⟩ := hI.got 13 _ 41 rfl rfl (hall 13 (by decide))
          obtain ⟨x14, g14, h14⟩ := hI.got 14 _ 42 rfl rfl (hall 14 (by decide))
          obtain ⟨x15, g15, h15⟩ := hI.got 15 _ 43 rfl rfl (hall 15 (by decide))
          obtain ⟨x16, g16, h16⟩ := hI.got 16 _ 44 rfl rfl (hall 16 (by decide))
          obtain rfl : w2 = V.drew := hI.world
          have hA : A0 = _ := hI.tmps [(28, x0), (29, x1), (30, x2), (31, x3), (32, x4), (33, x5), (34, x6), (35, x7), (36, x8), (37, x9), (38, x10), (39, x11), (40, x12), (41, x13), (42, x14), (43, x15), (44, x16)] (by simp only [List.mem_cons, List.not_mem_nil, or_false, forall_eq_or_imp, forall_eq]; exact ⟨g0, g1, g2, g3, g4, g5, g6, g7, g8, g9, g10, g11, g12, g13, g14, g15, g16⟩) (by kernel_rfl)
          obtain rfl : x16 = .bool false := h16 _ rfl
          clear h0 g0 h1 g1 h2 g2 h3 g3 h4 g4 h5 g5 h6 g6 h7 g7 h8 g8 h9 g9 h10 g10 h11 g11 h12 g12 h13 g13 h14 g14 h15 g15 h16 g16 hI hall
          simp only [setAll, List.foldl, List.setIfInBounds_toArray, List.set_cons_zero, List.set_cons_succ] at hA
          rw [hA]
          clear hA
          go_wp2_with fail
          have HG1 : Hid (V.drew.heap[g]? = some (.cells #[.slice A l.length c, .bool true, .bool false] 81 (0, 0))) := Lib.hid HG.out
          have HN1 : Hid (V.drew.heap[w.heap.size]? = some (.cells #[.int .i64 (q : Int)] 3 (0, 0))) := Lib.hid HN.out
          have HTV1 : Hid (V.drew.heap[tb]? = some (.cells (pre ++ [Value.string ⟨#[]⟩] ++ post).toArray t (0, 0))) := Lib.hid HTV.out
          have HRD1 : Hid (Rd V.drew (· < g) A l.length 1 (bv l)) := Lib.hid HRD.out
          have HFW1 := Lib.hid HFW.out.drew
          clear HG HN HTV HRD HFW hnz b1
          generalize V.drew = V1 at *
          have HG := HG1
          have HN := HN1
          have HTV := HTV1
          have HRD := HRD1
          have HFW := HFW1
          clear HG1 HN1 HTV1 HRD1 HFW1
          refine wp_region_inv2' 9 (Ks V [.val (.pointer (some ⟨tb, o, none⟩)), .val (.pointer (some ⟨g, 0, none⟩)), .val (.pointer (some ⟨g, 0, none⟩)), .val (.pointer (some ⟨g, 0, none⟩)), .val (.slice A l.length c), .val (.int .i64 (q : Int)), .val (.slice A q c), .val (.string (bstr (l.take q))), .val (.pointer (some ⟨tb, o, none⟩))])
            (fun w' => w' = V1.drew) (by kernel_rfl) (by kernel_rfl) (by kernel_rfl) (by decide) (by kernel_rfl) (by kernel_rfl) rfl ?_ ?_
          · refine ⟨?_, ?_, ?_, ?_, ?_, ?_, ?_, ?_, ?_, trivial⟩
            · intro listed A0 w2 hI hd hnd K hK
              have e0 := hI.slot hnd 1 _ rfl (by kernel_rfl)
              have hS := Lib.hid (show w2 = V1.drew from hI.world)
              refine wanted_go rfl ?_
              clear hI hd hnd
              go_simp
              exact hK.out _ _ hS.out (Ks.of rfl rfl) (fun _ _ h => h)
            · intro listed A0 w2 hI hd hnd K hK
              have e0 := hI.slot hnd 0 _ rfl (by kernel_rfl)
              have hS := Lib.hid (show w2 = V1.drew from hI.world)
              refine wanted_go rfl ?_
              clear hI hd hnd
              go_simp
              exact hK.out _ _ hS.out (Ks.of rfl rfl) (fun _ _ h => h)
            · intro listed A0 w2 hI hd hnd K hK
              have e0 := hI.depv hd 1 49 _ rfl rfl rfl (by kernel_rfl)
              have hS := Lib.hid (show w2 = V1.drew from hI.world)
              refine wanted_go rfl ?_
              clear hI hd hnd
              go_simp
              exact hK.out _ _ hS.out (Ks.of rfl rfl) (fun _ _ h => h)
            · intro listed A0 w2 hI hd hnd K hK
              have e0 := hI.depv hd 2 50 _ rfl rfl rfl (by kernel_rfl)
              have hS := Lib.hid (show w2 = V1.drew from hI.world)
              refine wanted_go rfl ?_
              clear hI hd hnd
              go_simp
              exact hK.out _ _ hS.out (Ks.of rfl rfl) (fun _ _ h => h)
            · intro listed A0 w2 hI hd hnd K hK
              have e0 := hI.depv hd 3 51 _ rfl rfl rfl (by kernel_rfl)
              have hS := Lib.hid (show w2 = V1.drew from hI.world)
              have hcc : w2.cell? ⟨g, 0, none⟩ = some (.slice A l.length c) := by rw [hS.out]; exact blk_cell HG.out 0
              refine wanted_go rfl ?_
              clear hI hd hnd
              go_simp
              exact hK.out _ _ hS.out (Ks.of rfl rfl) (fun _ _ h => h)
            · intro listed A0 w2 hI hd hnd K hK
              have e0 := hI.slot hnd 4 _ rfl (by kernel_rfl)
              have hS := Lib.hid (show w2 = V1.drew from hI.world)
              have hcc : w2.cell? ⟨w.heap.size, 0, none⟩ = some (.int .i64 (q : Int)) := by rw [hS.out]; exact blk_cell HN.out 0
              refine wanted_go rfl ?_
              clear hI hd hnd
              go_simp
              exact hK.out _ _ hS.out (Ks.of rfl rfl) (fun _ _ h => h)
            · intro listed A0 w2 hI hd hnd K hK
              have e0 := hI.depv hd 4 52 _ rfl rfl rfl (by kernel_rfl)
              have e1 := hI.depv hd 5 53 _ rfl rfl rfl (by kernel_rfl)
              have hS := Lib.hid (show w2 = V1.drew from hI.world)
              refine wanted_go rfl ?_
              clear hI hd hnd
              go_simp
              exact hK.out _ _ hS.out (Ks.of rfl rfl) (fun _ _ h => h)
            · intro listed A0 w2 hI hd hnd K hK
              have e0 := hI.depv hd 6 54 _ rfl rfl rfl (by kernel_rfl)
              have hS := Lib.hid (show w2 = V1.drew from hI.world)
              have hcv : (convert 22 9 (.slice A q c)).run Try.prog w2 = .ok (.string (bstr (l.take q))) w2 := by rw [hS.out]; exact head_strL (c := c) (Rd.drew_ HRD.out) hql
              refine wanted_go rfl ?_
              clear hI hd hnd
              go_simp
              exact hK.out _ _ hS.out (Ks.of rfl rfl) (fun _ _ h => h)
            · intro listed A0 w2 hI hd hnd K hK
              have e0 := hI.depv hd 0 48 _ rfl rfl rfl (by kernel_rfl)
              have hS := Lib.hid (show w2 = V1.drew from hI.world)
              refine wanted_go rfl ?_
              clear hI hd hnd
              go_simp
              exact hK.out _ _ hS.out (Ks.of rfl rfl) (fun _ _ h => h)
          · intro f A0 w2 hI
            obtain ⟨x0, g0, h0⟩ := hI.got 0 _ 48 rfl rfl rfl
            obtain ⟨x1, g1, h1⟩ := hI.got 1 _ 49 rfl rfl rfl
            obtain ⟨x2, g2, h2⟩ := hI.got 2 _ 50 rfl rfl rfl
            obtain ⟨x3, g3, h3⟩ := hI.got 3 _ 51 rfl rfl rfl
            obtain ⟨x4, g4, h4⟩ := hI.got 4 _ 52 rfl rfl rfl
            obtain ⟨x5, g5, h5⟩ := hI.got 5 _ 53 rfl rfl rfl
            obtain ⟨x6, g6, h6⟩ := hI.got 6 _ 54 rfl rfl rfl
            obtain ⟨x7, g7, h7⟩ := hI.got 7 _ 55 rfl rfl rfl
            obtain ⟨x8, g8, h8⟩ := hI.got 8 _ 56 rfl rfl rfl
            obtain rfl : w2 = V1.drew := hI.world
            have hA : A0 = _ := hI.tmps [(48, x0), (49, x1), (50, x2), (51, x3), (52, x4), (53, x5), (54, x6), (55, x7), (56, x8)] (by simp only [List.mem_cons, List.not_mem_nil, or_false, forall_eq_or_imp, forall_eq]; exact ⟨g0, g1, g2, g3, g4, g5, g6, g7, g8⟩) (by kernel_rfl)
            obtain rfl : x7 = .string (bstr (l.take q)) := h7 _ rfl
            obtain rfl : x8 = .pointer (some ⟨tb, o, none⟩) := h8 _ rfl
            clear h0 g0 h1 g1 h2 g2 h3 g3 h4 g4 h5 g5 h6 g6 h7 g7 h8 g8 hI
            simp only [setAll, List.foldl, List.setIfInBounds_toArray, List.set_cons_zero, List.set_cons_succ] at hA
            rw [hA]
            clear hA
            show wpAny _ _ _ _ (f + 1) _ _ _
            refine wpAny_all (rs := [9]) (by kernel_rfl) (by simp) ?_
            intro i hi
            obtain rfl : i = 9 := by simpa using hi
            refine wpOp_step (o := _) rfl (fun K hK => ?_)
            refine wanted_go rfl ?_
            have hc9 := blk_get (w := V1.drew) (j := 0) HTV.out HPRE.out rfl
            have hf9 : V1.drew.frozen? ⟨tb, o, none⟩ = false := blk_frozen HTV.out o
            rw [Nat.add_zero] at hc9
            go_simp
            refine hK _ _ ?_
            refine wpAny_done (by kernel_rfl) ?_ _
            clear hK
            have hfT : Fr (fun i => i ≠ tb) V1 (V1.setCell ⟨tb, o, none⟩ (.string (bstr (l.take q)))).drew := ((Fr.refl _ V1).setCell (p := ⟨tb, o, none⟩) (fun h => h rfl) _).drew
            have HT3 := Lib.hid (blk_set (w := V1) (j := 0) HTV.out HPRE.out (by simp) (.string (bstr (l.take q))))
            have HG := Lib.hid ((hfT.block g (by omega)).trans HG.out)
            have HN := Lib.hid ((hfT.block w.heap.size (by omega)).trans HN.out)
            have HRD := Lib.hid (HRD.out.fr (hfT.mono (fun i hi => by omega)))
            have HF3 := Lib.hid (HFW.out.trans (hfT.mono (fun i hi => hi.2.2)))
            obtain ⟨V2, hV2⟩ : ∃ V2, (V1.setCell ⟨tb, o, none⟩ (.string (bstr (l.take q)))).drew = V2 := ⟨_, rfl⟩
            rw [Nat.add_zero] at HT3
            have HT3 : Hid ((V1.setCell ⟨tb, o, none⟩ (.string (bstr (l.take q)))).drew.heap[tb]? = some (.cells (pre ++ [Value.string (bstr (l.take q))] ++ post).toArray t (0, 0))) := Lib.hid HT3.out
            rw [hV2] at HT3 HG HN HRD HF3 ⊢
            clear hV2 hfT HTV HFW
            go_wp2_with fail
            obtain ⟨A1, hA1⟩ : ∃ A1, (if c = q then A else Option.map (fun x => x.add q) A) = A1 := ⟨_, rfl⟩
            have HA1 := Lib.hid hA1
            clear hA1
            refine wp_region_inv2' 9 (Ks V2 [.val (.pointer (some ⟨g, 0, none⟩)), .val (.pointer (some ⟨g, 0, none⟩)), .val (.pointer (some ⟨g, 0, none⟩)), .val (.pointer (some ⟨g, 0, none⟩)), .val (.slice A l.length c), .val (.int .i64 (q : Int)), .val (.slice A1 (l.length - q) (c - q)), .val (.pointer (some ⟨g, 0, none⟩)), .val (.pointer (some ⟨g, 0, none⟩))])
              (fun w' => w' = V2.drew) (by kernel_rfl) (by kernel_rfl) (by kernel_rfl) (by decide) (by kernel_rfl) (by kernel_rfl) rfl ?_ ?_
            · refine ⟨?_, ?_, ?_, ?_, ?_, ?_, ?_, ?_, ?_, trivial⟩
              · intro listed A0 w2 hI hd hnd K hK
                have e0 := hI.slot hnd 0 _ rfl (by kernel_rfl)
                have hS := Lib.hid (show w2 = V2.drew from hI.world)
                refine wanted_go rfl ?_
                clear hI hd hnd
                go_simp
                exact hK.out _ _ hS.out (Ks.of rfl rfl) (fun _ _ h => h)
              · intro listed A0 w2 hI hd hnd K hK
                have e0 := hI.slot hnd 0 _ rfl (by kernel_rfl)
                have hS := Lib.hid (show w2 = V2.drew from hI.world)
                refine wanted_go rfl ?_
                clear hI hd hnd
                go_simp
                exact hK.out _ _ hS.out (Ks.of rfl rfl) (fun _ _ h => h)
              · intro listed A0 w2 hI hd hnd K hK
                have e0 := hI.depv hd 1 58 _ rfl rfl rfl (by kernel_rfl)
                have hS := Lib.hid (show w2 = V2.drew from hI.world)
                refine wanted_go rfl ?_
                clear hI hd hnd
                go_simp
                exact hK.out _ _ hS.out (Ks.of rfl rfl) (fun _ _ h => h)
              · intro listed A0 w2 hI hd hnd K hK
                have e0 := hI.depv hd 2 59 _ rfl rfl rfl (by kernel_rfl)
                have hS := Lib.hid (show w2 = V2.drew from hI.world)
                refine wanted_go rfl ?_
                clear hI hd hnd
                go_simp
                exact hK.out _ _ hS.out (Ks.of rfl rfl) (fun _ _ h => h)
              · intro listed A0 w2 hI hd hnd K hK
                have e0 := hI.depv hd 3 60 _ rfl rfl rfl (by kernel_rfl)
                have hS := Lib.hid (show w2 = V2.drew from hI.world)
                have hcc : w2.cell? ⟨g, 0, none⟩ = some (.slice A l.length c) := by rw [hS.out]; exact blk_cell HG.out 0
                refine wanted_go rfl ?_
                clear hI hd hnd
                go_simp
                exact hK.out _ _ hS.out (Ks.of rfl rfl) (fun _ _ h => h)
              · intro listed A0 w2 hI hd hnd K hK
                have e0 := hI.slot hnd 4 _ rfl (by kernel_rfl)
                have hS := Lib.hid (show w2 = V2.drew from hI.world)
                have hcc : w2.cell? ⟨w.heap.size, 0, none⟩ = some (.int .i64 (q : Int)) := by rw [hS.out]; exact blk_cell HN.out 0
                refine wanted_go rfl ?_
                clear hI hd hnd
                go_simp
                exact hK.out _ _ hS.out (Ks.of rfl rfl) (fun _ _ h => h)
              · intro listed A0 w2 hI hd hnd K hK
                have e0 := hI.depv hd 4 61 _ rfl rfl rfl (by kernel_rfl)
                have e1 := hI.depv hd 5 62 _ rfl rfl rfl (by kernel_rfl)
                have hS := Lib.hid (show w2 = V2.drew from hI.world)
                have hA1 := HA1.out
                refine wanted_go rfl ?_
                clear hI hd hnd
                go_simp
                exact hK.out _ _ hS.out (Ks.of rfl rfl) (fun _ _ h => h)
              · intro listed A0 w2 hI hd hnd K hK
                have e0 := hI.depv hd 0 57 _ rfl rfl rfl (by kernel_rfl)
                have hS := Lib.hid (show w2 = V2.drew from hI.world)
                refine wanted_go rfl ?_
                clear hI hd hnd
                go_simp
                exact hK.out _ _ hS.out (Ks.of rfl rfl) (fun _ _ h => h)
              · intro listed A0 w2 hI hd hnd K hK
                have e0 := hI.depv hd 7 64 _ rfl rfl rfl (by kernel_rfl)
                have hS := Lib.hid (show w2 = V2.drew from hI.world)
                refine wanted_go rfl ?_
                clear hI hd hnd
                go_simp
                exact hK.out _ _ hS.out (Ks.of rfl rfl) (fun _ _ h => h)
            · intro f A0 w2 hI
              obtain ⟨x0, g0, h0⟩ := hI.got 0 _ 57 rfl rfl rfl
              obtain ⟨x1, g1, h1⟩ := hI.got 1 _ 58 rfl rfl rfl
              obtain ⟨x2, g2, h2⟩ := hI.got 2 _ 59 rfl rfl rfl
              obtain ⟨x3, g3, h3⟩ := hI.got 3 _ 60 rfl rfl rfl
              obtain ⟨x4, g4, h4⟩ := hI.got 4 _ 61 rfl rfl rfl
              obtain ⟨x5, g5, h5⟩ := hI.got 5 _ 62 rfl rfl rfl
              obtain ⟨x6, g6, h6⟩ := hI.got 6 _ 63 rfl rfl rfl
              obtain ⟨x7, g7, h7⟩ := hI.got 7 _ 64 rfl rfl rfl
              obtain ⟨x8, g8, h8⟩ := hI.got 8 _ 65 rfl rfl rfl
              obtain rfl : w2 = V2.drew := hI.world
              have hA : A0 = _ := hI.tmps [(57, x0), (58, x1), (59, x2), (60, x3), (61, x4), (62, x5), (63, x6), (64, x7), (65, x8)] (by simp only [List.mem_cons, List.not_mem_nil, or_false, forall_eq_or_imp, forall_eq]; exact ⟨g0, g1, g2, g3, g4, g5, g6, g7, g8⟩) (by kernel_rfl)
              obtain rfl : x6 = .slice A1 (l.length - q) (c - q) := h6 _ rfl
              obtain rfl : x8 = .pointer (some ⟨g, 0, none⟩) := h8 _ rfl
              clear h0 g0 h1 g1 h2 g2 h3 g3 h4 g4 h5 g5 h6 g6 h7 g7 h8 g8 hI
              simp only [setAll, List.foldl, List.setIfInBounds_toArray, List.set_cons_zero, List.set_cons_succ] at hA
              rw [hA]
              clear hA
              show wpAny _ _ _ _ (f + 1) _ _ _
              refine wpAny_all (rs := [9]) (by kernel_rfl) (by simp) ?_
              intro i hi
              obtain rfl : i = 9 := by simpa using hi
              refine wpOp_step (o := _) rfl (fun K hK => ?_)
              refine wanted_go rfl ?_
              have hc9 : V2.drew.cell? ⟨g, 0, none⟩ = some (.slice A l.length c) := blk_cell HG.out 0
              have hf9 : V2.drew.frozen? ⟨g, 0, none⟩ = false := blk_frozen HG.out 0
              go_simp
              refine hK _ _ ?_
              refine wpAny_done (by kernel_rfl) ?_ _
              clear hK
              go_wp2_with fail
              go_end0
              have hfS : Fr (fun i => i ≠ g) V2 (V2.setCell ⟨g, 0, none⟩ (.slice A1 (l.length - q) (c - q))).drew := ((Fr.refl _ V2).setCell (p := ⟨g, 0, none⟩) (fun h => h rfl) _).drew
              have hb := HB.out
              rw [HTN.out] at hb
              refine ⟨rfl, _, bstr (l.take q), rfl, hb.2, (hfS.block tb (by omega)).trans HT3.out, ?_, HF3.out.trans (hfS.mono (fun i hi => hi.2.1))⟩
              rw [hb.1]
              refine ⟨A1, c - q, l.drop q, false, ?_, ?_, by rw [List.length_drop]; omega, by rw [List.length_drop]; omega, rfl, rfl⟩
              · rw [List.length_drop]; exact heap_setCell_same (w := V2) HG.out 0 _
              · have hcut := HRD.out.cutN hql hLc
                rw [HA1.out] at hcut
                exact hcut.fr (hfS.mono (fun i hi => Nat.ne_of_lt hi))
set_option maxHeartbeats 4000000 in
set_option maxRecDepth 100000 in
theorem flag_r (g tb o : Nat) (pre post : List Value) (t : TypeId) (st : Option (List UInt8)) (w : World)
    (hs : RS w g st) (hgt : g < tb) (ho : pre.length = o) (hT : w.heap[tb]? = some (.cells (pre ++ [Value.bool false] ++ post).toArray t (0, 0))) :
    Calls Try.prog 89 #[.pointer (some ⟨g, 0, none⟩), .pointer (some ⟨tb, o, none⟩)] w (RPost BoolQ cBool g tb pre post t st w) := by
  have HPRE := Lib.hid ho
  have hTlt := blk_lt hT
  have hglt := hs.lt
  have HT0 := Lib.hid hT
  have htk0 := blk_get (j := 0) hT ho rfl
  rw [Nat.add_zero] at htk0
  clear ho hT
  go_enter Try.func89, Try.ntmps89
  go_wp2_with fail
  have hfA : Fr (· < w.heap.size) w (w.alloc (.cells #[.int .i64 0] 3)) := (Fr.refl _ w).alloc (fun _ h => h) _
  refine (num_rv g w.heap.size 0 [] [] [0] 3 st (by simp) (by rfl) (by rfl) (hs.alloc _) (by omega) rfl (heap_alloc_new w _) (by simp [intBd]) (by simp)).mono ?_
  rintro e V ⟨rfl, ns', hnl, hnb, hvl, hN, hRS, hfV⟩
  obtain ⟨n, rfl⟩ := List.length_eq_one_iff.1 hnl
  have hv1 : cInt.vl st n := hvl.1
  have hnbd : intBd n := hnb n (by simp)
  have hN1 : V.heap[w.heap.size]? = some (.cells #[.int .i64 n] 3 (0, 0)) := hN
  have hRS1 : RS V g (cInt.st st) := hRS
  have hFV : Fr (· < w.heap.size) w (w.alloc (.cells #[.int .i64 0] 3)) := hfA
  have hTV : V.heap[tb]? = _ := (hfV.block tb ⟨by simp; omega, by omega, by omega⟩).trans ((hfA.block tb hTlt).trans HT0.out)
  have hfW : Fr (Kp w g tb) w V := (hfA.mono (fun k hk => hk.1)).trans (hfV.mono (fun k hk => ⟨by simp; have := hk.1; omega, hk.2.1, by have := hk.1; omega⟩))
  have hnz : V.cell? ⟨w.heap.size, 0, none⟩ = some (.int .i64 n) := blk_cell hN1 0
  have hsz : w.heap.size < V.heap.size := blk_lt hN1
  obtain ⟨A, c, L, bad, hG, hrd, hLc, hLL, hst⟩ := hRS1.open
  have b1 : V.cell? ⟨g, 1, none⟩ = some (.bool true) := blk_cell hG 1
  have HG := Lib.hid hG
  have HRD := Lib.hid hrd
  have HTV := Lib.hid hTV
  have HFW := Lib.hid hfW
  have HV1 := Lib.hid hv1
  have HN := Lib.hid hN1
  have HR0 := Lib.hid hRS1
  clear hN hRS hfV hvl hnb hnl hG hrd hTV hFV hfW hv1 hN1 hfA hs HT0 hRS1
  by_cases h0 : n = 0
  · subst h0
    have c2 := blk_cell HG.out 2
    have f2 : V.frozen? ⟨g, 2, none⟩ = false := blk_frozen HG.out 2
    have ct := blk_get (j := 0) HTV.out HPRE.out rfl
    rw [Nat.add_zero] at ct
    have ft : V.frozen? ⟨tb, o, none⟩ = false := blk_frozen HTV.out o
    go_wp2_with fail
    go_end0
    have hfT : Fr (fun i => i ≠ tb) V (V.setCell ⟨tb, o, none⟩ (.bool false)) := (Fr.refl _ V).setCell (p := ⟨tb, o, none⟩) (fun h => h rfl) _
    have HT3 := blk_set (w := V) (j := 0) HTV.out HPRE.out (by simp) (.bool false)
    rw [Nat.add_zero] at HT3
    have hRS2 : RS (V.setCell ⟨tb, o, none⟩ (.bool false)) g (cInt.st st) := HR0.out.fr (Q := fun i => i ≠ tb) hfT (fun k hk => by omega)
    have hbn : cBool.st st = cInt.st st ∧ cBool.vl st false := by
      cases hsti : cInt.st st with
      | none => exact ⟨(bool_none hsti).1, (bool_none hsti).2 _⟩
      | some l =>
        have := (bool_some hsti HV1.out).2 (by omega)
        exact ⟨this.1, by simpa using this.2⟩
    refine ⟨rfl, _, false, rfl, hbn.2, HT3, ?_, HFW.out.trans (hfT.mono (fun i hi => hi.2.2))⟩
    rw [hbn.1]
    exact hRS2
  · by_cases h1 : n = 1
    · subst h1
      have c2 := blk_cell HG.out 2
      have f2 : V.frozen? ⟨g, 2, none⟩ = false := blk_frozen HG.out 2
      have ct := blk_get (j := 0) HTV.out HPRE.out rfl
      rw [Nat.add_zero] at ct
      have ft : V.frozen? ⟨tb, o, none⟩ = false := blk_frozen HTV.out o
      go_wp2_with fail
      go_end0
      have hfT : Fr (fun i => i ≠ tb) V (V.setCell ⟨tb, o, none⟩ (.bool true)) := (Fr.refl _ V).setCell (p := ⟨tb, o, none⟩) (fun h => h rfl) _
      have HT3 := blk_set (w := V) (j := 0) HTV.out HPRE.out (by simp) (.bool true)
      rw [Nat.add_zero] at HT3
      have hRS2 : RS (V.setCell ⟨tb, o, none⟩ (.bool true)) g (cInt.st st) := HR0.out.fr (Q := fun i => i ≠ tb) hfT (fun k hk => by omega)
      have hbn : cBool.st st = cInt.st st ∧ cBool.vl st true := by
        cases hsti : cInt.st st with
        | none => exact ⟨(bool_none hsti).1, (bool_none hsti).2 _⟩
        | some l =>
          have := (bool_some hsti HV1.out).2 (by omega)
          exact ⟨this.1, by simpa using this.2⟩
      refine ⟨rfl, _, true, rfl, hbn.2, HT3, ?_, HFW.out.trans (hfT.mono (fun i hi => hi.2.2))⟩
      rw [hbn.1]
      exact hRS2
    · have q0 : (n != 0) = true := by simp; omega
      have q1 : (n != 1) = true := by simp; omega
      have q2 : (n == 1) = false := by simp; omega
      have c2 := blk_cell HG.out 2
      have f2 : V.frozen? ⟨g, 2, none⟩ = false := blk_frozen HG.out 2
      have ct := blk_get (j := 0) HTV.out HPRE.out rfl
      rw [Nat.add_zero] at ct
      have ft : V.frozen? ⟨tb, o, none⟩ = false := blk_frozen HTV.out o
      have hfS : Fr (fun i => i ≠ g) V (V.setCell ⟨g, 2, none⟩ (.bool true)) := (Fr.refl _ V).setCell (p := ⟨g, 2, none⟩) (fun h => h rfl) _
      have HTS := (hfS.block tb (by omega)).trans HTV.out
      have ct2 := blk_get (j := 0) HTS HPRE.out rfl
      have ft2 : (V.setCell ⟨g, 2, none⟩ (.bool true)).frozen? ⟨tb, o, none⟩ = false := blk_frozen HTS o
      have cn2 := blk_cell ((hfS.block w.heap.size (by omega)).trans HN.out) 0
      rw [Nat.add_zero] at ct2
      have HTS2 := Lib.hid HTS
      clear HTS
      go_wp2_with fail
      go_end0
      have hfT : Fr (fun i => i ≠ tb) (V.setCell ⟨g, 2, none⟩ (.bool true)) ((V.setCell ⟨g, 2, none⟩ (.bool true)).setCell ⟨tb, o, none⟩ (.bool false)) := (Fr.refl _ (V.setCell ⟨g, 2, none⟩ (.bool true))).setCell (p := ⟨tb, o, none⟩) (fun h => h rfl) _
      have HT3 := blk_set (w := (V.setCell ⟨g, 2, none⟩ (.bool true))) (j := 0) HTS2.out HPRE.out (by simp) (.bool false)
      rw [Nat.add_zero] at HT3
      have hbn : cBool.st st = none ∧ ∀ s, cBool.vl st s := by
        cases hsti : cInt.st st with
        | none => exact bool_none hsti
        | some l => exact (bool_some hsti HV1.out).1 ⟨h0, h1⟩
      refine ⟨rfl, _, false, rfl, hbn.2 _, HT3, ?_, HFW.out.trans ((hfS.mono (fun i hi => hi.2.1)).trans (hfT.mono (fun i hi => hi.2.2)))⟩
      rw [hbn.1]
      exact (RS.bad (w := V) HG.out HRD.out hLc hLL).fr (Q := fun i => i ≠ tb) hfT (fun k hk => by omega)
end Go.Proofs.Ytgdibeegheddmaa
