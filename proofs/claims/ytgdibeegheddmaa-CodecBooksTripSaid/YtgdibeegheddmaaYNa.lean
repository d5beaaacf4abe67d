/- The reference reads: integers, counts, strings, bools. Written by gen_n1.py. (joined: N1RefRead, N2RefStructs, N3RefRefs, N4RefMatch) -/
import Derived.Test.YtgdibeegheddmaaYL3Lists
import Derived.Test.YtgdibeegheddmaaYL4Lists
namespace Go.Proofs.Ytgdibeegheddmaa
open Go Go.RowKit
set_option linter.unusedVariables false
set_option linter.unusedSimpArgs false
attribute [local go_sem ↓] Go.wp_at_zero Go.wp_at_succ
/-- The reference's reader in block g: o is what is left; none: something was no encoding. -/
def RQ (w : World) (g : Nat) (o : Option (List UInt8)) : Prop := ∃ (A : Option Addr) (c : Nat) (L : List UInt8) (bad : Bool), w.heap[g]? = some (.cells #[.slice A L.length c, .bool bad] 99 (0, 0)) ∧ Rd w (· < g) A L.length 1 (bv L) ∧ L.length ≤ c ∧ L.length ≤ 100000000 ∧
  (o = none → bad = true) ∧ (∀ l, o = some l → bad = false ∧ l = L)
/-- A reading step: blocks other than the reader's are as they were. -/
def Ro (g : Nat) (w w' : World) : Prop := Fr (fun k => k < w.heap.size ∧ k ≠ g) w w'
theorem Ro.trans {g : Nat} {a b c : World} (h : Ro g a b) (k : Ro g b c) : Ro g a c := Fr.trans h (Fr.mono k (fun i hi => ⟨Nat.lt_of_lt_of_le hi.1 h.size, hi.2⟩))
theorem RQ.lt {w : World} {g : Nat} {o : Option (List UInt8)} (h : RQ w g o) : g < w.heap.size := by obtain ⟨A, c, L, bad, h1, _⟩ := h; exact blk_lt h1
theorem RQ.fr {Q : Nat → Prop} {w w' : World} {g : Nat} {o : Option (List UInt8)} (h : RQ w g o) (hf : Fr Q w w') (hq : ∀ k, k ≤ g → Q k) : RQ w' g o := by
  obtain ⟨A, c, L, bad, h1, h2, h3⟩ := h
  exact ⟨A, c, L, bad, (hf.block g (hq g (Nat.le_refl _))).trans h1, h2.fr (hf.mono (fun k hk => hq k (Nat.le_of_lt hk))), h3⟩
theorem RQ.alloc {w : World} {g : Nat} {o : Option (List UInt8)} (h : RQ w g o) (b : Obj) : RQ (w.alloc b) g o :=
  h.fr (Q := (· < w.heap.size)) ((Fr.refl _ w).alloc (fun _ h => h) b) (fun k hk => by have := h.lt; omega)
theorem RQ.bad {w : World} {g : Nat} {A : Option Addr} {L : List UInt8} {c : Nat} {b : Bool} (hG : w.heap[g]? = some (.cells #[.slice A L.length c, .bool b] 99 (0, 0))) (hR : Rd w (· < g) A L.length 1 (bv L)) (hLc : L.length ≤ c) (hLL : L.length ≤ 100000000) : RQ (w.setCell ⟨g, 1, none⟩ (.bool true)) g none :=
  ⟨A, c, L, true, heap_setCell_same hG 1 _, hR.fr (Fr.setCell (Q := fun x => x < g) (p := ⟨g, 1, none⟩) (Fr.refl _ w) (fun h : g < g => Nat.lt_irrefl _ h) _), hLc, hLL, fun _ => rfl, fun l h => by cases h⟩
theorem Ro.set {g i : Nat} {w : World} (u : Value) : Ro g w (w.setCell ⟨g, i, none⟩ u) := Fr.setCell (p := ⟨g, i, none⟩) (Fr.refl _ w) (fun h => h.2 rfl) u
def RIPost (g : Nat) (st : Option (List UInt8)) (w : World) (e : Ending) (w' : World) : Prop :=
  ∃ n : Int, e = .returned (.int .i64 n) ∧ intBd n ∧ cInt.vl st n ∧ RQ w' g (cInt.st st) ∧ Ro g w w' ∧ (cInt.st st = none → n = 0)
set_option maxHeartbeats 1000000 in
set_option maxRecDepth 100000 in
theorem rint_r (g : Nat) (st : Option (List UInt8)) (w : World) (hs : RQ w g st) : Calls Try.prog 46 #[.pointer (some ⟨g, 0, none⟩)] w (RIPost g st w) := by
  have hglt := hs.lt
  obtain ⟨A, c, L, bad, hG, hrd, hLc, hLL, hst1, hst2⟩ := hs
  have c0 := blk_cell hG 0
  have f0 : w.frozen? ⟨g, 0, none⟩ = false := blk_frozen hG 0
  have c1 := blk_cell hG 1
  have f1 : w.frozen? ⟨g, 1, none⟩ = false := blk_frozen hG 1
  have HG := Lib.hid hG
  have HRD := Lib.hid hrd
  have H1 := Lib.hid hst1
  have H2 := Lib.hid hst2
  have hr2 := refNext_c A c L w (fun k => k < g) hrd (by omega)
  clear hG hrd hst1 hst2
  go_enter Try.func46, Try.ntmps46
  go_wp2_with fail
  refine hr2.mono ?_
  cases hn : next L with
  | none =>
    rw [show refNextR L = (0, 0) from by simp [refNextR, hn]]
    rintro e w' ⟨rfl, rfl⟩
    have HN := Lib.hid hn
    clear hn hr2
    go_wp2_with fail
    go_ret
    refine ⟨0, rfl, bd0, ?_, ?_, Ro.set _, fun _ => rfl⟩
    · cases st with
      | none => exact Cod.vl_none _ _
      | some l =>
        obtain ⟨_, rfl⟩ := H2.out l rfl
        exact (int_bad HN.out).2 _
    · have e : cInt.st st = none := by
        cases st with
        | none => rfl
        | some l =>
          obtain ⟨_, rfl⟩ := H2.out l rfl
          exact (int_bad HN.out).1
      rw [e]
      exact RQ.bad HG.out HRD.out hLc hLL
  | some p =>
    obtain ⟨n, k⟩ := p
    rw [show refNextR L = (n, k) from by simp [refNextR, hn]]
    rintro e w' ⟨rfl, rfl⟩
    obtain ⟨_, hbd, hk1, _, hkl⟩ := next_conv hn
    have HN := Lib.hid hn
    have hk0 : ((k : Int) == 0) = false := by simp; omega
    have hkc : k ≤ c := by omega
    clear hn hr2
    cases bad with
    | true =>
      have hst : st = none := by
        cases st with
        | none => rfl
        | some l => exact absurd (H2.out l rfl).1 (by simp)
      subst hst
      go_wp2_with fail
      go_ret
      exact ⟨0, rfl, bd0, Cod.vl_none _ _, RQ.bad HG.out HRD.out hLc hLL, Ro.set _, fun _ => rfl⟩
    | false =>
      have hst : st = some L := by
        cases st with
        | none => exact absurd (H1.out rfl) (by simp)
        | some l => rw [(H2.out l rfl).2]
      subst hst
      obtain ⟨A1, hA1⟩ : ∃ A1, (if c = k then A else Option.map (fun x => x.add k) A) = A1 := ⟨_, rfl⟩
      have HA1 := Lib.hid hA1
      go_wp2_with fail
      go_ret
      have hgood := int_good HN.out
      refine ⟨n, rfl, hbd, hgood.2, ?_, Ro.set _, fun h => by rw [hgood.1] at h; cases h⟩
      rw [hgood.1]
      refine ⟨A1, c - k, L.drop k, false, ?_, ?_, by rw [List.length_drop]; omega, by rw [List.length_drop]; omega, (fun h => by cases h), (fun l h => by injection h with h; exact ⟨rfl, h.symm⟩)⟩
      · rw [List.length_drop]; exact heap_setCell_same HG.out 0 _
      · have hcut := HRD.out.cutN hkl hLc
        rw [HA1.out] at hcut
        exact hcut.fr (Fr.setCell (Q := fun x => x < g) (p := ⟨g, 0, none⟩) (Fr.refl _ w) (fun h : g < g => Nat.lt_irrefl _ h) _)
def decCount (l : List UInt8) : Option (Int × List UInt8) := (decInt l).bind fun p => if 0 ≤ p.1 ∧ p.1 ≤ (p.2.length : Int) then some p else none
def stC (st : Option (List UInt8)) : Option (List UInt8) := (st.bind decCount).map (·.2)
theorem stC_none {st : Option (List UInt8)} (h : cInt.st st = none) : stC st = none := by
  cases st with
  | none => rfl
  | some b =>
    have h' : Option.map (·.2) (decInt b) = none := h
    rw [Option.map_eq_none_iff] at h'
    show Option.map (·.2) (decCount b) = none
    simp [decCount, h']
theorem decCount_eq {st : Option (List UInt8)} {l : List UInt8} {n : Int} (h : cInt.st st = some l) (hv : cInt.vl st n) : st.bind decCount = if 0 ≤ n ∧ n ≤ (l.length : Int) then some (n, l) else none := by
  cases st with
  | none => cases h
  | some b =>
    have h' : Option.map (·.2) (decInt b) = some l := h
    rw [Option.map_eq_some_iff] at h'
    obtain ⟨p, hp, rfl⟩ := h'
    have hn : p.1 = n := hv p hp
    subst hn
    show decCount b = _
    simp [decCount, hp]
/-- What count leaves: n of the l that is left; or nothing. -/
def Cnt (st : Option (List UInt8)) (n : Nat) : Prop := (stC st = none ∧ n = 0) ∨ (∃ l, stC st = some l ∧ st.bind decCount = some ((n : Int), l) ∧ n ≤ l.length)
def RCPost (g : Nat) (st : Option (List UInt8)) (w : World) (e : Ending) (w' : World) : Prop :=
  ∃ n : Nat, e = .returned (.int .i64 (n : Int)) ∧ n ≤ 100000000 ∧ Cnt st n ∧ RQ w' g (stC st) ∧ Ro g w w'
set_option maxHeartbeats 1000000 in
set_option maxRecDepth 100000 in
theorem count_r (g : Nat) (st : Option (List UInt8)) (w : World) (hs : RQ w g st) : Calls Try.prog 57 #[.pointer (some ⟨g, 0, none⟩)] w (RCPost g st w) := by
  go_enter Try.func57, Try.ntmps57
  go_wp2_with fail
  refine (rint_r g st w hs).mono ?_
  rintro e V ⟨n, rfl, hbd, hv, hR, hF, h0⟩
  have HR := Lib.hid hR
  have HF := Lib.hid hF
  obtain ⟨A, c, L, bad, hG, hrd, hLc, hLL, hst1, hst2⟩ := hR
  have c0 := blk_cell hG 0
  have c1 := blk_cell hG 1
  have f1 : V.frozen? ⟨g, 1, none⟩ = false := blk_frozen hG 1
  have HG := Lib.hid hG
  have HRD := Lib.hid hrd
  have H2 := Lib.hid hst2
  have H1 := Lib.hid hst1
  have HV := Lib.hid hv
  have H0 := Lib.hid h0
  clear hs hF hG hrd hst1 hst2 hv h0
  cases hsti : cInt.st st with
  | none =>
    have hn0 := H0.out hsti
    subst hn0
    have HS := Lib.hid hsti
    have hlt : ¬ ((L.length : Nat) : Int) < 0 := by omega
    clear hsti
    go_wp2_with fail
    go_ret
    have e := stC_none HS.out
    exact ⟨0, rfl, by omega, .inl ⟨e, rfl⟩, by rw [e]; have := HR.out; rwa [HS.out] at this, HF.out⟩
  | some l =>
    obtain ⟨hb, hl⟩ := H2.out l hsti
    subst hb hl
    have HD := Lib.hid (decCount_eq hsti HV.out)
    have HS := Lib.hid hsti
    clear hsti
    by_cases h1 : n < 0
    · go_wp2_with fail
      go_ret
      have e : st.bind decCount = none := by rw [HD.out, if_neg (by omega)]
      have e2 : stC st = none := by simp [stC, e]
      exact ⟨0, rfl, by omega, .inl ⟨e2, rfl⟩, by rw [e2]; exact RQ.bad HG.out HRD.out hLc hLL, HF.out.trans (Ro.set _)⟩
    · by_cases h2 : (l.length : Int) < n
      · go_wp2_with fail
        go_ret
        have e : st.bind decCount = none := by rw [HD.out, if_neg (by omega)]
        have e2 : stC st = none := by simp [stC, e]
        exact ⟨0, rfl, by omega, .inl ⟨e2, rfl⟩, by rw [e2]; exact RQ.bad HG.out HRD.out hLc hLL, HF.out.trans (Ro.set _)⟩
      · obtain ⟨q, rfl⟩ : ∃ q : Nat, n = (q : Int) := ⟨n.toNat, by omega⟩
        have h3 : q ≤ l.length := by omega
        have hd1 : decide (l.length < q) = false := decide_eq_false (by omega)
        go_wp2_with fail
        go_ret
        have e : st.bind decCount = some ((q : Int), l) := by rw [HD.out, if_pos (by omega)]
        have e2 : stC st = some l := by simp [stC, e]
        exact ⟨q, rfl, by omega, .inr ⟨l, e2, e, h3⟩, by rw [e2]; have := HR.out; rwa [HS.out] at this, HF.out⟩
theorem str_of_count {st : Option (List UInt8)} {n : Nat} (h : Cnt st n) : (stC st = none → cStr.st st = none ∧ ∀ s, cStr.vl st s) ∧ (∀ l, stC st = some l → cStr.st st = some (l.drop n) ∧ cStr.vl st (bstr (l.take n))) := by
  have key : ∀ b, cStr.dec b = (decCount b).map fun p => (bstr (p.2.take p.1.toNat), p.2.drop p.1.toNat) := fun b => by
    show decStr b = _
    unfold decStr decCount
    cases decInt b with
    | none => rfl
    | some p =>
      simp only [Option.bind_some]
      split <;> rfl
  cases st with
  | none => exact ⟨fun _ => ⟨rfl, fun s => Cod.vl_none _ _⟩, fun l h => by cases h⟩
  | some b =>
    constructor
    · intro hn
      have h' : Option.map (·.2) (decCount b) = none := hn
      rw [Option.map_eq_none_iff] at h'
      have e : (some b).bind cStr.dec = none := by show cStr.dec b = none; rw [key, h']; rfl
      exact ⟨by simp [Cod.st, e], fun s p hp => by rw [e] at hp; cases hp⟩
    · intro l hl
      rcases h with ⟨h1, _⟩ | ⟨l2, h1, h2, h3⟩
      · rw [hl] at h1; cases h1
      · rw [hl] at h1
        injection h1 with h1
        subst h1
        have h' : decCount b = some ((n : Int), l) := h2
        have e : (some b).bind cStr.dec = some (bstr (l.take n), l.drop n) := by show cStr.dec b = _; rw [key, h']; simp
        exact ⟨by simp [Cod.st, e], fun p hp => by rw [e] at hp; injection hp with hp; rw [← hp]⟩
def RSPost (g : Nat) (st : Option (List UInt8)) (w : World) (e : Ending) (w' : World) : Prop :=
  ∃ s : ByteArray, e = .returned (.string s) ∧ cStr.vl st s ∧ RQ w' g (cStr.st st) ∧ Ro g w w'
set_option maxHeartbeats 1000000 in
set_option maxRecDepth 100000 in
theorem rtext_r (g : Nat) (st : Option (List UInt8)) (w : World) (hs : RQ w g st) : Calls Try.prog 52 #[.pointer (some ⟨g, 0, none⟩)] w (RSPost g st w) := by
  go_enter Try.func52, Try.ntmps52
  go_wp2_with fail
  refine (count_r g st w hs).mono ?_
  rintro e V ⟨n, rfl, hn8, hcnt, hR, hF⟩
  have HC := Lib.hid hcnt
  have HF := Lib.hid hF
  obtain ⟨A, c, L, bad, hG, hrd, hLc, hLL, hst1, hst2⟩ := hR
  have c0 := blk_cell hG 0
  have f0 : V.frozen? ⟨g, 0, none⟩ = false := blk_frozen hG 0
  have hnL : n ≤ L.length := by
    rcases hcnt with ⟨_, h⟩ | ⟨l, h1, _, h3⟩
    · omega
    · rw [← (hst2 l h1).2]; exact h3
  have hnc : n ≤ c := by omega
  have HG := Lib.hid hG
  have HRD := Lib.hid hrd
  have H2 := Lib.hid hst2
  have H1 := Lib.hid hst1
  have hcv := head_strL (c := c) hrd hnL
  have hcvd : (convert 22 9 (.slice A n c)).run Try.prog V.drew = .ok (.string (bstr (L.take n))) V.drew := head_strL (w := V.drew) (c := c) (Rd.drew_ hrd) hnL
  obtain ⟨A1, hA1⟩ : ∃ A1, (if c = n then A else Option.map (fun x => x.add n) A) = A1 := ⟨_, rfl⟩
  have HA1 := Lib.hid hA1
  clear hs hF hG hrd hst1 hst2 hcnt
  go_wp2_with fail
  go_ret
  have hcut := HRD.out.cutN hnL hLc
  rw [HA1.out] at hcut
  refine ⟨bstr (L.take n), rfl, ?_, ?_, HF.out.trans (Ro.set _)⟩
  · cases hc : stC st with
    | none => exact ((str_of_count HC.out).1 hc).2 _
    | some l =>
      obtain ⟨_, rfl⟩ := H2.out l hc
      exact ((str_of_count HC.out).2 _ hc).2
  · refine ⟨A1, c - n, L.drop n, bad, ?_, hcut.fr (Fr.setCell (Q := fun x => x < g) (p := ⟨g, 0, none⟩) (Fr.refl _ V) (fun h : g < g => Nat.lt_irrefl _ h) _), by rw [List.length_drop]; omega, by rw [List.length_drop]; omega, fun h => ?_, fun l h => ?_⟩
    · rw [List.length_drop]; exact heap_setCell_same HG.out 0 _
    · cases hc : stC st with
      | none => exact H1.out hc
      | some l => rw [((str_of_count HC.out).2 l hc).1] at h; cases h
    · cases hc : stC st with
      | none => rw [((str_of_count HC.out).1 hc).1] at h; cases h
      | some l2 =>
        obtain ⟨hb, rfl⟩ := H2.out l2 hc
        rw [((str_of_count HC.out).2 _ hc).1] at h
        injection h with h
        exact ⟨hb, h.symm⟩
end Go.Proofs.Ytgdibeegheddmaa

namespace Go.Proofs.Ytgdibeegheddmaa
open Go Go.RowKit
set_option linter.unusedVariables false
set_option linter.unusedSimpArgs false
attribute [local go_sem ↓] Go.wp_at_zero Go.wp_at_succ
/-- What a reader of the reference hands back. -/
def RXPost {α : Type} (C : World → (Nat → Prop) → List Value → α → Prop) (c : Cod α) (g : Nat) (st : Option (List UInt8)) (w : World) (e : Ending) (w' : World) : Prop :=
  ∃ (cs : List Value) (x : α), e = .returned (.agg cs.toArray) ∧ C w' (Nw w w') cs x ∧ c.vl st x ∧ RQ w' g (c.st st) ∧ Ro g w w'
set_option maxHeartbeats 1000000 in
set_option maxRecDepth 100000 in
theorem Holding_rr (g : Nat) (st : Option (List UInt8)) (w : World) (hs : RQ w g st) : Calls Try.prog 49 #[.pointer (some ⟨g, 0, none⟩)] w (RXPost HoldingC cHolding g st w) := by
  have hg := hs.lt
  have R0 := hs.alloc (.cells #[.int .i64 0, .int .i64 0, .int .i64 0, .int .i64 0] 38)
  have F0 : Ro g w (w.alloc (.cells #[.int .i64 0, .int .i64 0, .int .i64 0, .int .i64 0] 38)) := (Fr.refl _ w).alloc (fun _ h => h.1) _
  have B0 := heap_alloc_new w (.cells #[.int .i64 0, .int .i64 0, .int .i64 0, .int .i64 0] 38)
  clear hs
  go_enter Try.func49, Try.ntmps49
  go_upto_region 1 with fail
  generalize hW : w.alloc (Obj.cells #[.int .i64 0, .int .i64 0, .int .i64 0, .int .i64 0] 38) = W0 at *
  clear hW
  have hb0 : w.heap.size < W0.heap.size := blk_lt B0
  have H0 := Lib.hid R0
  have G0 := Lib.hid B0
  clear R0 B0
  go_wp2_with fail
  refine (rint_r g _ W0 H0.out).mono ?_
  rintro e W1 ⟨n1, rfl, b1, v1, R1, f1, -⟩
  have V1 := Lib.hid v1
  clear v1
  have F1 := F0.trans (f1.mono (fun k hk => ⟨by have := hk.1; omega, hk.2⟩))
  have B1 := (f1.block w.heap.size ⟨hb0, by omega⟩).trans G0.out
  have hb1 : w.heap.size < W1.heap.size := blk_lt B1
  clear f1 F0 G0
  have H1 := Lib.hid R1
  have G1 := Lib.hid B1
  clear R1 B1
  go_wp2_with fail
  refine (rint_r g _ W1 H1.out).mono ?_
  rintro e W2 ⟨n2, rfl, b2, v2, R2, f2, -⟩
  have V2 := Lib.hid v2
  clear v2
  have F2 := F1.trans (f2.mono (fun k hk => ⟨by have := hk.1; omega, hk.2⟩))
  have B2 := (f2.block w.heap.size ⟨hb1, by omega⟩).trans G1.out
  have hb2 : w.heap.size < W2.heap.size := blk_lt B2
  clear f2 F1 G1
  have H2 := Lib.hid R2
  have G2 := Lib.hid B2
  clear R2 B2
  go_wp2_with fail
  refine (rint_r g _ W2 H2.out).mono ?_
  rintro e W3 ⟨n3, rfl, b3, v3, R3, f3, -⟩
  have V3 := Lib.hid v3
  clear v3
  have F3 := F2.trans (f3.mono (fun k hk => ⟨by have := hk.1; omega, hk.2⟩))
  have B3 := (f3.block w.heap.size ⟨hb2, by omega⟩).trans G2.out
  have hb3 : w.heap.size < W3.heap.size := blk_lt B3
  clear f3 F2 G2
  have H3 := Lib.hid R3
  have G3 := Lib.hid B3
  clear R3 B3
  go_wp2_with fail
  refine (rint_r g _ W3 H3.out).mono ?_
  rintro e W4 ⟨n4, rfl, b4, v4, R4, f4, -⟩
  have V4 := Lib.hid v4
  clear v4
  have F4 := F3.trans (f4.mono (fun k hk => ⟨by have := hk.1; omega, hk.2⟩))
  have B4 := (f4.block w.heap.size ⟨hb3, by omega⟩).trans G3.out
  have hb4 : w.heap.size < W4.heap.size := blk_lt B4
  clear f4 F3 G3
  have HB := Lib.hid B4
  clear B4
  go_wp2_with (refine wpList_store_row rfl 38 (.tmp 2) (.tmp 11) rfl w.heap.size #[.int .i64 n1, .int .i64 n2, .int .i64 n3, .int .i64 n4] rfl rfl 38 _ HB.out info38 rfl (by simp only [List.all_toArray, List.all_cons, List.all_nil, Value.oneCell', Bool.and_true]) ?_)
  have hfr := fr_setRow W4 w.heap.size #[.int .i64 n1, .int .i64 n2, .int .i64 n3, .int .i64 n4]
  (try simp only [Exit.inBlock, Exit.then])
  refine bodyPost_ret (v := .agg #[.int .i64 n1, .int .i64 n2, .int .i64 n3, .int .i64 n4]) (results_cell_row rfl _ _ w.heap.size 38 _ (0, 0) _ rfl (heap_setRow HB.out _) Try.underlying38 rfl info38) rfl ⟨[Value.int .i64 n1, .int .i64 n2, .int .i64 n3, .int .i64 n4], ⟨n1, n2, n3, n4⟩, rfl, ⟨_, _, _, _,  rfl, ⟨rfl, b1⟩, ⟨rfl, b2⟩, ⟨rfl, b3⟩, ⟨rfl, b4⟩⟩, Cod.vl_iso (Cod.vl_pair V1.out (Cod.vl_pair V2.out (Cod.vl_pair V3.out (V4.out)))), ?_, Fr.trans F4 (hfr.mono (fun k hk => by show k ≠ w.heap.size; have := hk.1; omega))⟩
  have e : cHolding.st st = cInt.st (cInt.st (cInt.st (cInt.st st))) := by simp only [cHolding, Cod.st_iso, Cod.st_pair]
  rw [e]
  exact R4.fr (Q := fun k => k ≠ w.heap.size) hfr (fun k hk => by show k ≠ w.heap.size; omega)
set_option maxHeartbeats 1000000 in
set_option maxRecDepth 100000 in
theorem Rate_rr (g : Nat) (st : Option (List UInt8)) (w : World) (hs : RQ w g st) : Calls Try.prog 48 #[.pointer (some ⟨g, 0, none⟩)] w (RXPost RateC cRate g st w) := by
  have hg := hs.lt
  have R0 := hs.alloc (.cells #[.string ⟨#[]⟩, .int .i64 0, .int .i64 0, .int .i64 0] 36)
  have F0 : Ro g w (w.alloc (.cells #[.string ⟨#[]⟩, .int .i64 0, .int .i64 0, .int .i64 0] 36)) := (Fr.refl _ w).alloc (fun _ h => h.1) _
  have B0 := heap_alloc_new w (.cells #[.string ⟨#[]⟩, .int .i64 0, .int .i64 0, .int .i64 0] 36)
  clear hs
  go_enter Try.func48, Try.ntmps48
  go_upto_region 1 with fail
  generalize hW : w.alloc (Obj.cells #[.string ⟨#[]⟩, .int .i64 0, .int .i64 0, .int .i64 0] 36) = W0 at *
  clear hW
  have hb0 : w.heap.size < W0.heap.size := blk_lt B0
  have H0 := Lib.hid R0
  have G0 := Lib.hid B0
  clear R0 B0
  go_wp2_with fail
  refine (rtext_r g _ W0 H0.out).mono ?_
  rintro e W1 ⟨n1, rfl, v1, R1, f1⟩
  have V1 := Lib.hid v1
  clear v1
  have F1 := F0.trans (f1.mono (fun k hk => ⟨by have := hk.1; omega, hk.2⟩))
  have B1 := (f1.block w.heap.size ⟨hb0, by omega⟩).trans G0.out
  have hb1 : w.heap.size < W1.heap.size := blk_lt B1
  clear f1 F0 G0
  have H1 := Lib.hid R1
  have G1 := Lib.hid B1
  clear R1 B1
  go_wp2_with fail
  refine (rint_r g _ W1 H1.out).mono ?_
  rintro e W2 ⟨n2, rfl, b2, v2, R2, f2, -⟩
  have V2 := Lib.hid v2
  clear v2
  have F2 := F1.trans (f2.mono (fun k hk => ⟨by have := hk.1; omega, hk.2⟩))
  have B2 := (f2.block w.heap.size ⟨hb1, by omega⟩).trans G1.out
  have hb2 : w.heap.size < W2.heap.size := blk_lt B2
  clear f2 F1 G1
  have H2 := Lib.hid R2
  have G2 := Lib.hid B2
  clear R2 B2
  go_wp2_with fail
  refine (rint_r g _ W2 H2.out).mono ?_
  rintro e W3 ⟨n3, rfl, b3, v3, R3, f3, -⟩
  have V3 := Lib.hid v3
  clear v3
  have F3 := F2.trans (f3.mono (fun k hk => ⟨by have := hk.1; omega, hk.2⟩))
  have B3 := (f3.block w.heap.size ⟨hb2, by omega⟩).trans G2.out
  have hb3 : w.heap.size < W3.heap.size := blk_lt B3
  clear f3 F2 G2
  have H3 := Lib.hid R3
  have G3 := Lib.hid B3
  clear R3 B3
  go_wp2_with fail
  refine (rint_r g _ W3 H3.out).mono ?_
  rintro e W4 ⟨n4, rfl, b4, v4, R4, f4, -⟩
  have V4 := Lib.hid v4
  clear v4
  have F4 := F3.trans (f4.mono (fun k hk => ⟨by have := hk.1; omega, hk.2⟩))
  have B4 := (f4.block w.heap.size ⟨hb3, by omega⟩).trans G3.out
  have hb4 : w.heap.size < W4.heap.size := blk_lt B4
  clear f4 F3 G3
  have HB := Lib.hid B4
  clear B4
  go_wp2_with (refine wpList_store_row rfl 36 (.tmp 2) (.tmp 11) rfl w.heap.size #[.string n1, .int .i64 n2, .int .i64 n3, .int .i64 n4] rfl rfl 36 _ HB.out info36 rfl (by simp only [List.all_toArray, List.all_cons, List.all_nil, Value.oneCell', Bool.and_true]) ?_)
  have hfr := fr_setRow W4 w.heap.size #[.string n1, .int .i64 n2, .int .i64 n3, .int .i64 n4]
  (try simp only [Exit.inBlock, Exit.then])
  refine bodyPost_ret (v := .agg #[.string n1, .int .i64 n2, .int .i64 n3, .int .i64 n4]) (results_cell_row rfl _ _ w.heap.size 36 _ (0, 0) _ rfl (heap_setRow HB.out _) Try.underlying36 rfl info36) rfl ⟨[Value.string n1, .int .i64 n2, .int .i64 n3, .int .i64 n4], ⟨n1, n2, n3, n4⟩, rfl, ⟨_, _, _, _,  rfl, rfl, ⟨rfl, b2⟩, ⟨rfl, b3⟩, ⟨rfl, b4⟩⟩, Cod.vl_iso (Cod.vl_pair V1.out (Cod.vl_pair V2.out (Cod.vl_pair V3.out (V4.out)))), ?_, Fr.trans F4 (hfr.mono (fun k hk => by show k ≠ w.heap.size; have := hk.1; omega))⟩
  have e : cRate.st st = cInt.st (cInt.st (cInt.st (cStr.st st))) := by simp only [cRate, Cod.st_iso, Cod.st_pair]
  rw [e]
  exact R4.fr (Q := fun k => k ≠ w.heap.size) hfr (fun k hk => by show k ≠ w.heap.size; omega)
set_option maxHeartbeats 1000000 in
set_option maxRecDepth 100000 in
theorem Stock_rr (g : Nat) (st : Option (List UInt8)) (w : World) (hs : RQ w g st) : Calls Try.prog 51 #[.pointer (some ⟨g, 0, none⟩)] w (RXPost StockC cStock g st w) := by
  have hg := hs.lt
  have R0 := hs.alloc (.cells #[.int .i64 0, .int .i64 0, .int .i64 0, .int .i64 0, .int .i64 0] 43)
  have F0 : Ro g w (w.alloc (.cells #[.int .i64 0, .int .i64 0, .int .i64 0, .int .i64 0, .int .i64 0] 43)) := (Fr.refl _ w).alloc (fun _ h => h.1) _
  have B0 := heap_alloc_new w (.cells #[.int .i64 0, .int .i64 0, .int .i64 0, .int .i64 0, .int .i64 0] 43)
  clear hs
  go_enter Try.func51, Try.ntmps51
  go_upto_region 1 with fail
  generalize hW : w.alloc (Obj.cells #[.int .i64 0, .int .i64 0, .int .i64 0, .int .i64 0, .int .i64 0] 43) = W0 at *
  clear hW
  have hb0 : w.heap.size < W0.heap.size := blk_lt B0
  have H0 := Lib.hid R0
  have G0 := Lib.hid B0
  clear R0 B0
  go_wp2_with fail
  refine (rint_r g _ W0 H0.out).mono ?_
  rintro e W1 ⟨n1, rfl, b1, v1, R1, f1, -⟩
  have V1 := Lib.hid v1
  clear v1
  have F1 := F0.trans (f1.mono (fun k hk => ⟨by have := hk.1; omega, hk.2⟩))
  have B1 := (f1.block w.heap.size ⟨hb0, by omega⟩).trans G0.out
  have hb1 : w.heap.size < W1.heap.size := blk_lt B1
  clear f1 F0 G0
  have H1 := Lib.hid R1
  have G1 := Lib.hid B1
  clear R1 B1
  go_wp2_with fail
  refine (rint_r g _ W1 H1.out).mono ?_
  rintro e W2 ⟨n2, rfl, b2, v2, R2, f2, -⟩
  have V2 := Lib.hid v2
  clear v2
  have F2 := F1.trans (f2.mono (fun k hk => ⟨by have := hk.1; omega, hk.2⟩))
  have B2 := (f2.block w.heap.size ⟨hb1, by omega⟩).trans G1.out
  have hb2 : w.heap.size < W2.heap.size := blk_lt B2
  clear f2 F1 G1
  have H2 := Lib.hid R2
  have G2 := Lib.hid B2
  clear R2 B2
  go_wp2_with fail
  refine (rint_r g _ W2 H2.out).mono ?_
  rintro e W3 ⟨n3, rfl, b3, v3, R3, f3, -⟩
  have V3 := Lib.hid v3
  clear v3
  have F3 := F2.trans (f3.mono (fun k hk => ⟨by have := hk.1; omega, hk.2⟩))
  have B3 := (f3.block w.heap.size ⟨hb2, by omega⟩).trans G2.out
  have hb3 : w.heap.size < W3.heap.size := blk_lt B3
  clear f3 F2 G2
  have H3 := Lib.hid R3
  have G3 := Lib.hid B3
  clear R3 B3
  go_wp2_with fail
  refine (rint_r g _ W3 H3.out).mono ?_
  rintro e W4 ⟨n4, rfl, b4, v4, R4, f4, -⟩
  have V4 := Lib.hid v4
  clear v4
  have F4 := F3.trans (f4.mono (fun k hk => ⟨by have := hk.1; omega, hk.2⟩))
  have B4 := (f4.block w.heap.size ⟨hb3, by omega⟩).trans G3.out
  have hb4 : w.heap.size < W4.heap.size := blk_lt B4
  clear f4 F3 G3
  have H4 := Lib.hid R4
  have G4 := Lib.hid B4
  clear R4 B4
  go_wp2_with fail
  refine (rint_r g _ W4 H4.out).mono ?_
  rintro e W5 ⟨n5, rfl, b5, v5, R5, f5, -⟩
  have V5 := Lib.hid v5
  clear v5
  have F5 := F4.trans (f5.mono (fun k hk => ⟨by have := hk.1; omega, hk.2⟩))
  have B5 := (f5.block w.heap.size ⟨hb4, by omega⟩).trans G4.out
  have hb5 : w.heap.size < W5.heap.size := blk_lt B5
  clear f5 F4 G4
  have HB := Lib.hid B5
  clear B5
  go_wp2_with (refine wpList_store_row rfl 43 (.tmp 2) (.tmp 13) rfl w.heap.size #[.int .i64 n1, .int .i64 n2, .int .i64 n3, .int .i64 n4, .int .i64 n5] rfl rfl 43 _ HB.out info43 rfl (by simp only [List.all_toArray, List.all_cons, List.all_nil, Value.oneCell', Bool.and_true]) ?_)
  have hfr := fr_setRow W5 w.heap.size #[.int .i64 n1, .int .i64 n2, .int .i64 n3, .int .i64 n4, .int .i64 n5]
  (try simp only [Exit.inBlock, Exit.then])
  refine bodyPost_ret (v := .agg #[.int .i64 n1, .int .i64 n2, .int .i64 n3, .int .i64 n4, .int .i64 n5]) (results_cell_row rfl _ _ w.heap.size 43 _ (0, 0) _ rfl (heap_setRow HB.out _) Try.underlying43 rfl info43) rfl ⟨[Value.int .i64 n1, .int .i64 n2, .int .i64 n3, .int .i64 n4, .int .i64 n5], ⟨n1, n2, n3, n4, n5⟩, rfl, ⟨_, _, _, _, _,  rfl, ⟨rfl, b1⟩, ⟨rfl, b2⟩, ⟨rfl, b3⟩, ⟨rfl, b4⟩, ⟨rfl, b5⟩⟩, Cod.vl_iso (Cod.vl_pair V1.out (Cod.vl_pair V2.out (Cod.vl_pair V3.out (Cod.vl_pair V4.out (V5.out))))), ?_, Fr.trans F5 (hfr.mono (fun k hk => by show k ≠ w.heap.size; have := hk.1; omega))⟩
  have e : cStock.st st = cInt.st (cInt.st (cInt.st (cInt.st (cInt.st st)))) := by simp only [cStock, Cod.st_iso, Cod.st_pair]
  rw [e]
  exact R5.fr (Q := fun k => k ≠ w.heap.size) hfr (fun k hk => by show k ≠ w.heap.size; omega)
end Go.Proofs.Ytgdibeegheddmaa

namespace Go.Proofs.Ytgdibeegheddmaa
open Go Go.RowKit
set_option linter.unusedVariables false
set_option linter.unusedSimpArgs false
attribute [local go_sem ↓] Go.wp_at_zero Go.wp_at_succ
theorem RQ.open {w : World} {g : Nat} {o : Option (List UInt8)} (h : RQ w g o) : ∃ bad : Bool, w.cell? ⟨g, 1, none⟩ = some (.bool bad) ∧ (o = none → bad = true) ∧ (∀ l, o = some l → bad = false) := by
  obtain ⟨A, c, L, bad, h1, _, _, _, h2, h3⟩ := h
  exact ⟨bad, blk_cell h1 1, h2, fun l hl => (h3 l hl).1⟩
/-- A list whose count is more than the bytes that follow is no list. -/
theorem cnt_list {α : Type} (c : Cod α) (hpos : ∀ y, 1 ≤ (c.enc y).length) {st : Option (List UInt8)} {n : Nat} (h : Cnt st n) (hl : ∀ l, stC st = some l → l.length ≤ 100000000) : ∃ oi, oi = stC st ∧ LP c st (n : Int) 0 oi [] := by
  rcases h with ⟨h1, rfl⟩ | ⟨l, h1, h2, h3⟩
  · refine ⟨none, h1.symm, .inl ⟨rfl, ?_⟩⟩
    have key : st.bind (cList c).dec = none := by
      cases st with
      | none => rfl
      | some b =>
        have h' : Option.map (·.2) (decCount b) = none := h1
        rw [Option.map_eq_none_iff] at h'
        show decL c.dec b = none
        unfold decCount at h'
        unfold decL
        cases hd : decInt b with
        | none => rfl
        | some p =>
          rw [hd] at h'
          simp only [Option.bind_some] at h' ⊢
          by_cases hn : p.1 < 0
          · rw [if_pos hn]
          · rw [if_neg hn]
            cases hq : decN c.dec p.1.toNat p.2 with
            | none => rfl
            | some q =>
              obtain ⟨hb, hbl, _⟩ := decN_bwd c _ _ q.1 q.2 hq
              have h11 := flat_le c.enc hpos q.1
              have h12 := congrArg List.length hb
              rw [List.length_append] at h12
              rw [if_pos ⟨by omega, by omega⟩] at h'
              cases h'
    exact ⟨by simp [Cod.st, key], (fun ys p hp => by rw [key] at hp; cases hp), rfl, rfl⟩
  · refine ⟨some l, h1.symm, ?_⟩
    cases st with
    | none => cases h2
    | some b =>
      have h' : decCount b = some ((n : Int), l) := h2
      have hd : decInt b = some ((n : Int), l) := by
        unfold decCount at h'
        cases hd : decInt b with
        | none => rw [hd] at h'; cases h'
        | some p =>
          rw [hd] at h'
          simp only [Option.bind_some] at h'
          split at h'
          · exact h'
          · cases h'
      refine LP.start ?_ ?_ (by omega) (hl l h1)
      · show Option.map (·.2) (decInt b) = some l
        rw [hd]; rfl
      · intro p hp
        have hp : decInt b = some p := hp
        rw [hd] at hp
        injection hp with hp
        rw [← hp]
theorem RQ.len {w : World} {g : Nat} {o : Option (List UInt8)} (h : RQ w g o) : ∀ l, o = some l → l.length ≤ 100000000 := by
  obtain ⟨A, c, L, bad, _, _, _, h1, _, h3⟩ := h
  intro l hl
  rw [(h3 l hl).2]; exact h1
def RLPost {α : Type} (El : World → (Nat → Prop) → List Value → α → Prop) (size : Nat) (c : Cod α) (g : Nat) (st : Option (List UInt8)) (w : World) (e : Ending) (w' : World) : Prop :=
  ∃ (v : Value) (xs : List α), e = .returned v ∧ ListC El size w' (Nw w w') [v] xs ∧ (cList c).vl st xs ∧ RQ w' g ((cList c).st st) ∧ Ro g w w'
theorem rfr {w w2 w3 : World} {v : Value} {ob : Obj} (hg : (w2.alloc ob).grownBy w3 v.ownBlock) (hv : ∀ k, v.ownBlock = some k → w.heap.size ≤ k) (hw : w.heap.size ≤ w2.heap.size) : Fr (· < w.heap.size) w2 w3 :=
  ((Fr.refl (fun k => k < w.heap.size) w2).alloc (fun k hk => by have : k < w.heap.size := hk; omega) ob).trans ⟨hg.os, hg.tape, hg.output, hg.size, fun k hk => hg.block k (by have : k < w.heap.size := hk; simp; omega) (fun e => by have := hv k e.symm; have : k < w.heap.size := hk; omega)⟩
set_option maxHeartbeats 2000000 in
set_option maxRecDepth 100000 in
theorem listRef_rr (g : Nat) (st : Option (List UInt8)) (w : World) (hs : RQ w g st) : Calls Try.prog 66 #[.pointer (some ⟨g, 0, none⟩)] w (RLPost RefC 2 cRef g st w) := by
  have hglt := hs.lt
  go_enter Try.func66, Try.ntmps66
  go_wp2_with fail
  refine (count_r g st w hs).mono ?_
  rintro e W ⟨n, rfl, hn8, hcnt, hRW, hFW⟩
  obtain ⟨oi0, hoi, hLP0⟩ := cnt_list cRef encRef_pos hcnt hRW.len
  rw [← hoi] at hRW
  have HLP := Lib.hid hLP0
  have HRW := Lib.hid hRW
  have HFW := Lib.hid hFW
  clear hs hcnt hRW hFW hoi hLP0
  obtain ⟨i0, hi0, hz0, hz1, hz2⟩ := info_parts info160z
  go_wp2_with fail
  go_loopw [3, 4] (fun v m wr => ∃ (j k : Nat) (oi : Option (List UInt8)) (xs : List XRef) (ess : List (List Value)), m = .int .i64 (j : Int) ∧ j + k = n ∧ LP cRef st (n : Int) k oi xs ∧ RQ wr g oi ∧ LInv RefC 2 160 w wr v xs ess ∧ Ro g w wr) (fun _ m _ => (intOf m).toNat)
  case atStart => exact ⟨n, 0, oi0, [], [], rfl, rfl, HLP.out, HRW.out, LInv.nil _ _, HFW.out⟩
  case round =>
    obtain ⟨j, k, oi, xs, ess, rfl, hjk, hLP, hRR, hLI, hFF⟩ := hrel
    obtain ⟨bad, b1, hb1, hb2⟩ := hRR.open
    have hvo := fun k (e : Value.ownBlock _ = some k) => (hLI.own.lt k e).1
    have hwr : w.heap.size ≤ wr.heap.size := hFF.size
    obtain ⟨vA, vn, vc, rfl⟩ := own_shape hLI.own
    have HL := Lib.hid hLP
    have HRR := Lib.hid hRR
    have HLI := Lib.hid hLI
    have HFF := Lib.hid hFF
    have HVO := Lib.hid hvo
    have HB1 := Lib.hid hb1
    have HB2 := Lib.hid hb2
    have HJK := Lib.hid hjk
    clear hLP hRR hLI hFF hvo hb1 hb2 hjk
    have done : (oi = none ∨ (n : Int) ≤ (k : Int)) → RLPost RefC 2 cRef g st w (.returned (.slice vA vn vc)) wr := fun h =>
      ⟨_, xs, rfl, HLI.out.out (fun h hq => RefC.mono h hq), (HL.out.out h).2, by rw [(HL.out.out h).1]; exact HRR.out, HFF.out⟩
    have HD := Lib.hid done
    clear done
    rcases Nat.eq_zero_or_pos j with hj | hj
    · subst hj
      go_wp2_with fail
      go_ret
      exact HD.out (.inr (by have := HJK.out; omega))
    · have hj8 : j ≤ 100000000 := by have := HJK.out; omega
      have hd : decide ((0 : Int) < (j : Int)) = true := decide_eq_true (by omega)
      cases oi with
      | none =>
        have hbad := HB1.out rfl
        subst hbad
        go_wp2_with fail
        go_ret
        exact HD.out (.inl (by first | rfl | trivial))
      | some r =>
        have hbad := HB2.out r rfl
        subst hbad
        go_wp2_with fail
        refine (rint_r g _ wr HRR.out).mono ?_
        rintro e w1 ⟨n1, rfl, c1, v1, r1, f1, -⟩
        have V1 := Lib.hid v1
        have R1 := Lib.hid r1
        have F1 := Lib.hid f1
        clear v1 r1 f1
        go_wp2_with fail
        refine (rint_r g _ w1 R1.out).mono ?_
        rintro e w2 ⟨n2, rfl, c2, v2, r2, f2, -⟩
        have V2 := Lib.hid v2
        have R2 := Lib.hid r2
        have F2 := Lib.hid (F1.out.trans f2)
        clear v2 r2 f2 F1 R1
        have LI2 := Lib.hid (HLI.out.keep (w2 := w2) (F2.out.mono (fun k hk => ⟨hk.2, by have := hk.1; omega⟩)) (fun h hf => RefC.fr h hf) (fun h hq => RefC.mono h hq))
        have hw2 : w.heap.size ≤ w2.heap.size := by have := F2.out.size; omega
        have hk8 := HL.out.len
        go_wp2_with (at_builtin; refine wpList_app _ rfl (.tmp 18) (.tmp 24) 39 rfl w.heap.size 160 i0 _ 2 16 Try.underlying39 hi0 hz0 hz1 hz2 (by rfl) (by decide) (.slice vA vn vc) xs.length ess.flatten rfl (LI2.out.own.alloc _) (fun _ => True) (some ⟨w2.heap.size, 0, none⟩) 1 1 [.int .i64 n1, .int .i64 n2] rfl (row1 w2 [.int .i64 n1, .int .i64 n2] 160 2 rfl) (by simp [Value.oneCell']) (by simp only [maxLen]; omega) (by omega) (by simp; omega) ?_; intro v3 w3 hown3 hg3 hat3; replace hown3 := Lib.hid hown3; replace hg3 := Lib.hid hg3; replace hat3 := Lib.hid hat3)
        go_roundw
        case rel =>
          have hfr := rfr (w := w) hg3.out HVO.out hw2
          have hes : RefC (w2.alloc (.cells #[.int .i64 n1, .int .i64 n2] 160)) (Qe w (w2.alloc (.cells #[.int .i64 n1, .int .i64 n2] 160)) (.slice vA vn vc)) [.int .i64 n1, .int .i64 n2] ⟨n1, n2⟩ := ⟨_, _, rfl, ⟨rfl, c1⟩, ⟨rfl, c2⟩⟩
          have hLIa := LI2.out.keep (w2 := w2.alloc (.cells #[.int .i64 n1, .int .i64 n2] 160)) ((Fr.refl _ w2).alloc (fun k hk => hk.2) _) (fun h hf => RefC.fr h hf) (fun h hq => RefC.mono h hq)
          refine ⟨j - 1, k + 1, cRef.st (some r), xs ++ [⟨n1, n2⟩], ess ++ [[.int .i64 n1, .int .i64 n2]], by go_num, by have := HJK.out; omega, HL.out.step (by have := HJK.out; omega) encRef_pos (Cod.vl_iso (Cod.vl_pair V1.out V2.out)), ?_, ?_, ?_⟩
          · have e : cRef.st (some r) = cInt.st (cInt.st (some r)) := by simp only [cRef, Cod.st_iso, Cod.st_pair]
            rw [e]
            exact R2.out.fr (Q := (· < w.heap.size)) hfr (fun k hk => by show k < w.heap.size; omega)
          · exact hLIa.app hown3.out rfl hg3.out hat3.out hes (fun h hf => RefC.fr h hf) (fun h hq => RefC.mono h hq)
          · exact Fr.trans (HFF.out.trans F2.out) (hfr.mono (fun k hk => hk.1))
        case measure =>
          have e : wrap64 ((j : Int) - 1) = ((j - 1 : Nat) : Int) := by unfold wrap64; omega
          simp only [intOf, e]
          omega
end Go.Proofs.Ytgdibeegheddmaa

namespace Go.Proofs.Ytgdibeegheddmaa
open Go Go.RowKit
set_option linter.unusedVariables false
set_option linter.unusedSimpArgs false
attribute [local go_sem ↓] Go.wp_at_zero Go.wp_at_succ
theorem refs_fr {w w' : World} {Q : Nat → Prop} {cs : List Value} {xs : List XRef} (h : ListC RefC 2 w Q cs xs) (hf : Fr Q w w') : ListC RefC 2 w' Q cs xs := h.fr (fun h => RefC.fr h hf) hf
theorem refs_mono {w : World} {Q Q' : Nat → Prop} {cs : List Value} {xs : List XRef} (h : ListC RefC 2 w Q cs xs) (hq : ∀ k, Q k → Q' k) : ListC RefC 2 w Q' cs xs := h.mono (fun h => RefC.mono h hq) hq
theorem ListC.slice {α : Type} {El : World → (Nat → Prop) → List Value → α → Prop} {size : Nat} {w : World} {Q : Nat → Prop} {v : Value} {xs : List α} (h : ListC El size w Q [v] xs) : ∃ (A : Option Addr) (c : Nat), v = .slice A xs.length c := by
  obtain ⟨A, c, h, _⟩ := h
  injection h with h _
  exact ⟨A, c, h⟩
/-- Data in new blocks stay while the reader reads on. -/
theorem Ro.nw {g : Nat} {w W1 W2 : World} (h : Ro g W1 W2) (hg : g < w.heap.size) : Fr (fun k => w.heap.size + 1 ≤ k ∧ k < W1.heap.size) W1 W2 := h.mono (fun k hk => ⟨hk.2, by have := hk.1; omega⟩)
set_option maxHeartbeats 1000000 in
set_option maxRecDepth 100000 in
theorem Match_rr (g : Nat) (st : Option (List UInt8)) (w : World) (hs : RQ w g st) : Calls Try.prog 50 #[.pointer (some ⟨g, 0, none⟩)] w (RXPost MatchC cMatch g st w) := by
  have hg := hs.lt
  have R0 := hs.alloc (.cells #[.int .i64 0, .slice none 0 0, .slice none 0 0, .int .i64 0] 41)
  have F0 : Ro g w (w.alloc (.cells #[.int .i64 0, .slice none 0 0, .slice none 0 0, .int .i64 0] 41)) := (Fr.refl _ w).alloc (fun _ h => h.1) _
  have B0 := heap_alloc_new w (.cells #[.int .i64 0, .slice none 0 0, .slice none 0 0, .int .i64 0] 41)
  clear hs
  go_enter Try.func50, Try.ntmps50
  go_upto_region 1 with fail
  generalize hW : w.alloc (Obj.cells #[.int .i64 0, .slice none 0 0, .slice none 0 0, .int .i64 0] 41) = W0 at *
  clear hW
  have hb0 : w.heap.size < W0.heap.size := blk_lt B0
  have H0 := Lib.hid R0
  have G0 := Lib.hid B0
  clear R0 B0
  go_wp2_with fail
  refine (rint_r g _ W0 H0.out).mono ?_
  rintro e W1 ⟨n1, rfl, b1, v1, R1, f1, -⟩
  have V1 := Lib.hid v1
  clear v1
  have F1 := F0.trans (f1.mono (fun k hk => ⟨by have := hk.1; omega, hk.2⟩))
  have B1 := (f1.block w.heap.size ⟨hb0, by omega⟩).trans G0.out
  have hb1 : w.heap.size < W1.heap.size := blk_lt B1
  clear f1 F0 G0
  have H1 := Lib.hid R1
  have G1 := Lib.hid B1
  clear R1 B1
  go_wp2_with fail
  refine (listRef_rr g _ W1 H1.out).mono ?_
  rintro e W2 ⟨q2, n2, rfl, l2, v2, R2, f2⟩
  have V2 := Lib.hid v2
  clear v2
  have F2 := F1.trans (f2.mono (fun k hk => ⟨by have := hk.1; omega, hk.2⟩))
  have B2 := (f2.block w.heap.size ⟨hb1, by omega⟩).trans G1.out
  have hb2 : w.heap.size < W2.heap.size := blk_lt B2
  obtain ⟨A2, k2, rfl⟩ := l2.slice
  have L2_2 : Hid (ListC RefC 2 W2 (fun k => w.heap.size + 1 ≤ k ∧ k < W2.heap.size) _ _) := Lib.hid (refs_mono l2 (fun k hk => ⟨by have := hk.1; omega, hk.2⟩))
  clear l2
  clear f2 F1 G1
  have H2 := Lib.hid R2
  have G2 := Lib.hid B2
  clear R2 B2
  go_wp2_with fail
  refine (listRef_rr g _ W2 H2.out).mono ?_
  rintro e W3 ⟨q3, n3, rfl, l3, v3, R3, f3⟩
  have V3 := Lib.hid v3
  clear v3
  have F3 := F2.trans (f3.mono (fun k hk => ⟨by have := hk.1; omega, hk.2⟩))
  have B3 := (f3.block w.heap.size ⟨hb2, by omega⟩).trans G2.out
  have hb3 : w.heap.size < W3.heap.size := blk_lt B3
  have L2_3 : Hid (ListC RefC 2 W3 (fun k => w.heap.size + 1 ≤ k ∧ k < W3.heap.size) _ _) := Lib.hid (refs_mono (refs_fr L2_2.out (f3.nw (w := w) hg)) (fun k hk => ⟨hk.1, Nat.lt_of_lt_of_le hk.2 f3.size⟩))
  obtain ⟨A3, k3, rfl⟩ := l3.slice
  have L3_3 : Hid (ListC RefC 2 W3 (fun k => w.heap.size + 1 ≤ k ∧ k < W3.heap.size) _ _) := Lib.hid (refs_mono l3 (fun k hk => ⟨by have := hk.1; omega, hk.2⟩))
  clear l3
  clear f3 F2 G2
  have H3 := Lib.hid R3
  have G3 := Lib.hid B3
  clear R3 B3
  go_wp2_with fail
  refine (rint_r g _ W3 H3.out).mono ?_
  rintro e W4 ⟨n4, rfl, b4, v4, R4, f4, -⟩
  have V4 := Lib.hid v4
  clear v4
  have F4 := F3.trans (f4.mono (fun k hk => ⟨by have := hk.1; omega, hk.2⟩))
  have B4 := (f4.block w.heap.size ⟨hb3, by omega⟩).trans G3.out
  have hb4 : w.heap.size < W4.heap.size := blk_lt B4
  have L2_4 : Hid (ListC RefC 2 W4 (fun k => w.heap.size + 1 ≤ k ∧ k < W4.heap.size) _ _) := Lib.hid (refs_mono (refs_fr L2_3.out (f4.nw (w := w) hg)) (fun k hk => ⟨hk.1, Nat.lt_of_lt_of_le hk.2 f4.size⟩))
  have L3_4 : Hid (ListC RefC 2 W4 (fun k => w.heap.size + 1 ≤ k ∧ k < W4.heap.size) _ _) := Lib.hid (refs_mono (refs_fr L3_3.out (f4.nw (w := w) hg)) (fun k hk => ⟨hk.1, Nat.lt_of_lt_of_le hk.2 f4.size⟩))
  clear f4 F3 G3
  have HB := Lib.hid B4
  clear B4
  go_wp2_with (refine wpList_store_row rfl 41 (.tmp 2) (.tmp 11) rfl w.heap.size #[.int .i64 n1, .slice A2 n2.length k2, .slice A3 n3.length k3, .int .i64 n4] rfl rfl 41 _ HB.out info41 rfl (by simp only [List.all_toArray, List.all_cons, List.all_nil, Value.oneCell', Bool.and_true]) ?_)
  have hfr := fr_setRow W4 w.heap.size #[.int .i64 n1, .slice A2 n2.length k2, .slice A3 n3.length k3, .int .i64 n4]
  (try simp only [Exit.inBlock, Exit.then])
  refine bodyPost_ret (v := .agg #[.int .i64 n1, .slice A2 n2.length k2, .slice A3 n3.length k3, .int .i64 n4]) (results_cell_row rfl _ _ w.heap.size 41 _ (0, 0) _ rfl (heap_setRow HB.out _) Try.underlying41 rfl info41) rfl ⟨[Value.int .i64 n1, Value.slice A2 n2.length k2, Value.slice A3 n3.length k3, Value.int .i64 n4], ⟨n1, n2, n3, n4⟩, rfl, ⟨_, _, _, _,  rfl, ⟨rfl, b1⟩, refs_mono (refs_fr (Q := fun k => w.heap.size + 1 ≤ k ∧ k < W4.heap.size) L2_4.out (hfr.mono (fun k hk => by show k ≠ w.heap.size; have := hk.1; omega))) (fun k hk => ⟨by have := hk.1; omega, Nat.lt_of_lt_of_le hk.2 hfr.size⟩), refs_mono (refs_fr (Q := fun k => w.heap.size + 1 ≤ k ∧ k < W4.heap.size) L3_4.out (hfr.mono (fun k hk => by show k ≠ w.heap.size; have := hk.1; omega))) (fun k hk => ⟨by have := hk.1; omega, Nat.lt_of_lt_of_le hk.2 hfr.size⟩), ⟨rfl, b4⟩⟩, Cod.vl_iso (Cod.vl_pair V1.out (Cod.vl_pair V2.out (Cod.vl_pair V3.out (V4.out)))), ?_, Fr.trans F4 (hfr.mono (fun k hk => by show k ≠ w.heap.size; have := hk.1; omega))⟩
  have e : cMatch.st st = (cInt).st ((cList cRef).st ((cList cRef).st ((cInt).st (st)))) := by simp only [cMatch, Cod.st_iso, Cod.st_pair]
  rw [e]
  exact R4.fr (Q := fun k => k ≠ w.heap.size) hfr (fun k hk => by show k ≠ w.heap.size; omega)
end Go.Proofs.Ytgdibeegheddmaa
