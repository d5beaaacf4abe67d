/- CodecEventTrip is proved: for any two events and any bytes, writing and parsing answer as the statement says; no condition. Joined out of O1, O2, O3 by merge_o.py. -/
import Derived.Test.YtgdibeegheddmaaI4Event
import Derived.Test.YtgdibeegheddmaaH10RefEvent
import Derived.Test.YtgdibeegheddmaaJ1EventsWalk
import Derived.Test.YtgdibeegheddmaaM2Parse
namespace Go.Proofs.Ytgdibeegheddmaa
open Go Go.RowKit
set_option linter.unusedVariables false
set_option linter.unusedSimpArgs false
theorem lenZEntry : (encEntry {}).length ≤ 100 := by
  have := enc_len 0
  simp only [encEntry, encL, encS, sb, List.length_append, List.flatMap_nil, List.length_nil]
  have e : (ByteArray.empty.data.toList : List UInt8) = [] := rfl
  have e2 : enc ((ByteArray.empty.size : Nat) : Int) = enc 0 := rfl
  have e3 : enc (((0 : Nat)) : Int) = enc 0 := rfl
  simp only [e, e2, e3, List.length_nil]
  omega
theorem lenZRate : (encRate {}).length ≤ 100 := by
  have := enc_len 0
  simp only [encRate, encS, sb, List.length_append]
  have e : (ByteArray.empty.data.toList : List UInt8) = [] := rfl
  have e2 : enc ((ByteArray.empty.size : Nat) : Int) = enc 0 := rfl
  simp only [e, e2, List.length_nil]
  omega
theorem lenZHolding : (encHolding {}).length ≤ 100 := by
  have := enc_len 0
  simp only [encHolding, List.length_append]
  omega
theorem lenZMatch : (encMatch {}).length ≤ 100 := by
  have := enc_len 0
  have e3 : enc (((0 : Nat)) : Int) = enc 0 := rfl
  simp only [encMatch, encL, List.length_append, List.flatMap_nil, List.length_nil, e3]
  omega
theorem lenZStock : (encStock {}).length ≤ 100 := by
  have := enc_len 0
  simp only [encStock, List.length_append]
  omega
theorem lenZText : (encS ByteArray.empty).length ≤ 10 := by
  have := enc_len 0
  have e : (ByteArray.empty.data.toList : List UInt8) = [] := rfl
  have e2 : enc ((ByteArray.empty.size : Nat) : Int) = enc 0 := rfl
  simp only [encS, sb, List.length_append, e, e2, List.length_nil]
  omega
theorem own_all_len {x : XEvent} (ho : ownEv x = x) : (encAll x).length ≤ (encEv x).length + 1000 := by
  have h0 := enc_len 0
  have h1 := lenZEntry
  have h2 := lenZRate
  have h3 := lenZHolding
  have h4 := lenZMatch
  have h5 := lenZStock
  have h6 := lenZText
  have hk := enc_len x.kind
  have f1 : (encAll x).length = (enc x.kind).length + (enc x.a).length + (enc x.b).length + (encEntry x.entry).length + (encRate x.rate).length + (encHolding x.holding).length + (encMatch x.match_).length + (encStock x.stock).length + (encS x.text).length := by
    simp only [encAll, List.length_append]
  have f2 : (encEv x).length = (enc x.kind).length + (encFields x).length := by simp only [encEv, List.length_append]
  rw [f1, f2]
  have g1 : x.kind ≠ 1 → x.entry = {} := fun h => by rw [← ho]; unfold ownEv; rw [if_neg h]; (repeat' split) <;> rfl
  have g2 : x.kind ≠ 2 → x.rate = {} := fun h => by rw [← ho]; unfold ownEv; simp only [if_neg h]; (repeat' split) <;> rfl
  have g3 : x.kind ≠ 3 → x.holding = {} := fun h => by rw [← ho]; unfold ownEv; simp only [if_neg h]; (repeat' split) <;> rfl
  have g4 : x.kind ≠ 4 → x.match_ = {} := fun h => by rw [← ho]; unfold ownEv; simp only [if_neg h]; (repeat' split) <;> rfl
  have g6 : x.kind ≠ 6 → x.stock = {} := fun h => by rw [← ho]; unfold ownEv; simp only [if_neg h]; (repeat' split) <;> rfl
  have gt : x.kind ≠ 7 ∧ x.kind ≠ 10 → x.text = ByteArray.empty := fun h => by rw [← ho]; unfold ownEv; simp only [if_neg h.1, if_neg h.2]; (repeat' split) <;> rfl
  have ha := enc_len x.a
  have hb := enc_len x.b
  have k1 : x.kind = 1 ∨ (encEntry x.entry).length ≤ 100 := by
    by_cases h : x.kind = 1
    · exact .inl h
    · exact .inr (by rw [g1 h]; exact h1)
  have k2 : x.kind = 2 ∨ (encRate x.rate).length ≤ 100 := by
    by_cases h : x.kind = 2
    · exact .inl h
    · exact .inr (by rw [g2 h]; exact h2)
  have k3 : x.kind = 3 ∨ (encHolding x.holding).length ≤ 100 := by
    by_cases h : x.kind = 3
    · exact .inl h
    · exact .inr (by rw [g3 h]; exact h3)
  have k4 : x.kind = 4 ∨ (encMatch x.match_).length ≤ 100 := by
    by_cases h : x.kind = 4
    · exact .inl h
    · exact .inr (by rw [g4 h]; exact h4)
  have k6 : x.kind = 6 ∨ (encStock x.stock).length ≤ 100 := by
    by_cases h : x.kind = 6
    · exact .inl h
    · exact .inr (by rw [g6 h]; exact h5)
  have kt : x.kind = 7 ∨ x.kind = 10 ∨ (encS x.text).length ≤ 10 := by
    by_cases h : x.kind = 7
    · exact .inl h
    · by_cases h' : x.kind = 10
      · exact .inr (.inl h')
      · exact .inr (.inr (by rw [gt ⟨h, h'⟩]; exact h6))
  unfold encFields
  split
  · omega
  · split
    · omega
    · split
      · omega
      · split
        · omega
        · split
          · omega
          · split
            · omega
            · split
              · omega
              · split
                · simp only [List.length_append]; omega
                · omega
theorem proper_iff {x : XEvent} (hx : cEvent.ok x) : properB x = true ↔ known x.kind = true ∧ ownEv x = x := by
  unfold properB
  rw [Bool.and_eq_true, decide_eq_true_iff, all_iff hx (okOwn hx)]
  exact ⟨fun h => ⟨h.1, h.2.symm⟩, fun h => ⟨h.1, h.2.symm⟩⟩
/-- An event that is written is parsed again. -/
theorem eventR_ok {x : XEvent} {R : List UInt8} (hx : cEvent.ok x) (h : eventR x = (R, 0)) : R = encEv x ∧ R.length ≤ 65536 ∧ parseEv R = some x := by
  unfold eventR at h
  by_cases hp : properB x = true
  · rw [if_pos hp] at h
    by_cases hl : 65536 < (encEv x).length
    · rw [if_pos hl] at h
      injection h with _ h
      cases h
    · rw [if_neg hl] at h
      injection h with h _
      obtain ⟨h1, h2⟩ := (proper_iff hx).1 hp
      subst h
      exact ⟨rfl, by omega, parseEv_enc h1 h2 hx (by omega)⟩
  · rw [if_neg hp] at h
    injection h with _ h
    cases h
/-- What is parsed is written again. -/
theorem eventR_of {x : XEvent} {L : List UInt8} (h : parseEv L = some x) : eventR x = (L, 0) ∧ (encAll x).length ≤ 70000 ∧ (encEv x).length ≤ 65536 := by
  obtain ⟨h1, h2, h3, h4, h5⟩ := parseEv_some h
  have hp : properB x = true := (proper_iff h5).2 ⟨h3, h4⟩
  have hl := own_all_len h4
  rw [← h1] at hl
  refine ⟨?_, by omega, by rw [← h1]; exact h2⟩
  unfold eventR
  rw [if_pos hp, ← h1, if_neg (by omega)]
/-- Different events have different bytes. -/
theorem eventR_inj {x y : XEvent} {R S : List UInt8} (hx : cEvent.ok x) (hy : cEvent.ok y) (h1 : eventR x = (R, 0)) (h2 : eventR y = (S, 0)) : ((bstr R).toList == (bstr S).toList) = decide (encAll x = encAll y) := by
  obtain ⟨_, _, p1⟩ := eventR_ok hx h1
  obtain ⟨_, _, p2⟩ := eventR_ok hy h2
  rw [bstr_beq, Bool.eq_iff_iff, decide_eq_true_iff, decide_eq_true_iff, all_iff hx hy]
  constructor
  · intro h
    subst h
    rw [p1] at p2
    injection p2
  · rintro rfl
    rw [h1] at h2
    injection h2 with h2 _
theorem fewZ : Few {} := ⟨by simp, by show (0 : Nat) ≤ _; omega, by show (0 : Nat) ≤ _; omega, by simp, by simp, by show (0 : Nat) ≤ _; omega⟩
end Go.Proofs.Ytgdibeegheddmaa

namespace Go.Proofs.Ytgdibeegheddmaa
open Go Go.RowKit
set_option linter.unusedVariables false
set_option linter.unusedSimpArgs false
section
attribute [local go_sem ↓] Go.wp_at_zero Go.wp_at_succ
/-- A new variable is set whole: the world behind it is a letter. -/
theorem wpList_store_fresh {P : Program} {ops : Array Oper} {rest : List Oper} {o : Oper} {a : Act} {Q : Exit → Act → World → Prop} (hgd : o.guard = none) (ty : TypeId) (x y : Operand) (ho : o.op = .store ty x y) (hd : o.dst = none)
    (w1 : World) (old : Array Value) (t : TypeId) (cells : Array Value) (hx : a.eval x = .pointer (some ⟨w1.heap.size, 0, none⟩)) (hy : a.eval y = .agg cells)
    (hi : (P.info? ty).map (·.size) = some cells.size) (hold : old.size = cells.size) (h1 : cells.all (·.oneCell') = true)
    (h : ∀ w2 : World, w2.heap[w1.heap.size]? = some (.cells cells t (0, 0)) → Below w1.heap.size w1 w2 → w1.heap.size < w2.heap.size → wpList P ops Q rest a w2) :
    wpList P ops Q (o :: rest) a (w1.alloc (.cells old t)) := by
  have hg : (w1.alloc (.cells old t)).heap[w1.heap.size]? = some (.cells old t (0, 0)) := heap_alloc_new w1 _
  refine wpList_store_row hgd ty x y ho w1.heap.size cells hx hy t old hg hi hold h1 ?_
  rw [hd]
  have f := ((Fr.refl (· < w1.heap.size) w1).alloc (fun _ h => h) (.cells old t)).trans ((fr_setRow (w1.alloc (.cells old t)) w1.heap.size cells).mono (fun k (hk : k < w1.heap.size) => by show k ≠ w1.heap.size; omega))
  have hsz : w1.heap.size < ((w1.alloc (.cells old t)).setRow w1.heap.size cells).heap.size := by
    have k1 := (fr_setRow (w1.alloc (.cells old t)) w1.heap.size cells).size
    have k2 : (w1.alloc (.cells old t)).heap.size = w1.heap.size + 1 := by simp
    omega
  exact h _ (heap_setRow hg cells) f.below hsz
theorem nw_mono {w w' : World} {cs : List Value} {x : XEvent} (h : EventC w' (Nw w w') cs x) : EventC w' (· < w'.heap.size) cs x := h.mono (fun k hk => hk.2)
theorem zEventC (w : World) (Q : Nat → Prop) : EventC w Q (evCells 0 zEntry zRate zHolding zMatch zStock 0 0 ⟨#[]⟩) {} := evC bd0 (zEntryC _ _) (zRateC _ _) (zHoldingC _ _) (zMatchC _ _) (zStockC _ _) bd0 bd0
set_option maxHeartbeats 4000000 in
set_option maxRecDepth 100000 in
theorem trip_big (x y : XEvent) (cx cy : List Value) (A : Option Addr) (cb : Nat) (L : List UInt8) (w : World) (hx : EventC w (· < w.heap.size) cx x) (hy : EventC w (· < w.heap.size) cy y) (hb : Rd w (· < w.heap.size) A L.length 1 (bv L)) (hfx : fewB x = false) :
    Calls Try.prog 7 #[.agg cx.toArray, .agg cy.toArray, .slice A L.length cb] w fun e w' => e = .returned (.bool true) ∧ Below w.heap.size w w' := by
  have HFX := Lib.hid hfx
  clear hfx
  have HX := Lib.hid hx
  have HY := Lib.hid hy
  have HL := Lib.hid hb
  have HCX := Lib.hid (size45 hx.len)
  have HCY := Lib.hid (size45 hy.len)
  clear hx hy hb
  go_enter Try.func7, Try.ntmps7
  go_upto_region 1 with fail
  have h2 := heap2 w (.cells cx.toArray 45) (.cells cy.toArray 45)
  generalize hW : (w.alloc (Obj.cells cx.toArray 45)).alloc (Obj.cells cy.toArray 45) = V at *
  obtain ⟨H0, H1, HS, HF⟩ := h2
  have hbV : Below w.heap.size w V := HF.below
  have hVs : w.heap.size + 1 < V.heap.size := by omega
  clear hW HF HS
  have HH0 := Lib.hid H0
  have HH1 := Lib.hid H1
  have VX := Lib.hid (HX.out.keep hbV)
  have VY := Lib.hid (HY.out.keep hbV)
  have VL := Lib.hid (HL.out.keep hbV)
  clear H0 H1
  go_wp2_with fail
  refine (awake_c V).mono ?_
  rintro e V1 ⟨rfl, hb1⟩
  have G0 := Lib.hid ((hb1.block w.heap.size (by omega)).trans HH0.out)
  have G1 := Lib.hid ((hb1.block (w.heap.size + 1) (by omega)).trans HH1.out)
  go_wp2_with (refine wpList_load_row rfl 45 (.tmp 3) rfl (w.heap.size) rfl 45 cx.toArray (0, 0) _ G0.out Try.underlying45 rfl HCX.out ?_)
  refine (rFew_c x cx V1 (VX.out.keep hb1)).mono ?_
  rintro e V2 ⟨rfl, hb2⟩
  rw [HFX.out]
  go_wp2_with fail
  go_ret
  exact ⟨rfl, hbV.trans ((hb1.trans (hb2.mono hb1.size)).mono hbV.size)⟩
set_option maxHeartbeats 4000000 in
set_option maxRecDepth 100000 in
theorem trip_big2 (x y : XEvent) (cx cy : List Value) (A : Option Addr) (cb : Nat) (L : List UInt8) (w : World) (hx : EventC w (· < w.heap.size) cx x) (hy : EventC w (· < w.heap.size) cy y) (hb : Rd w (· < w.heap.size) A L.length 1 (bv L)) (hfx : fewB x = true) (hfy : fewB y = false) :
    Calls Try.prog 7 #[.agg cx.toArray, .agg cy.toArray, .slice A L.length cb] w fun e w' => e = .returned (.bool true) ∧ Below w.heap.size w w' := by
  have HFX := Lib.hid hfx
  have HFY := Lib.hid hfy
  clear hfx hfy
  have HX := Lib.hid hx
  have HY := Lib.hid hy
  have HL := Lib.hid hb
  have HCX := Lib.hid (size45 hx.len)
  have HCY := Lib.hid (size45 hy.len)
  clear hx hy hb
  go_enter Try.func7, Try.ntmps7
  go_upto_region 1 with fail
  have h2 := heap2 w (.cells cx.toArray 45) (.cells cy.toArray 45)
  generalize hW : (w.alloc (Obj.cells cx.toArray 45)).alloc (Obj.cells cy.toArray 45) = V at *
  obtain ⟨H0, H1, HS, HF⟩ := h2
  have hbV : Below w.heap.size w V := HF.below
  have hVs : w.heap.size + 1 < V.heap.size := by omega
  clear hW HF HS
  have HH0 := Lib.hid H0
  have HH1 := Lib.hid H1
  have VX := Lib.hid (HX.out.keep hbV)
  have VY := Lib.hid (HY.out.keep hbV)
  have VL := Lib.hid (HL.out.keep hbV)
  clear H0 H1
  go_wp2_with fail
  refine (awake_c V).mono ?_
  rintro e V1 ⟨rfl, hb1⟩
  have G0 := Lib.hid ((hb1.block w.heap.size (by omega)).trans HH0.out)
  have G1 := Lib.hid ((hb1.block (w.heap.size + 1) (by omega)).trans HH1.out)
  go_wp2_with (refine wpList_load_row rfl 45 (.tmp 3) rfl (w.heap.size) rfl 45 cx.toArray (0, 0) _ G0.out Try.underlying45 rfl HCX.out ?_)
  refine (rFew_c x cx V1 (VX.out.keep hb1)).mono ?_
  rintro e V2 ⟨rfl, hb2⟩
  rw [HFX.out]
  have G3 := Lib.hid ((hb2.block (w.heap.size + 1) (by have := hb1.size; omega)).trans G1.out)
  go_wp2_with (refine wpList_load_row_g rfl 45 (.tmp 4) rfl (w.heap.size + 1) rfl 45 cy.toArray (0, 0) _ G3.out Try.underlying45 rfl HCY.out ?_)
  refine (rFew_c y cy V2 ((VY.out.keep hb1).keep hb2)).mono ?_
  rintro e V3 ⟨rfl, hb3⟩
  rw [HFY.out]
  go_wp2_with fail
  go_ret
  exact ⟨rfl, hbV.trans ((hb1.trans ((hb2.trans (hb3.mono hb2.size)).mono hb1.size)).mono hbV.size)⟩
set_option maxHeartbeats 4000000 in
set_option maxRecDepth 100000 in
theorem trip_long (x y : XEvent) (cx cy : List Value) (A : Option Addr) (cb : Nat) (L : List UInt8) (w : World) (hx : EventC w (· < w.heap.size) cx x) (hy : EventC w (· < w.heap.size) cy y) (hb : Rd w (· < w.heap.size) A L.length 1 (bv L)) (hfx : fewB x = true) (hfy : fewB y = true) (hl : 70000 < L.length) :
    Calls Try.prog 7 #[.agg cx.toArray, .agg cy.toArray, .slice A L.length cb] w fun e w' => e = .returned (.bool true) ∧ Below w.heap.size w w' := by
  have HFX := Lib.hid hfx
  have HFY := Lib.hid hfy
  clear hfx hfy
  have HX := Lib.hid hx
  have HY := Lib.hid hy
  have HL := Lib.hid hb
  have HCX := Lib.hid (size45 hx.len)
  have HCY := Lib.hid (size45 hy.len)
  clear hx hy hb
  go_enter Try.func7, Try.ntmps7
  go_upto_region 1 with fail
  have h2 := heap2 w (.cells cx.toArray 45) (.cells cy.toArray 45)
  generalize hW : (w.alloc (Obj.cells cx.toArray 45)).alloc (Obj.cells cy.toArray 45) = V at *
  obtain ⟨H0, H1, HS, HF⟩ := h2
  have hbV : Below w.heap.size w V := HF.below
  have hVs : w.heap.size + 1 < V.heap.size := by omega
  clear hW HF HS
  have HH0 := Lib.hid H0
  have HH1 := Lib.hid H1
  have VX := Lib.hid (HX.out.keep hbV)
  have VY := Lib.hid (HY.out.keep hbV)
  have VL := Lib.hid (HL.out.keep hbV)
  clear H0 H1
  go_wp2_with fail
  refine (awake_c V).mono ?_
  rintro e V1 ⟨rfl, hb1⟩
  have G0 := Lib.hid ((hb1.block w.heap.size (by omega)).trans HH0.out)
  have G1 := Lib.hid ((hb1.block (w.heap.size + 1) (by omega)).trans HH1.out)
  go_wp2_with (refine wpList_load_row rfl 45 (.tmp 3) rfl (w.heap.size) rfl 45 cx.toArray (0, 0) _ G0.out Try.underlying45 rfl HCX.out ?_)
  refine (rFew_c x cx V1 (VX.out.keep hb1)).mono ?_
  rintro e V2 ⟨rfl, hb2⟩
  rw [HFX.out]
  have G3 := Lib.hid ((hb2.block (w.heap.size + 1) (by have := hb1.size; omega)).trans G1.out)
  go_wp2_with (refine wpList_load_row_g rfl 45 (.tmp 4) rfl (w.heap.size + 1) rfl 45 cy.toArray (0, 0) _ G3.out Try.underlying45 rfl HCY.out ?_)
  refine (rFew_c y cy V2 ((VY.out.keep hb1).keep hb2)).mono ?_
  rintro e V3 ⟨rfl, hb3⟩
  rw [HFY.out]
  have hd : decide ((70000 : Int) < (L.length : Int)) = true := decide_eq_true (by omega)
  go_wp2_with fail
  go_ret
  exact ⟨rfl, hbV.trans ((hb1.trans ((hb2.trans (hb3.mono hb2.size)).mono hb1.size)).mono hbV.size)⟩
set_option maxHeartbeats 4000000 in
set_option maxRecDepth 100000 in
theorem trip_both (x y : XEvent) (cx cy : List Value) (A : Option Addr) (cb : Nat) (L : List UInt8) (w : World) (hx : EventC w (· < w.heap.size) cx x) (hy : EventC w (· < w.heap.size) cy y) (hb : Rd w (· < w.heap.size) A L.length 1 (bv L)) (hfx0 : fewB x = true) (hfy0 : fewB y = true) (hcb : L.length ≤ cb) (hl : L.length ≤ 70000) (R1 R2 : List UInt8) (hr : eventR x = (R1, 0)) (ht : eventR y = (R2, 0)) :
    Calls Try.prog 7 #[.agg cx.toArray, .agg cy.toArray, .slice A L.length cb] w fun e w' => e = .returned (.bool true) ∧ Below w.heap.size w w' := by
  have HFX := Lib.hid hfx0
  have HFY := Lib.hid hfy0
  have HR := Lib.hid hr
  have HT := Lib.hid ht
  have hfx := fewB_few hfx0
  have hfy := fewB_few hfy0
  have hLx : (encAll x).length ≤ Lim := by have := hfx.lenAll; unfold Lim; omega
  have hLy : (encAll y).length ≤ Lim := by have := hfy.lenAll; unfold Lim; omega
  have hLx1 : (encAll x).length + 100 ≤ Lim := by have := hfx.lenAll; unfold Lim; omega
  have hLy1 : (encAll y).length + 100 ≤ Lim := by have := hfy.lenAll; unfold Lim; omega
  have hLe : (encEv x).length ≤ Lim := by have := hfx.lenEv; unfold Lim; omega
  have hLf : (encEv y).length ≤ Lim := by have := hfy.lenEv; unfold Lim; omega
  have okx := Lib.hid (hx.ok hfx)
  have oky := Lib.hid (hy.ok hfy)
  clear hfx0 hfy0 hr ht
  have HX := Lib.hid hx
  have HY := Lib.hid hy
  have HL := Lib.hid hb
  have HCX := Lib.hid (size45 hx.len)
  have HCY := Lib.hid (size45 hy.len)
  clear hx hy hb
  go_enter Try.func7, Try.ntmps7
  go_upto_region 1 with fail
  have h2 := heap2 w (.cells cx.toArray 45) (.cells cy.toArray 45)
  generalize hW : (w.alloc (Obj.cells cx.toArray 45)).alloc (Obj.cells cy.toArray 45) = V at *
  obtain ⟨H0, H1, HS, HF⟩ := h2
  have hbV : Below w.heap.size w V := HF.below
  have hVs : w.heap.size + 1 < V.heap.size := by omega
  clear hW HF HS
  have HH0 := Lib.hid H0
  have HH1 := Lib.hid H1
  have VX := Lib.hid (HX.out.keep hbV)
  have VY := Lib.hid (HY.out.keep hbV)
  have VL := Lib.hid (HL.out.keep hbV)
  clear H0 H1
  go_wp2_with fail
  refine (awake_c V).mono ?_
  rintro e V1 ⟨rfl, hb1⟩
  have G0 := Lib.hid ((hb1.block w.heap.size (by omega)).trans HH0.out)
  have G1 := Lib.hid ((hb1.block (w.heap.size + 1) (by omega)).trans HH1.out)
  go_wp2_with (refine wpList_load_row rfl 45 (.tmp 3) rfl (w.heap.size) rfl 45 cx.toArray (0, 0) _ G0.out Try.underlying45 rfl HCX.out ?_)
  refine (rFew_c x cx V1 (VX.out.keep hb1)).mono ?_
  rintro e V2 ⟨rfl, hb2⟩
  rw [HFX.out]
  have G3 := Lib.hid ((hb2.block (w.heap.size + 1) (by have := hb1.size; omega)).trans G1.out)
  go_wp2_with (refine wpList_load_row_g rfl 45 (.tmp 4) rfl (w.heap.size + 1) rfl 45 cy.toArray (0, 0) _ G3.out Try.underlying45 rfl HCY.out ?_)
  refine (rFew_c y cy V2 ((VY.out.keep hb1).keep hb2)).mono ?_
  rintro e V3 ⟨rfl, hb3⟩
  rw [HFY.out]
  have hd : decide ((70000 : Int) < (L.length : Int)) = false := decide_eq_false (by omega)
  have G4 := Lib.hid ((hb3.block w.heap.size (by have := hb1.size; have := hb2.size; omega)).trans ((hb2.block w.heap.size (by have := hb1.size; omega)).trans G0.out))
  have G5 := Lib.hid ((hb3.block (w.heap.size + 1) (by have := hb1.size; have := hb2.size; omega)).trans G3.out)
  have hb13 := hb1.trans ((hb2.trans (hb3.mono hb2.size)).mono hb1.size)
  have X3 := Lib.hid (VX.out.keep hb13)
  clear hb1 hb2 hb3 G0 G1 G3
  go_wp2_with (refine wpList_load_row rfl 45 (.tmp 3) rfl (w.heap.size) rfl 45 cx.toArray (0, 0) _ G4.out Try.underlying45 rfl HCX.out ?_)
  refine (event_c x cx V3 X3.out hLx1 hLe).mono ?_
  rw [HR.out]
  rintro e V4 ⟨v4, rfl, hn4⟩
  obtain ⟨A1, c1, rfl, hc1, _⟩ := hn4.1.form
  have HC1 := Lib.hid hc1
  have N4 := Lib.hid hn4
  have G6 := Lib.hid ((hn4.2.2.block (w.heap.size + 1) (by have := hb13.size; omega)).trans G5.out)
  have hb4 := hb13.trans (hn4.2.2.mono hb13.size)
  have Y4 := Lib.hid (VY.out.keep hb4)
  clear hn4 G4 hb13 hc1
  go_wp2_with (refine wpList_load_row rfl 45 (.tmp 4) rfl (w.heap.size + 1) rfl 45 cy.toArray (0, 0) _ G6.out Try.underlying45 rfl HCY.out ?_)
  refine (event_c y cy V4 Y4.out hLy1 hLf).mono ?_
  rw [HT.out]
  rintro e W ⟨v5, rfl, hn5⟩
  obtain ⟨A2, c2, rfl, hc2, _⟩ := hn5.1.form
  have hb5 := hb4.trans (hn5.2.2.mono hb4.size)
  have EX := Lib.hid (VX.out.keep hb5)
  have EY := Lib.hid (VY.out.keep hb5)
  have EL := Lib.hid (VL.out.keep hb5)
  have RX := Lib.hid ((box_at HH0.out).keep hb5)
  have RY := Lib.hid ((box_at HH1.out).keep hb5)
  have GX := Lib.hid ((hb5.block w.heap.size (by omega)).trans HH0.out)
  have GY := Lib.hid ((hb5.block (w.heap.size + 1) (by omega)).trans HH1.out)
  have RD1 := Lib.hid (((N4.out.1.rd (Q := (· < V4.heap.size)) (fun k hk => N4.out.1.lt hk)).2).keep hn5.2.2)
  have RD2 := Lib.hid ((hn5.1.rd (Q := (· < W.heap.size)) (fun k hk => hn5.1.lt hk)).2)
  have hbW := hbV.trans (hb5.mono hbV.size)
  have hWs : w.heap.size + 1 < W.heap.size := by have := hb5.size; omega
  clear N4 G5 G6 hn5 hb4 hb5 X3 Y4 hc2 hd
  obtain ⟨-, hR1, hP1⟩ := eventR_ok okx.out HR.out
  have HP1 := Lib.hid hP1
  have INJ := Lib.hid (eventR_inj okx.out oky.out HR.out HT.out)
  clear hP1
  go_wp2_with fail
  refine (parseEvent_c A1 c1 R1 W RD1.out HC1.out (by omega)).mono ?_
  rw [HP1.out]
  rintro e W1 ⟨cz, z, n, rfl, hz, hbz, hcase⟩
  obtain ⟨hn, hzx⟩ : n = 0 ∧ z = x := by
    rcases hcase with ⟨q, hq, h1, h2⟩ | ⟨hq, _⟩
    · injection hq with hq; exact ⟨h1, h2.trans hq.symm⟩
    · cases hq
  subst hn
  rw [hzx] at hz
  have HZ := Lib.hid (nw_mono hz)
  have HCZ := Lib.hid (size45 hz.len)
  have HZS := Lib.hid (zsize hz)
  have HZO := Lib.hid hz.one
  clear hz hcase hzx
  go_upto_region 9 with (refine wpList_store_fresh rfl 45 (.tmp 11) (.tmp 47) rfl rfl W1 zCells 45 cz.toArray rfl rfl HCZ.out HZS.out HZO.out ?_; intro W2 S1 S2 S3; replace S1 := Lib.hid S1)
  have hbZ2 := hbz.trans (S2.mono hbz.size)
  have G7 := Lib.hid ((hbZ2.block w.heap.size (by omega)).trans GX.out)
  go_wp2_with (first | refine wpList_load_row_g rfl 45 (.tmp 3) rfl (w.heap.size) rfl 45 cx.toArray (0, 0) _ G7.out Try.underlying45 rfl HCX.out ?_ | refine wpList_load_row_g rfl 45 (.tmp 11) rfl (W1.heap.size) rfl 45 cz.toArray (0, 0) _ S1.out Try.underlying45 rfl HCZ.out ?_)
  refine (sameEvent_c x x cx cz W2 (EX.out.keep hbZ2) (HZ.out.keep S2) hLx hLx).mono ?_
  rintro e Z ⟨rfl, hb6⟩
  rw [decide_eq_true (rfl : encAll x = encAll x)]
  have hbZ := hbZ2.trans (hb6.mono hbZ2.size)
  clear hb6 hbZ2 S1 S2 S3 G7
  have EX1 := Lib.hid (EX.out.keep hbZ)
  have EY1 := Lib.hid (EY.out.keep hbZ)
  have EL1 := Lib.hid (EL.out.keep hbZ)
  have RX1 := Lib.hid (RX.out.keep hbZ)
  have RY1 := Lib.hid (RY.out.keep hbZ)
  have RE1 := Lib.hid (RD1.out.keep hbZ)
  have RE2 := Lib.hid (RD2.out.keep hbZ)
  have hbQ := hbW.trans (hbZ.mono hbW.size)
  clear RX RY GX GY EX EY EL RD1 RD2 hbZ hbW
  go_wp2_with fail
  refine wp_region_inv (Ks Z [.val (.int .i64 (0)), .val (.bool true), .val (.bool true), .val (.int .i64 (0)), .val (.bool true), .val (.bool true), .val (.bool true), .val (.slice A1 R1.length c1), .val (.string (bstr R1)), .val (.slice A2 R2.length c2), .val (.string (bstr R2)), .val (.bool (decide (encAll x = encAll y))), .val (.agg cx.toArray), .val (.agg cy.toArray), .val (.bool (decide (encAll x = encAll y))), .val (.bool false), .val (.bool false)])
    (fun w' => Below Z.heap.size Z w') (by kernel_rfl) (by kernel_rfl) (by kernel_rfl) (Below.refl _ _).drew ?_ ?_
  · refine ⟨?_, ?_, ?_, ?_, ?_, ?_, ?_, ?_, ?_, ?_, ?_, ?_, ?_, ?_, ?_, ?_, ?_, trivial⟩
    · intro listed A0 w2 hI hd hnd K hK
      have e0 := hI.slot hnd 8 _ rfl (by kernel_rfl)
      have hS := hI.world
      refine wanted_go rfl ?_
      clear hI hd hnd
      go_simp
      exact hK.out _ _ hS (Ks.of rfl rfl) (fun _ _ h => h)
    · intro listed A0 w2 hI hd hnd K hK
      have e0 := hI.depv hd 0 57 _ rfl rfl rfl (by kernel_rfl)
      have hS := hI.world
      refine wanted_go rfl ?_
      clear hI hd hnd
      go_simp
      exact hK.out _ _ hS (Ks.of rfl rfl) (fun _ _ h => h)
    · intro listed A0 w2 hI hd hnd K hK
      have e0 := hI.depv hd 1 58 _ rfl rfl rfl (by kernel_rfl)
      have hS := hI.world
      refine wanted_go rfl ?_
      clear hI hd hnd
      go_simp
      exact hK.out _ _ hS (Ks.of rfl rfl) (fun _ _ h => h)
    · intro listed A0 w2 hI hd hnd K hK
      have e0 := hI.slot hnd 10 _ rfl (by kernel_rfl)
      have hS := hI.world
      refine wanted_yes rfl (hI.yield hd 2 59 true rfl rfl rfl (by kernel_rfl)) ?_
      clear hI hd hnd
      go_simp
      exact hK.out _ _ hS (Ks.of rfl rfl) (fun _ _ h => h)
    · intro listed A0 w2 hI hd hnd K hK
      have e0 := hI.depv hd 3 60 _ rfl rfl rfl (by kernel_rfl)
      have hS := hI.world
      refine wanted_yes rfl (hI.yield hd 2 59 true rfl rfl rfl (by kernel_rfl)) ?_
      clear hI hd hnd
      go_simp
      exact hK.out _ _ hS (Ks.of rfl rfl) (fun _ _ h => h)
    · intro listed A0 w2 hI hd hnd K hK
      have e0 := hI.depv hd 2 59 _ rfl rfl rfl (by kernel_rfl)
      have e1 := hI.depv hd 4 61 _ rfl rfl rfl (by kernel_rfl)
      have hS := hI.world
      refine wanted_go rfl ?_
      clear hI hd hnd
      go_simp
      exact hK.out _ _ hS (Ks.of rfl rfl) (fun _ _ h => h)
    · intro listed A0 w2 hI hd hnd K hK
      have e0 := hI.depv hd 5 62 _ rfl rfl rfl (by kernel_rfl)
      have hS := hI.world
      refine wanted_go rfl ?_
      clear hI hd hnd
      go_simp
      exact hK.out _ _ hS (Ks.of rfl rfl) (fun _ _ h => h)
    · intro listed A0 w2 hI hd hnd K hK
      have e0 := hI.slot hnd 7 _ rfl (by kernel_rfl)
      have hS := hI.world
      refine wanted_yes rfl (hI.yield hd 6 63 true rfl rfl rfl (by kernel_rfl)) ?_
      clear hI hd hnd
      go_simp
      exact hK.out _ _ hS (Ks.of rfl rfl) (fun _ _ h => h)
    · intro listed A0 w2 hI hd hnd K hK
      have e0 := hI.depv hd 7 64 _ rfl rfl rfl (by kernel_rfl)
      have hS := hI.world
      have hcv : (convert 22 9 (.slice A1 R1.length c1)).run Try.prog w2 = .ok (.string (bstr R1)) w2 := run_str (RE1.out.keep hS)
      refine wanted_yes rfl (hI.yield hd 6 63 true rfl rfl rfl (by kernel_rfl)) ?_
      clear hI hd hnd
      go_simp
      exact hK.out _ _ hS (Ks.of rfl rfl) (fun _ _ h => h)
    · intro listed A0 w2 hI hd hnd K hK
      have e0 := hI.slot hnd 9 _ rfl (by kernel_rfl)
      have hS := hI.world
      refine wanted_yes rfl (hI.yield hd 6 63 true rfl rfl rfl (by kernel_rfl)) ?_
      clear hI hd hnd
      go_simp
      exact hK.out _ _ hS (Ks.of rfl rfl) (fun _ _ h => h)
    · intro listed A0 w2 hI hd hnd K hK
      have e0 := hI.depv hd 9 66 _ rfl rfl rfl (by kernel_rfl)
      have hS := hI.world
      have hcv : (convert 22 9 (.slice A2 R2.length c2)).run Try.prog w2 = .ok (.string (bstr R2)) w2 := run_str (RE2.out.keep hS)
      refine wanted_yes rfl (hI.yield hd 6 63 true rfl rfl rfl (by kernel_rfl)) ?_
      clear hI hd hnd
      go_simp
      exact hK.out _ _ hS (Ks.of rfl rfl) (fun _ _ h => h)
    · intro listed A0 w2 hI hd hnd K hK
      have e0 := hI.depv hd 8 65 _ rfl rfl rfl (by kernel_rfl)
      have e1 := hI.depv hd 10 67 _ rfl rfl rfl (by kernel_rfl)
      have hS := hI.world
      have hbe := INJ.out
      refine wanted_yes rfl (hI.yield hd 6 63 true rfl rfl rfl (by kernel_rfl)) ?_
      clear hI hd hnd
      go_simp
      exact hK.out _ _ hS (Ks.of rfl rfl) (fun _ _ h => h)
    · intro listed A0 w2 hI hd hnd K hK
      have e0 := hI.slot hnd 3 _ rfl (by kernel_rfl)
      have hS := hI.world
      have hrange := (RX1.out.fr (Fr.ofBelow hS)).range
      have hisize : (Try.prog.info? 45).map (·.size) = some cx.length := by rw [info45, (EX1.out).len]
      refine wanted_yes rfl (hI.yield hd 6 63 true rfl rfl rfl (by kernel_rfl)) ?_
      clear hI hd hnd
      refine wp_load_mid 45 (.tmp 3) rfl _ _ (by simpa [Act.eval, Array.getD_eq_getD_getElem?] using e0) _ _ hrange Try.underlying45 rfl hisize ?_
      exact hK.out _ _ hS (Ks.of rfl rfl) (fun _ _ h => h)
    · intro listed A0 w2 hI hd hnd K hK
      have e0 := hI.slot hnd 4 _ rfl (by kernel_rfl)
      have hS := hI.world
      have hrange := (RY1.out.fr (Fr.ofBelow hS)).range
      have hisize : (Try.prog.info? 45).map (·.size) = some cy.length := by rw [info45, (EY1.out).len]
      refine wanted_yes rfl (hI.yield hd 6 63 true rfl rfl rfl (by kernel_rfl)) ?_
      clear hI hd hnd
      refine wp_load_mid 45 (.tmp 4) rfl _ _ (by simpa [Act.eval, Array.getD_eq_getD_getElem?] using e0) _ _ hrange Try.underlying45 rfl hisize ?_
      exact hK.out _ _ hS (Ks.of rfl rfl) (fun _ _ h => h)
    · intro listed A0 w2 hI hd hnd K hK
      have e0 := hI.depv hd 12 69 _ rfl rfl rfl (by kernel_rfl)
      have e1 := hI.depv hd 13 70 _ rfl rfl rfl (by kernel_rfl)
      have hS := hI.world
      refine wanted_yes rfl (hI.yield hd 6 63 true rfl rfl rfl (by kernel_rfl)) ?_
      clear hI hd hnd
      go_simp
      go_at_call 21
      refine (sameEvent_c x y cx cy w2 (EX1.out.keep hS) (EY1.out.keep hS) hLx hLy).mono ?_
      rintro e w3 ⟨rfl, h3⟩
      exact hK.out _ _ (hS.trans (h3.mono hS.size)) (Ks.of rfl rfl) (Ks.keep h3)
    · intro listed A0 w2 hI hd hnd K hK
      have e0 := hI.depv hd 11 68 _ rfl rfl rfl (by kernel_rfl)
      have e1 := hI.depv hd 14 71 _ rfl rfl rfl (by kernel_rfl)
      have hS := hI.world
      refine wanted_yes rfl (hI.yield hd 6 63 true rfl rfl rfl (by kernel_rfl)) ?_
      clear hI hd hnd
      go_simp
      exact hK.out _ _ hS (Ks.of rfl rfl) (fun _ _ h => h)
    · intro listed A0 w2 hI hd hnd K hK
      have e0 := hI.depv hd 6 63 _ rfl rfl rfl (by kernel_rfl)
      have e1 := hI.depv hd 15 72 _ rfl rfl rfl (by kernel_rfl)
      have hS := hI.world
      refine wanted_go rfl ?_
      clear hI hd hnd
      go_simp
      exact hK.out _ _ hS (Ks.of rfl rfl) (fun _ _ h => h)
  · intro listed A0 w2 hI hall
    obtain ⟨x0, g0, h0⟩ := hI.got 0 _ 57 rfl rfl (hall 0 (by decide))
    obtain ⟨x1, g1, h1⟩ := hI.got 1 _ 58 rfl rfl (hall 1 (by decide))
    obtain ⟨x2, g2, h2⟩ := hI.got 2 _ 59 rfl rfl (hall 2 (by decide))
    obtain ⟨x3, g3, h3⟩ := hI.got 3 _ 60 rfl rfl (hall 3 (by decide))
    obtain ⟨x4, g4, h4⟩ := hI.got 4 _ 61 rfl rfl (hall 4 (by decide))
    obtain ⟨x5, g5, h5⟩ := hI.got 5 _ 62 rfl rfl (hall 5 (by decide))
    obtain ⟨x6, g6, h6⟩ := hI.got 6 _ 63 rfl rfl (hall 6 (by decide))
    obtain ⟨x7, g7, h7⟩ := hI.got 7 _ 64 rfl rfl (hall 7 (by decide))
    obtain ⟨x8, g8, h8⟩ := hI.got 8 _ 65 rfl rfl (hall 8 (by decide))
    obtain ⟨x9, g9, h9⟩ := hI.got 9 _ 66 rfl rfl (hall 9 (by decide))
    obtain ⟨x10, g10, h10⟩ := hI.got 10 _ 67 rfl rfl (hall 10 (by decide))
    obtain ⟨x11, g11, h11⟩ := hI.got 11 _ 68 rfl rfl (hall 11 (by decide))
    obtain ⟨x12, g12, h12⟩ := hI.got 12 _ 69 rfl rfl (hall 12 (by decide))
    obtain ⟨x13, g13, h13⟩ := hI.got 13 _ 70 rfl rfl (hall 13 (by decide))
    obtain ⟨x14, g14, h14⟩ := hI.got 14 _ 71 rfl rfl (hall 14 (by decide))
    obtain ⟨x15, g15, h15⟩ := hI.got 15 _ 72 rfl rfl (hall 15 (by decide))
    obtain ⟨x16, g16, h16⟩ := hI.got 16 _ 73 rfl rfl (hall 16 (by decide))
    have hS := hI.world
    have hA : A0 = _ := hI.tmps [(57, x0), (58, x1), (59, x2), (60, x3), (61, x4), (62, x5), (63, x6), (64, x7), (65, x8), (66, x9), (67, x10), (68, x11), (69, x12), (70, x13), (71, x14), (72, x15), (73, x16)] (by simp only [List.mem_cons, List.not_mem_nil, or_false, forall_eq_or_imp, forall_eq]; exact ⟨g0, g1, g2, g3, g4, g5, g6, g7, g8, g9, g10, g11, g12, g13, g14, g15, g16⟩) (by kernel_rfl)
    obtain rfl : x16 = .bool false := h16 _ rfl
    clear h0 g0 h1 g1 h2 g2 h3 g3 h4 g4 h5 g5 h6 g6 h7 g7 h8 g8 h9 g9 h10 g10 h11 g11 h12 g12 h13 g13 h14 g14 h15 g15 h16 g16 hI hall
    simp only [setAll, List.foldl, List.setIfInBounds_toArray, List.set_cons_zero, List.set_cons_succ] at hA
    rw [hA]
    clear hA
    have EL2 := Lib.hid (EL1.out.keep hS)
    have hbY := hbQ.trans (hS.mono hbQ.size)
    clear EX1 EY1 RX1 RY1 RE1 RE2 EL1 hbQ hS
    go_wp2_with fail
    refine (parseEvent_c A cb L w2 EL2.out hcb (by omega)).mono ?_
    rintro e W5 ⟨cq, q, nq, rfl, hq, hb5, hcase⟩
    have HQ := Lib.hid (nw_mono hq)
    have HCQ := Lib.hid (size45 hq.len)
    have HQS := Lib.hid (zsize hq)
    have HQO := Lib.hid hq.one
    clear hq
    rcases hcase with ⟨q', hp, rfl, rfl⟩ | ⟨hp, rfl, rfl⟩
    · have HP := Lib.hid (eventR_of hp)
      clear hp
      go_upto_region 14 with (refine wpList_store_fresh rfl 45 (.tmp 13) (.tmp 77) rfl rfl W5 zCells 45 cq.toArray rfl rfl HCQ.out HQS.out HQO.out ?_; intro W6 S1 S2 S3; replace S1 := Lib.hid S1)
      have hb6 := hb5.trans (S2.mono hb5.size)
      have Q6 := Lib.hid (HQ.out.keep S2)
      go_wp2_with (refine wpList_load_row rfl 45 (.tmp 13) rfl (W5.heap.size) rfl 45 cq.toArray (0, 0) _ S1.out Try.underlying45 rfl HCQ.out ?_)
      refine (event_c q cq W6 Q6.out (by have := HP.out.2.1; unfold Lim; omega) (by have := HP.out.2.2; unfold Lim; omega)).mono ?_
      rw [HP.out.1]
      rintro e W7 ⟨v7, rfl, hn7⟩
      obtain ⟨A7, c7, rfl, hc7, _⟩ := hn7.1.form
      have hcv1 : (convert 22 9 (.slice A7 L.length c7)).run Try.prog W7 = .ok (.string (bstr L)) W7 := run_str (hn7.1.rd (Q := (· < W7.heap.size)) (fun k hk => hn7.1.lt hk)).2
      have hb7 := hb6.trans (hn7.2.2.mono hb6.size)
      have hcv2 : (convert 22 9 (.slice A L.length cb)).run Try.prog W7 = .ok (.string (bstr L)) W7 := run_str (EL2.out.keep hb7)
      have hbe := bstr_beq L L
      rw [decide_eq_true (rfl : L = L)] at hbe
      clear hn7 hb6 S1 S2 S3
      go_wp2_with fail
      go_ret
      exact ⟨rfl, hbY.trans (hb7.mono hbY.size)⟩
    · clear hp
      go_upto_region 14 with (refine wpList_store_fresh rfl 45 (.tmp 13) (.tmp 77) rfl rfl W5 zCells 45 cq.toArray rfl rfl HCQ.out HQS.out HQO.out ?_; intro W6 S1 S2 S3; replace S1 := Lib.hid S1)
      have hb6 := hb5.trans (S2.mono hb5.size)
      have Q6 := Lib.hid (HQ.out.keep S2)
      go_wp2_with (refine wpList_load_row rfl 45 (.tmp 13) rfl (W5.heap.size) rfl 45 cq.toArray (0, 0) _ S1.out Try.underlying45 rfl HCQ.out ?_)
      refine (rSame_c {} {} cq (evCells 0 zEntry zRate zHolding zMatch zStock 0 0 ⟨#[]⟩) W6 Q6.out (zEventC _ _) fewZ fewZ).mono ?_
      rintro e W7 ⟨rfl, hb7⟩
      rw [decide_eq_true (rfl : encEvent {} = encEvent {})]
      go_wp2_with fail
      go_ret
      exact ⟨rfl, hbY.trans ((hb6.trans (hb7.mono hb6.size)).mono hbY.size)⟩
set_option maxHeartbeats 4000000 in
set_option maxRecDepth 100000 in
theorem trip_first (x y : XEvent) (cx cy : List Value) (A : Option Addr) (cb : Nat) (L : List UInt8) (w : World) (hx : EventC w (· < w.heap.size) cx x) (hy : EventC w (· < w.heap.size) cy y) (hb : Rd w (· < w.heap.size) A L.length 1 (bv L)) (hfx0 : fewB x = true) (hfy0 : fewB y = true) (hcb : L.length ≤ cb) (hl : L.length ≤ 70000) (R1 R2 : List UInt8) (n2 : Int) (hn2 : n2 ≠ 0) (hr : eventR x = (R1, 0)) (ht : eventR y = (R2, n2)) :
    Calls Try.prog 7 #[.agg cx.toArray, .agg cy.toArray, .slice A L.length cb] w fun e w' => e = .returned (.bool true) ∧ Below w.heap.size w w' := by
  have HFX := Lib.hid hfx0
  have HFY := Lib.hid hfy0
  have HR := Lib.hid hr
  have HT := Lib.hid ht
  have hfx := fewB_few hfx0
  have hfy := fewB_few hfy0
  have hLx : (encAll x).length ≤ Lim := by have := hfx.lenAll; unfold Lim; omega
  have hLy : (encAll y).length ≤ Lim := by have := hfy.lenAll; unfold Lim; omega
  have hLx1 : (encAll x).length + 100 ≤ Lim := by have := hfx.lenAll; unfold Lim; omega
  have hLy1 : (encAll y).length + 100 ≤ Lim := by have := hfy.lenAll; unfold Lim; omega
  have hLe : (encEv x).length ≤ Lim := by have := hfx.lenEv; unfold Lim; omega
  have hLf : (encEv y).length ≤ Lim := by have := hfy.lenEv; unfold Lim; omega
  have okx := Lib.hid (hx.ok hfx)
  have oky := Lib.hid (hy.ok hfy)
  clear hfx0 hfy0 hr ht
  have HX := Lib.hid hx
  have HY := Lib.hid hy
  have HL := Lib.hid hb
  have HCX := Lib.hid (size45 hx.len)
  have HCY := Lib.hid (size45 hy.len)
  clear hx hy hb
  go_enter Try.func7, Try.ntmps7
  go_upto_region 1 with fail
  have h2 := heap2 w (.cells cx.toArray 45) (.cells cy.toArray 45)
  generalize hW : (w.alloc (Obj.cells cx.toArray 45)).alloc (Obj.cells cy.toArray 45) = V at *
  obtain ⟨H0, H1, HS, HF⟩ := h2
  have hbV : Below w.heap.size w V := HF.below
  have hVs : w.heap.size + 1 < V.heap.size := by omega
  clear hW HF HS
  have HH0 := Lib.hid H0
  have HH1 := Lib.hid H1
  have VX := Lib.hid (HX.out.keep hbV)
  have VY := Lib.hid (HY.out.keep hbV)
  have VL := Lib.hid (HL.out.keep hbV)
  clear H0 H1
  go_wp2_with fail
  refine (awake_c V).mono ?_
  rintro e V1 ⟨rfl, hb1⟩
  have G0 := Lib.hid ((hb1.block w.heap.size (by omega)).trans HH0.out)
  have G1 := Lib.hid ((hb1.block (w.heap.size + 1) (by omega)).trans HH1.out)
  go_wp2_with (refine wpList_load_row rfl 45 (.tmp 3) rfl (w.heap.size) rfl 45 cx.toArray (0, 0) _ G0.out Try.underlying45 rfl HCX.out ?_)
  refine (rFew_c x cx V1 (VX.out.keep hb1)).mono ?_
  rintro e V2 ⟨rfl, hb2⟩
  rw [HFX.out]
  have G3 := Lib.hid ((hb2.block (w.heap.size + 1) (by have := hb1.size; omega)).trans G1.out)
  go_wp2_with (refine wpList_load_row_g rfl 45 (.tmp 4) rfl (w.heap.size + 1) rfl 45 cy.toArray (0, 0) _ G3.out Try.underlying45 rfl HCY.out ?_)
  refine (rFew_c y cy V2 ((VY.out.keep hb1).keep hb2)).mono ?_
  rintro e V3 ⟨rfl, hb3⟩
  rw [HFY.out]
  have hd : decide ((70000 : Int) < (L.length : Int)) = false := decide_eq_false (by omega)
  have G4 := Lib.hid ((hb3.block w.heap.size (by have := hb1.size; have := hb2.size; omega)).trans ((hb2.block w.heap.size (by have := hb1.size; omega)).trans G0.out))
  have G5 := Lib.hid ((hb3.block (w.heap.size + 1) (by have := hb1.size; have := hb2.size; omega)).trans G3.out)
  have hb13 := hb1.trans ((hb2.trans (hb3.mono hb2.size)).mono hb1.size)
  have X3 := Lib.hid (VX.out.keep hb13)
  clear hb1 hb2 hb3 G0 G1 G3
  go_wp2_with (refine wpList_load_row rfl 45 (.tmp 3) rfl (w.heap.size) rfl 45 cx.toArray (0, 0) _ G4.out Try.underlying45 rfl HCX.out ?_)
  refine (event_c x cx V3 X3.out hLx1 hLe).mono ?_
  rw [HR.out]
  rintro e V4 ⟨v4, rfl, hn4⟩
  obtain ⟨A1, c1, rfl, hc1, _⟩ := hn4.1.form
  have HC1 := Lib.hid hc1
  have N4 := Lib.hid hn4
  have G6 := Lib.hid ((hn4.2.2.block (w.heap.size + 1) (by have := hb13.size; omega)).trans G5.out)
  have hb4 := hb13.trans (hn4.2.2.mono hb13.size)
  have Y4 := Lib.hid (VY.out.keep hb4)
  clear hn4 G4 hb13 hc1
  go_wp2_with (refine wpList_load_row rfl 45 (.tmp 4) rfl (w.heap.size + 1) rfl 45 cy.toArray (0, 0) _ G6.out Try.underlying45 rfl HCY.out ?_)
  refine (event_c y cy V4 Y4.out hLy1 hLf).mono ?_
  rw [HT.out]
  rintro e W ⟨v5, rfl, hn5⟩
  obtain ⟨A2, c2, rfl, hc2, _⟩ := hn5.1.form
  have hb5 := hb4.trans (hn5.2.2.mono hb4.size)
  have EX := Lib.hid (VX.out.keep hb5)
  have EY := Lib.hid (VY.out.keep hb5)
  have EL := Lib.hid (VL.out.keep hb5)
  have RX := Lib.hid ((box_at HH0.out).keep hb5)
  have RY := Lib.hid ((box_at HH1.out).keep hb5)
  have GX := Lib.hid ((hb5.block w.heap.size (by omega)).trans HH0.out)
  have GY := Lib.hid ((hb5.block (w.heap.size + 1) (by omega)).trans HH1.out)
  have RD1 := Lib.hid (((N4.out.1.rd (Q := (· < V4.heap.size)) (fun k hk => N4.out.1.lt hk)).2).keep hn5.2.2)
  have RD2 := Lib.hid ((hn5.1.rd (Q := (· < W.heap.size)) (fun k hk => hn5.1.lt hk)).2)
  have hbW := hbV.trans (hb5.mono hbV.size)
  have hWs : w.heap.size + 1 < W.heap.size := by have := hb5.size; omega
  clear N4 G5 G6 hn5 hb4 hb5 X3 Y4 hc2 hd
  obtain ⟨-, hR1, hP1⟩ := eventR_ok okx.out HR.out
  have HP1 := Lib.hid hP1
  have hne2 := Lib.hid (show (n2 == 0) = false by simpa using hn2)
  clear hP1 hn2
  go_wp2_with fail
  refine (parseEvent_c A1 c1 R1 W RD1.out HC1.out (by omega)).mono ?_
  rw [HP1.out]
  rintro e W1 ⟨cz, z, n, rfl, hz, hbz, hcase⟩
  obtain ⟨hn, hzx⟩ : n = 0 ∧ z = x := by
    rcases hcase with ⟨q, hq, h1, h2⟩ | ⟨hq, _⟩
    · injection hq with hq; exact ⟨h1, h2.trans hq.symm⟩
    · cases hq
  subst hn
  rw [hzx] at hz
  have HZ := Lib.hid (nw_mono hz)
  have HCZ := Lib.hid (size45 hz.len)
  have HZS := Lib.hid (zsize hz)
  have HZO := Lib.hid hz.one
  clear hz hcase hzx
  go_upto_region 9 with (refine wpList_store_fresh rfl 45 (.tmp 11) (.tmp 47) rfl rfl W1 zCells 45 cz.toArray rfl rfl HCZ.out HZS.out HZO.out ?_; intro W2 S1 S2 S3; replace S1 := Lib.hid S1)
  have hbZ2 := hbz.trans (S2.mono hbz.size)
  have G7 := Lib.hid ((hbZ2.block w.heap.size (by omega)).trans GX.out)
  go_wp2_with (first | refine wpList_load_row_g rfl 45 (.tmp 3) rfl (w.heap.size) rfl 45 cx.toArray (0, 0) _ G7.out Try.underlying45 rfl HCX.out ?_ | refine wpList_load_row_g rfl 45 (.tmp 11) rfl (W1.heap.size) rfl 45 cz.toArray (0, 0) _ S1.out Try.underlying45 rfl HCZ.out ?_)
  refine (sameEvent_c x x cx cz W2 (EX.out.keep hbZ2) (HZ.out.keep S2) hLx hLx).mono ?_
  rintro e Z ⟨rfl, hb6⟩
  rw [decide_eq_true (rfl : encAll x = encAll x)]
  have hbZ := hbZ2.trans (hb6.mono hbZ2.size)
  clear hb6 hbZ2 S1 S2 S3 G7
  have EX1 := Lib.hid (EX.out.keep hbZ)
  have EY1 := Lib.hid (EY.out.keep hbZ)
  have EL1 := Lib.hid (EL.out.keep hbZ)
  have RX1 := Lib.hid (RX.out.keep hbZ)
  have RY1 := Lib.hid (RY.out.keep hbZ)
  have RE1 := Lib.hid (RD1.out.keep hbZ)
  have RE2 := Lib.hid (RD2.out.keep hbZ)
  have hbQ := hbW.trans (hbZ.mono hbW.size)
  clear RX RY GX GY EX EY EL RD1 RD2 hbZ hbW
  go_wp2_with fail
  refine wp_region_inv (Ks Z [.val (.int .i64 (0)), .val (.bool true), .val (.bool true), .val (.int .i64 (n2)), .val (.bool false), .val (.bool false), .val (.bool false), .val (undef), .val (undef), .val (undef), .val (undef), .val (undef), .val (undef), .val (undef), .val (undef), .val (undef), .val (.bool false)])
    (fun w' => Below Z.heap.size Z w') (by kernel_rfl) (by kernel_rfl) (by kernel_rfl) (Below.refl _ _).drew ?_ ?_
  · refine ⟨?_, ?_, ?_, ?_, ?_, ?_, ?_, ?_, ?_, ?_, ?_, ?_, ?_, ?_, ?_, ?_, ?_, trivial⟩
    · intro listed A0 w2 hI hd hnd K hK
      have e0 := hI.slot hnd 8 _ rfl (by kernel_rfl)
      have hS := hI.world
      refine wanted_go rfl ?_
      clear hI hd hnd
      go_simp
      exact hK.out _ _ hS (Ks.of rfl rfl) (fun _ _ h => h)
    · intro listed A0 w2 hI hd hnd K hK
      have e0 := hI.depv hd 0 57 _ rfl rfl rfl (by kernel_rfl)
      have hS := hI.world
      refine wanted_go rfl ?_
      clear hI hd hnd
      go_simp
      exact hK.out _ _ hS (Ks.of rfl rfl) (fun _ _ h => h)
    · intro listed A0 w2 hI hd hnd K hK
      have e0 := hI.depv hd 1 58 _ rfl rfl rfl (by kernel_rfl)
      have hS := hI.world
      refine wanted_go rfl ?_
      clear hI hd hnd
      go_simp
      exact hK.out _ _ hS (Ks.of rfl rfl) (fun _ _ h => h)
    · intro listed A0 w2 hI hd hnd K hK
      have e0 := hI.slot hnd 10 _ rfl (by kernel_rfl)
      have hS := hI.world
      refine wanted_yes rfl (hI.yield hd 2 59 true rfl rfl rfl (by kernel_rfl)) ?_
      clear hI hd hnd
      go_simp
      exact hK.out _ _ hS (Ks.of rfl rfl) (fun _ _ h => h)
    · intro listed A0 w2 hI hd hnd K hK
      have e0 := hI.depv hd 3 60 _ rfl rfl rfl (by kernel_rfl)
      have hS := hI.world
      have hne : (n2 == 0) = false := hne2.out
      refine wanted_yes rfl (hI.yield hd 2 59 true rfl rfl rfl (by kernel_rfl)) ?_
      clear hI hd hnd
      go_simp
      exact hK.out _ _ hS (Ks.of rfl rfl) (fun _ _ h => h)
    · intro listed A0 w2 hI hd hnd K hK
      have e0 := hI.depv hd 2 59 _ rfl rfl rfl (by kernel_rfl)
      have e1 := hI.depv hd 4 61 _ rfl rfl rfl (by kernel_rfl)
      have hS := hI.world
      refine wanted_go rfl ?_
      clear hI hd hnd
      go_simp
      exact hK.out _ _ hS (Ks.of rfl rfl) (fun _ _ h => h)
    · intro listed A0 w2 hI hd hnd K hK
      have e0 := hI.depv hd 5 62 _ rfl rfl rfl (by kernel_rfl)
      have hS := hI.world
      refine wanted_go rfl ?_
      clear hI hd hnd
      go_simp
      exact hK.out _ _ hS (Ks.of rfl rfl) (fun _ _ h => h)
    · intro listed A0 w2 hI hd hnd K hK
      have hS := hI.world
      refine wanted_no rfl (hI.yield hd 6 63 false rfl rfl rfl (by kernel_rfl)) rfl ?_
      exact hK.out _ _ hS (Ks.of rfl rfl) (fun _ _ h => h)
    · intro listed A0 w2 hI hd hnd K hK
      have hS := hI.world
      refine wanted_no rfl (hI.yield hd 6 63 false rfl rfl rfl (by kernel_rfl)) rfl ?_
      exact hK.out _ _ hS (Ks.of rfl rfl) (fun _ _ h => h)
    · intro listed A0 w2 hI hd hnd K hK
      have hS := hI.world
      refine wanted_no rfl (hI.yield hd 6 63 false rfl rfl rfl (by kernel_rfl)) rfl ?_
      exact hK.out _ _ hS (Ks.of rfl rfl) (fun _ _ h => h)
    · intro listed A0 w2 hI hd hnd K hK
      have hS := hI.world
      refine wanted_no rfl (hI.yield hd 6 63 false rfl rfl rfl (by kernel_rfl)) rfl ?_
      exact hK.out _ _ hS (Ks.of rfl rfl) (fun _ _ h => h)
    · intro listed A0 w2 hI hd hnd K hK
      have hS := hI.world
      refine wanted_no rfl (hI.yield hd 6 63 false rfl rfl rfl (by kernel_rfl)) rfl ?_
      exact hK.out _ _ hS (Ks.of rfl rfl) (fun _ _ h => h)
    · intro listed A0 w2 hI hd hnd K hK
      have hS := hI.world
      refine wanted_no rfl (hI.yield hd 6 63 false rfl rfl rfl (by kernel_rfl)) rfl ?_
      exact hK.out _ _ hS (Ks.of rfl rfl) (fun _ _ h => h)
    · intro listed A0 w2 hI hd hnd K hK
      have hS := hI.world
      refine wanted_no rfl (hI.yield hd 6 63 false rfl rfl rfl (by kernel_rfl)) rfl ?_
      exact hK.out _ _ hS (Ks.of rfl rfl) (fun _ _ h => h)
    · intro listed A0 w2 hI hd hnd K hK
      have hS := hI.world
      refine wanted_no rfl (hI.yield hd 6 63 false rfl rfl rfl (by kernel_rfl)) rfl ?_
      exact hK.out _ _ hS (Ks.of rfl rfl) (fun _ _ h => h)
    · intro listed A0 w2 hI hd hnd K hK
      have hS := hI.world
      refine wanted_no rfl (hI.yield hd 6 63 false rfl rfl rfl (by kernel_rfl)) rfl ?_
      exact hK.out _ _ hS (Ks.of rfl rfl) (fun _ _ h => h)
    · intro listed A0 w2 hI hd hnd K hK
      have e0 := hI.depv hd 6 63 _ rfl rfl rfl (by kernel_rfl)
      have e1 := hI.depv hd 15 72 _ rfl rfl rfl (by kernel_rfl)
      have hS := hI.world
      refine wanted_go rfl ?_
      clear hI hd hnd
      go_simp
      exact hK.out _ _ hS (Ks.of rfl rfl) (fun _ _ h => h)
  · intro listed A0 w2 hI hall
    obtain ⟨x0, g0, h0⟩ := hI.got 0 _ 57 rfl rfl (hall 0 (by decide))
    obtain ⟨x1, g1, h1⟩ := hI.got 1 _ 58 rfl rfl (hall 1 (by decide))
    obtain ⟨x2, g2, h2⟩ := hI.got 2 _ 59 rfl rfl (hall 2 (by decide))
    obtain ⟨x3, g3, h3⟩ := hI.got 3 _ 60 rfl rfl (hall 3 (by decide))
    obtain ⟨x4, g4, h4⟩ := hI.got 4 _ 61 rfl rfl (hall 4 (by decide))
    obtain ⟨x5, g5, h5⟩ := hI.got 5 _ 62 rfl rfl (hall 5 (by decide))
    obtain ⟨x6, g6, h6⟩ := hI.got 6 _ 63 rfl rfl (hall 6 (by decide))
    obtain ⟨x7, g7, h7⟩ := hI.got 7 _ 64 rfl rfl (hall 7 (by decide))
    obtain ⟨x8, g8, h8⟩ := hI.got 8 _ 65 rfl rfl (hall 8 (by decide))
    obtain ⟨x9, g9, h9⟩ := hI.got 9 _ 66 rfl rfl (hall 9 (by decide))
    obtain ⟨x10, g10, h10⟩ := hI.got 10 _ 67 rfl rfl (hall 10 (by decide))
    obtain ⟨x11, g11, h11⟩ := hI.got 11 _ 68 rfl rfl (hall 11 (by decide))
    obtain ⟨x12, g12, h12⟩ := hI.got 12 _ 69 rfl rfl (hall 12 (by decide))
    obtain ⟨x13, g13, h13⟩ := hI.got 13 _ 70 rfl rfl (hall 13 (by decide))
    obtain ⟨x14, g14, h14⟩ := hI.got 14 _ 71 rfl rfl (hall 14 (by decide))
    obtain ⟨x15, g15, h15⟩ := hI.got 15 _ 72 rfl rfl (hall 15 (by decide))
    obtain ⟨x16, g16, h16⟩ := hI.got 16 _ 73 rfl rfl (hall 16 (by decide))
    have hS := hI.world
    have hA : A0 = _ := hI.tmps [(57, x0), (58, x1), (59, x2), (60, x3), (61, x4), (62, x5), (63, x6), (64, x7), (65, x8), (66, x9), (67, x10), (68, x11), (69, x12), (70, x13), (71, x14), (72, x15), (73, x16)] (by simp only [List.mem_cons, List.not_mem_nil, or_false, forall_eq_or_imp, forall_eq]; exact ⟨g0, g1, g2, g3, g4, g5, g6, g7, g8, g9, g10, g11, g12, g13, g14, g15, g16⟩) (by kernel_rfl)
    obtain rfl : x16 = .bool false := h16 _ rfl
    clear h0 g0 h1 g1 h2 g2 h3 g3 h4 g4 h5 g5 h6 g6 h7 g7 h8 g8 h9 g9 h10 g10 h11 g11 h12 g12 h13 g13 h14 g14 h15 g15 h16 g16 hI hall
    simp only [setAll, List.foldl, List.setIfInBounds_toArray, List.set_cons_zero, List.set_cons_succ] at hA
    rw [hA]
    clear hA
    have EL2 := Lib.hid (EL1.out.keep hS)
    have hbY := hbQ.trans (hS.mono hbQ.size)
    clear EX1 EY1 RX1 RY1 RE1 RE2 EL1 hbQ hS
    go_wp2_with fail
    refine (parseEvent_c A cb L w2 EL2.out hcb (by omega)).mono ?_
    rintro e W5 ⟨cq, q, nq, rfl, hq, hb5, hcase⟩
    have HQ := Lib.hid (nw_mono hq)
    have HCQ := Lib.hid (size45 hq.len)
    have HQS := Lib.hid (zsize hq)
    have HQO := Lib.hid hq.one
    clear hq
    rcases hcase with ⟨q', hp, rfl, rfl⟩ | ⟨hp, rfl, rfl⟩
    · have HP := Lib.hid (eventR_of hp)
      clear hp
      go_upto_region 14 with (refine wpList_store_fresh rfl 45 (.tmp 13) (.tmp 77) rfl rfl W5 zCells 45 cq.toArray rfl rfl HCQ.out HQS.out HQO.out ?_; intro W6 S1 S2 S3; replace S1 := Lib.hid S1)
      have hb6 := hb5.trans (S2.mono hb5.size)
      have Q6 := Lib.hid (HQ.out.keep S2)
      go_wp2_with (refine wpList_load_row rfl 45 (.tmp 13) rfl (W5.heap.size) rfl 45 cq.toArray (0, 0) _ S1.out Try.underlying45 rfl HCQ.out ?_)
      refine (event_c q cq W6 Q6.out (by have := HP.out.2.1; unfold Lim; omega) (by have := HP.out.2.2; unfold Lim; omega)).mono ?_
      rw [HP.out.1]
      rintro e W7 ⟨v7, rfl, hn7⟩
      obtain ⟨A7, c7, rfl, hc7, _⟩ := hn7.1.form
      have hcv1 : (convert 22 9 (.slice A7 L.length c7)).run Try.prog W7 = .ok (.string (bstr L)) W7 := run_str (hn7.1.rd (Q := (· < W7.heap.size)) (fun k hk => hn7.1.lt hk)).2
      have hb7 := hb6.trans (hn7.2.2.mono hb6.size)
      have hcv2 : (convert 22 9 (.slice A L.length cb)).run Try.prog W7 = .ok (.string (bstr L)) W7 := run_str (EL2.out.keep hb7)
      have hbe := bstr_beq L L
      rw [decide_eq_true (rfl : L = L)] at hbe
      clear hn7 hb6 S1 S2 S3
      go_wp2_with fail
      go_ret
      exact ⟨rfl, hbY.trans (hb7.mono hbY.size)⟩
    · clear hp
      go_upto_region 14 with (refine wpList_store_fresh rfl 45 (.tmp 13) (.tmp 77) rfl rfl W5 zCells 45 cq.toArray rfl rfl HCQ.out HQS.out HQO.out ?_; intro W6 S1 S2 S3; replace S1 := Lib.hid S1)
      have hb6 := hb5.trans (S2.mono hb5.size)
      have Q6 := Lib.hid (HQ.out.keep S2)
      go_wp2_with (refine wpList_load_row rfl 45 (.tmp 13) rfl (W5.heap.size) rfl 45 cq.toArray (0, 0) _ S1.out Try.underlying45 rfl HCQ.out ?_)
      refine (rSame_c {} {} cq (evCells 0 zEntry zRate zHolding zMatch zStock 0 0 ⟨#[]⟩) W6 Q6.out (zEventC _ _) fewZ fewZ).mono ?_
      rintro e W7 ⟨rfl, hb7⟩
      rw [decide_eq_true (rfl : encEvent {} = encEvent {})]
      go_wp2_with fail
      go_ret
      exact ⟨rfl, hbY.trans ((hb6.trans (hb7.mono hb6.size)).mono hbY.size)⟩
set_option maxHeartbeats 4000000 in
set_option maxRecDepth 100000 in
theorem trip_none (x y : XEvent) (cx cy : List Value) (A : Option Addr) (cb : Nat) (L : List UInt8) (w : World) (hx : EventC w (· < w.heap.size) cx x) (hy : EventC w (· < w.heap.size) cy y) (hb : Rd w (· < w.heap.size) A L.length 1 (bv L)) (hfx0 : fewB x = true) (hfy0 : fewB y = true) (hcb : L.length ≤ cb) (hl : L.length ≤ 70000) (R1 R2 : List UInt8) (n1 n2 : Int) (hn1 : n1 ≠ 0) (hr : eventR x = (R1, n1)) (ht : eventR y = (R2, n2)) :
    Calls Try.prog 7 #[.agg cx.toArray, .agg cy.toArray, .slice A L.length cb] w fun e w' => e = .returned (.bool true) ∧ Below w.heap.size w w' := by
  have HFX := Lib.hid hfx0
  have HFY := Lib.hid hfy0
  have HR := Lib.hid hr
  have HT := Lib.hid ht
  have hfx := fewB_few hfx0
  have hfy := fewB_few hfy0
  have hLx : (encAll x).length ≤ Lim := by have := hfx.lenAll; unfold Lim; omega
  have hLy : (encAll y).length ≤ Lim := by have := hfy.lenAll; unfold Lim; omega
  have hLx1 : (encAll x).length + 100 ≤ Lim := by have := hfx.lenAll; unfold Lim; omega
  have hLy1 : (encAll y).length + 100 ≤ Lim := by have := hfy.lenAll; unfold Lim; omega
  have hLe : (encEv x).length ≤ Lim := by have := hfx.lenEv; unfold Lim; omega
  have hLf : (encEv y).length ≤ Lim := by have := hfy.lenEv; unfold Lim; omega
  have okx := Lib.hid (hx.ok hfx)
  have oky := Lib.hid (hy.ok hfy)
  clear hfx0 hfy0 hr ht
  have HX := Lib.hid hx
  have HY := Lib.hid hy
  have HL := Lib.hid hb
  have HCX := Lib.hid (size45 hx.len)
  have HCY := Lib.hid (size45 hy.len)
  clear hx hy hb
  go_enter Try.func7, Try.ntmps7
  go_upto_region 1 with fail
  have h2 := heap2 w (.cells cx.toArray 45) (.cells cy.toArray 45)
  generalize hW : (w.alloc (Obj.cells cx.toArray 45)).alloc (Obj.cells cy.toArray 45) = V at *
  obtain ⟨H0, H1, HS, HF⟩ := h2
  have hbV : Below w.heap.size w V := HF.below
  have hVs : w.heap.size + 1 < V.heap.size := by omega
  clear hW HF HS
  have HH0 := Lib.hid H0
  have HH1 := Lib.hid H1
  have VX := Lib.hid (HX.out.keep hbV)
  have VY := Lib.hid (HY.out.keep hbV)
  have VL := Lib.hid (HL.out.keep hbV)
  clear H0 H1
  go_wp2_with fail
  refine (awake_c V).mono ?_
  rintro e V1 ⟨rfl, hb1⟩
  have G0 := Lib.hid ((hb1.block w.heap.size (by omega)).trans HH0.out)
  have G1 := Lib.hid ((hb1.block (w.heap.size + 1) (by omega)).trans HH1.out)
  go_wp2_with (refine wpList_load_row rfl 45 (.tmp 3) rfl (w.heap.size) rfl 45 cx.toArray (0, 0) _ G0.out Try.underlying45 rfl HCX.out ?_)
  refine (rFew_c x cx V1 (VX.out.keep hb1)).mono ?_
  rintro e V2 ⟨rfl, hb2⟩
  rw [HFX.out]
  have G3 := Lib.hid ((hb2.block (w.heap.size + 1) (by have := hb1.size; omega)).trans G1.out)
  go_wp2_with (refine wpList_load_row_g rfl 45 (.tmp 4) rfl (w.heap.size + 1) rfl 45 cy.toArray (0, 0) _ G3.out Try.underlying45 rfl HCY.out ?_)
  refine (rFew_c y cy V2 ((VY.out.keep hb1).keep hb2)).mono ?_
  rintro e V3 ⟨rfl, hb3⟩
  rw [HFY.out]
  have hd : decide ((70000 : Int) < (L.length : Int)) = false := decide_eq_false (by omega)
  have G4 := Lib.hid ((hb3.block w.heap.size (by have := hb1.size; have := hb2.size; omega)).trans ((hb2.block w.heap.size (by have := hb1.size; omega)).trans G0.out))
  have G5 := Lib.hid ((hb3.block (w.heap.size + 1) (by have := hb1.size; have := hb2.size; omega)).trans G3.out)
  have hb13 := hb1.trans ((hb2.trans (hb3.mono hb2.size)).mono hb1.size)
  have X3 := Lib.hid (VX.out.keep hb13)
  clear hb1 hb2 hb3 G0 G1 G3
  go_wp2_with (refine wpList_load_row rfl 45 (.tmp 3) rfl (w.heap.size) rfl 45 cx.toArray (0, 0) _ G4.out Try.underlying45 rfl HCX.out ?_)
  refine (event_c x cx V3 X3.out hLx1 hLe).mono ?_
  rw [HR.out]
  rintro e V4 ⟨v4, rfl, hn4⟩
  obtain ⟨A1, c1, rfl, hc1, _⟩ := hn4.1.form
  have HC1 := Lib.hid hc1
  have N4 := Lib.hid hn4
  have G6 := Lib.hid ((hn4.2.2.block (w.heap.size + 1) (by have := hb13.size; omega)).trans G5.out)
  have hb4 := hb13.trans (hn4.2.2.mono hb13.size)
  have Y4 := Lib.hid (VY.out.keep hb4)
  clear hn4 G4 hb13 hc1
  go_wp2_with (refine wpList_load_row rfl 45 (.tmp 4) rfl (w.heap.size + 1) rfl 45 cy.toArray (0, 0) _ G6.out Try.underlying45 rfl HCY.out ?_)
  refine (event_c y cy V4 Y4.out hLy1 hLf).mono ?_
  rw [HT.out]
  rintro e W ⟨v5, rfl, hn5⟩
  obtain ⟨A2, c2, rfl, hc2, _⟩ := hn5.1.form
  have hb5 := hb4.trans (hn5.2.2.mono hb4.size)
  have EX := Lib.hid (VX.out.keep hb5)
  have EY := Lib.hid (VY.out.keep hb5)
  have EL := Lib.hid (VL.out.keep hb5)
  have RX := Lib.hid ((box_at HH0.out).keep hb5)
  have RY := Lib.hid ((box_at HH1.out).keep hb5)
  have GX := Lib.hid ((hb5.block w.heap.size (by omega)).trans HH0.out)
  have GY := Lib.hid ((hb5.block (w.heap.size + 1) (by omega)).trans HH1.out)
  have RD1 := Lib.hid (((N4.out.1.rd (Q := (· < V4.heap.size)) (fun k hk => N4.out.1.lt hk)).2).keep hn5.2.2)
  have RD2 := Lib.hid ((hn5.1.rd (Q := (· < W.heap.size)) (fun k hk => hn5.1.lt hk)).2)
  have hbW := hbV.trans (hb5.mono hbV.size)
  have hWs : w.heap.size + 1 < W.heap.size := by have := hb5.size; omega
  clear N4 G5 G6 hn5 hb4 hb5 X3 Y4 hc2 hd
  have hne1 := Lib.hid (show (n1 == 0) = false by simpa using hn1)
  clear hn1
  have hne := hne1.out
  go_wp2_with fail
  clear hne
  obtain ⟨Z, hZ⟩ : ∃ Z : World, Z = W := ⟨_, rfl⟩
  have hbZ : Below W.heap.size W Z := by rw [hZ]; exact Below.refl _ _
  rw [← hZ]
  clear hZ
  have EX1 := Lib.hid (EX.out.keep hbZ)
  have EY1 := Lib.hid (EY.out.keep hbZ)
  have EL1 := Lib.hid (EL.out.keep hbZ)
  have RX1 := Lib.hid (RX.out.keep hbZ)
  have RY1 := Lib.hid (RY.out.keep hbZ)
  have RE1 := Lib.hid (RD1.out.keep hbZ)
  have RE2 := Lib.hid (RD2.out.keep hbZ)
  have hbQ := hbW.trans (hbZ.mono hbW.size)
  clear RX RY GX GY EX EY EL RD1 RD2 hbZ hbW
  refine wp_region_inv (Ks Z [.val (.int .i64 (n1)), .val (.bool false), .val (.bool false), .val (undef), .val (undef), .val (.bool false), .val (.bool false), .val (undef), .val (undef), .val (undef), .val (undef), .val (undef), .val (undef), .val (undef), .val (undef), .val (undef), .val (.bool false)])
    (fun w' => Below Z.heap.size Z w') (by kernel_rfl) (by kernel_rfl) (by kernel_rfl) (Below.refl _ _).drew ?_ ?_
  · refine ⟨?_, ?_, ?_, ?_, ?_, ?_, ?_, ?_, ?_, ?_, ?_, ?_, ?_, ?_, ?_, ?_, ?_, trivial⟩
    · intro listed A0 w2 hI hd hnd K hK
      have e0 := hI.slot hnd 8 _ rfl (by kernel_rfl)
      have hS := hI.world
      refine wanted_go rfl ?_
      clear hI hd hnd
      go_simp
      exact hK.out _ _ hS (Ks.of rfl rfl) (fun _ _ h => h)
    · intro listed A0 w2 hI hd hnd K hK
      have e0 := hI.depv hd 0 57 _ rfl rfl rfl (by kernel_rfl)
      have hS := hI.world
      have hne : (n1 == 0) = false := hne1.out
      refine wanted_go rfl ?_
      clear hI hd hnd
      go_simp
      exact hK.out _ _ hS (Ks.of rfl rfl) (fun _ _ h => h)
    · intro listed A0 w2 hI hd hnd K hK
      have e0 := hI.depv hd 1 58 _ rfl rfl rfl (by kernel_rfl)
      have hS := hI.world
      refine wanted_go rfl ?_
      clear hI hd hnd
      go_simp
      exact hK.out _ _ hS (Ks.of rfl rfl) (fun _ _ h => h)
    · intro listed A0 w2 hI hd hnd K hK
      have hS := hI.world
      refine wanted_no rfl (hI.yield hd 2 59 false rfl rfl rfl (by kernel_rfl)) rfl ?_
      exact hK.out _ _ hS (Ks.of rfl rfl) (fun _ _ h => h)
    · intro listed A0 w2 hI hd hnd K hK
      have hS := hI.world
      refine wanted_no rfl (hI.yield hd 2 59 false rfl rfl rfl (by kernel_rfl)) rfl ?_
      exact hK.out _ _ hS (Ks.of rfl rfl) (fun _ _ h => h)
    · intro listed A0 w2 hI hd hnd K hK
      have e0 := hI.depv hd 2 59 _ rfl rfl rfl (by kernel_rfl)
      have e1 := hI.depv hd 4 61 _ rfl rfl rfl (by kernel_rfl)
      have hS := hI.world
      refine wanted_go rfl ?_
      clear hI hd hnd
      go_simp
      exact hK.out _ _ hS (Ks.of rfl rfl) (fun _ _ h => h)
    · intro listed A0 w2 hI hd hnd K hK
      have e0 := hI.depv hd 5 62 _ rfl rfl rfl (by kernel_rfl)
      have hS := hI.world
      refine wanted_go rfl ?_
      clear hI hd hnd
      go_simp
      exact hK.out _ _ hS (Ks.of rfl rfl) (fun _ _ h => h)
    · intro listed A0 w2 hI hd hnd K hK
      have hS := hI.world
      refine wanted_no rfl (hI.yield hd 6 63 false rfl rfl rfl (by kernel_rfl)) rfl ?_
      exact hK.out _ _ hS (Ks.of rfl rfl) (fun _ _ h => h)
    · intro listed A0 w2 hI hd hnd K hK
      have hS := hI.world
      refine wanted_no rfl (hI.yield hd 6 63 false rfl rfl rfl (by kernel_rfl)) rfl ?_
      exact hK.out _ _ hS (Ks.of rfl rfl) (fun _ _ h => h)
    · intro listed A0 w2 hI hd hnd K hK
      have hS := hI.world
      refine wanted_no rfl (hI.yield hd 6 63 false rfl rfl rfl (by kernel_rfl)) rfl ?_
      exact hK.out _ _ hS (Ks.of rfl rfl) (fun _ _ h => h)
    · intro listed A0 w2 hI hd hnd K hK
      have hS := hI.world
      refine wanted_no rfl (hI.yield hd 6 63 false rfl rfl rfl (by kernel_rfl)) rfl ?_
      exact hK.out _ _ hS (Ks.of rfl rfl) (fun _ _ h => h)
    · intro listed A0 w2 hI hd hnd K hK
      have hS := hI.world
      refine wanted_no rfl (hI.yield hd 6 63 false rfl rfl rfl (by kernel_rfl)) rfl ?_
      exact hK.out _ _ hS (Ks.of rfl rfl) (fun _ _ h => h)
    · intro listed A0 w2 hI hd hnd K hK
      have hS := hI.world
      refine wanted_no rfl (hI.yield hd 6 63 false rfl rfl rfl (by kernel_rfl)) rfl ?_
      exact hK.out _ _ hS (Ks.of rfl rfl) (fun _ _ h => h)
    · intro listed A0 w2 hI hd hnd K hK
      have hS := hI.world
      refine wanted_no rfl (hI.yield hd 6 63 false rfl rfl rfl (by kernel_rfl)) rfl ?_
      exact hK.out _ _ hS (Ks.of rfl rfl) (fun _ _ h => h)
    · intro listed A0 w2 hI hd hnd K hK
      have hS := hI.world
      refine wanted_no rfl (hI.yield hd 6 63 false rfl rfl rfl (by kernel_rfl)) rfl ?_
      exact hK.out _ _ hS (Ks.of rfl rfl) (fun _ _ h => h)
    · intro listed A0 w2 hI hd hnd K hK
      have hS := hI.world
      refine wanted_no rfl (hI.yield hd 6 63 false rfl rfl rfl (by kernel_rfl)) rfl ?_
      exact hK.out _ _ hS (Ks.of rfl rfl) (fun _ _ h => h)
    · intro listed A0 w2 hI hd hnd K hK
      have e0 := hI.depv hd 6 63 _ rfl rfl rfl (by kernel_rfl)
      have e1 := hI.depv hd 15 72 _ rfl rfl rfl (by kernel_rfl)
      have hS := hI.world
      refine wanted_go rfl ?_
      clear hI hd hnd
      go_simp
      exact hK.out _ _ hS (Ks.of rfl rfl) (fun _ _ h => h)
  · intro listed A0 w2 hI hall
    obtain ⟨x0, g0, h0⟩ := hI.got 0 _ 57 rfl rfl (hall 0 (by decide))
    obtain ⟨x1, g1, h1⟩ := hI.got 1 _ 58 rfl rfl (hall 1 (by decide))
    obtain ⟨x2, g2, h2⟩ := hI.got 2 _ 59 rfl rfl (hall 2 (by decide))
    obtain ⟨x3, g3, h3⟩ := hI.got 3 _ 60 rfl rfl (hall 3 (by decide))
    obtain ⟨x4, g4, h4⟩ := hI.got 4 _ 61 rfl rfl (hall 4 (by decide))
    obtain ⟨x5, g5, h5⟩ := hI.got 5 _ 62 rfl rfl (hall 5 (by decide))
    obtain ⟨x6, g6, h6⟩ := hI.got 6 _ 63 rfl rfl (hall 6 (by decide))
    obtain ⟨x7, g7, h7⟩ := hI.got 7 _ 64 rfl rfl (hall 7 (by decide))
    obtain ⟨x8, g8, h8⟩ := hI.got 8 _ 65 rfl rfl (hall 8 (by decide))
    obtain ⟨x9, g9, h9⟩ := hI.got 9 _ 66 rfl rfl (hall 9 (by decide))
    obtain ⟨x10, g10, h10⟩ := hI.got 10 _ 67 rfl rfl (hall 10 (by decide))
    obtain ⟨x11, g11, h11⟩ := hI.got 11 _ 68 rfl rfl (hall 11 (by decide))
    obtain ⟨x12, g12, h12⟩ := hI.got 12 _ 69 rfl rfl (hall 12 (by decide))
    obtain ⟨x13, g13, h13⟩ := hI.got 13 _ 70 rfl rfl (hall 13 (by decide))
    obtain ⟨x14, g14, h14⟩ := hI.got 14 _ 71 rfl rfl (hall 14 (by decide))
    obtain ⟨x15, g15, h15⟩ := hI.got 15 _ 72 rfl rfl (hall 15 (by decide))
    obtain ⟨x16, g16, h16⟩ := hI.got 16 _ 73 rfl rfl (hall 16 (by decide))
    have hS := hI.world
    have hA : A0 = _ := hI.tmps [(57, x0), (58, x1), (59, x2), (60, x3), (61, x4), (62, x5), (63, x6), (64, x7), (65, x8), (66, x9), (67, x10), (68, x11), (69, x12), (70, x13), (71, x14), (72, x15), (73, x16)] (by simp only [List.mem_cons, List.not_mem_nil, or_false, forall_eq_or_imp, forall_eq]; exact ⟨g0, g1, g2, g3, g4, g5, g6, g7, g8, g9, g10, g11, g12, g13, g14, g15, g16⟩) (by kernel_rfl)
    obtain rfl : x16 = .bool false := h16 _ rfl
    clear h0 g0 h1 g1 h2 g2 h3 g3 h4 g4 h5 g5 h6 g6 h7 g7 h8 g8 h9 g9 h10 g10 h11 g11 h12 g12 h13 g13 h14 g14 h15 g15 h16 g16 hI hall
    simp only [setAll, List.foldl, List.setIfInBounds_toArray, List.set_cons_zero, List.set_cons_succ] at hA
    rw [hA]
    clear hA
    have EL2 := Lib.hid (EL1.out.keep hS)
    have hbY := hbQ.trans (hS.mono hbQ.size)
    clear EX1 EY1 RX1 RY1 RE1 RE2 EL1 hbQ hS
    go_wp2_with fail
    refine (parseEvent_c A cb L w2 EL2.out hcb (by omega)).mono ?_
    rintro e W5 ⟨cq, q, nq, rfl, hq, hb5, hcase⟩
    have HQ := Lib.hid (nw_mono hq)
    have HCQ := Lib.hid (size45 hq.len)
    have HQS := Lib.hid (zsize hq)
    have HQO := Lib.hid hq.one
    clear hq
    rcases hcase with ⟨q', hp, rfl, rfl⟩ | ⟨hp, rfl, rfl⟩
    · have HP := Lib.hid (eventR_of hp)
      clear hp
      go_upto_region 14 with (refine wpList_store_fresh rfl 45 (.tmp 13) (.tmp 77) rfl rfl W5 zCells 45 cq.toArray rfl rfl HCQ.out HQS.out HQO.out ?_; intro W6 S1 S2 S3; replace S1 := Lib.hid S1)
      have hb6 := hb5.trans (S2.mono hb5.size)
      have Q6 := Lib.hid (HQ.out.keep S2)
      go_wp2_with (refine wpList_load_row rfl 45 (.tmp 13) rfl (W5.heap.size) rfl 45 cq.toArray (0, 0) _ S1.out Try.underlying45 rfl HCQ.out ?_)
      refine (event_c q cq W6 Q6.out (by have := HP.out.2.1; unfold Lim; omega) (by have := HP.out.2.2; unfold Lim; omega)).mono ?_
      rw [HP.out.1]
      rintro e W7 ⟨v7, rfl, hn7⟩
      obtain ⟨A7, c7, rfl, hc7, _⟩ := hn7.1.form
      have hcv1 : (convert 22 9 (.slice A7 L.length c7)).run Try.prog W7 = .ok (.string (bstr L)) W7 := run_str (hn7.1.rd (Q := (· < W7.heap.size)) (fun k hk => hn7.1.lt hk)).2
      have hb7 := hb6.trans (hn7.2.2.mono hb6.size)
      have hcv2 : (convert 22 9 (.slice A L.length cb)).run Try.prog W7 = .ok (.string (bstr L)) W7 := run_str (EL2.out.keep hb7)
      have hbe := bstr_beq L L
      rw [decide_eq_true (rfl : L = L)] at hbe
      clear hn7 hb6 S1 S2 S3
      go_wp2_with fail
      go_ret
      exact ⟨rfl, hbY.trans (hb7.mono hbY.size)⟩
    · clear hp
      go_upto_region 14 with (refine wpList_store_fresh rfl 45 (.tmp 13) (.tmp 77) rfl rfl W5 zCells 45 cq.toArray rfl rfl HCQ.out HQS.out HQO.out ?_; intro W6 S1 S2 S3; replace S1 := Lib.hid S1)
      have hb6 := hb5.trans (S2.mono hb5.size)
      have Q6 := Lib.hid (HQ.out.keep S2)
      go_wp2_with (refine wpList_load_row rfl 45 (.tmp 13) rfl (W5.heap.size) rfl 45 cq.toArray (0, 0) _ S1.out Try.underlying45 rfl HCQ.out ?_)
      refine (rSame_c {} {} cq (evCells 0 zEntry zRate zHolding zMatch zStock 0 0 ⟨#[]⟩) W6 Q6.out (zEventC _ _) fewZ fewZ).mono ?_
      rintro e W7 ⟨rfl, hb7⟩
      rw [decide_eq_true (rfl : encEvent {} = encEvent {})]
      go_wp2_with fail
      go_ret
      exact ⟨rfl, hbY.trans ((hb6.trans (hb7.mono hb6.size)).mono hbY.size)⟩
theorem trip_c (x y : XEvent) (cx cy : List Value) (A : Option Addr) (cb : Nat) (L : List UInt8) (w : World) (hx : EventC w (· < w.heap.size) cx x) (hy : EventC w (· < w.heap.size) cy y) (hb : Rd w (· < w.heap.size) A L.length 1 (bv L)) (hcb : L.length ≤ cb) :
    Calls Try.prog 7 #[.agg cx.toArray, .agg cy.toArray, .slice A L.length cb] w fun e w' => e = .returned (.bool true) ∧ Below w.heap.size w w' := by
  by_cases h1 : fewB x = true
  · by_cases h2 : fewB y = true
    · by_cases h3 : L.length ≤ 70000
      · obtain ⟨⟨R1, n1⟩, hr⟩ : ∃ p, eventR x = p := ⟨_, rfl⟩
        obtain ⟨⟨R2, n2⟩, ht⟩ : ∃ p, eventR y = p := ⟨_, rfl⟩
        by_cases hn1 : n1 = 0
        · subst hn1
          by_cases hn2 : n2 = 0
          · subst hn2
            exact trip_both x y cx cy A cb L w hx hy hb h1 h2 hcb h3 R1 R2 hr ht
          · exact trip_first x y cx cy A cb L w hx hy hb h1 h2 hcb h3 R1 R2 n2 hn2 hr ht
        · exact trip_none x y cx cy A cb L w hx hy hb h1 h2 hcb h3 R1 R2 n1 n2 hn1 hr ht
      · exact trip_long x y cx cy A cb L w hx hy hb h1 h2 (by omega)
    · exact trip_big2 x y cx cy A cb L w hx hy hb h1 (by simpa using h2)
  · exact trip_big x y cx cy A cb L w hx hy hb (by simpa using h1)
end
end Go.Proofs.Ytgdibeegheddmaa

namespace Go.Proofs.Ytgdibeegheddmaa
open Go Go.ChangeShapes Go.WideShapes Go.ChangeAt Go.RowKit
open Go.ChangeMaps (open_string shut_string)
set_option linter.unusedVariables false
set_option linter.unusedSimpArgs false

set_option maxRecDepth 100000 in
theorem event_open7 {base : Nat} {H : Type} {enc : TypeId × Value → H} {W : World} {v : Value} {d : DataW H} {p : List MemPlace} (hk : Value.okWide Try.prog W .any base 45 v)
    (h : DataW.Trod enc Try.prog W 0 (fun _ => true) true 45 v d p) (hfz : ∀ b off, MemPlace.cell b off ∈ p → W.frozen? ⟨b, off, none⟩ = false) :
    ∃ (cx : List Value) (x : XEvent), v = .agg cx.toArray ∧ EventC W (· < W.heap.size) cx x := by
  obtain ⟨cs, rfl, _⟩ := okWide_struct Try.underlying45 hk
  obtain ⟨fuel, hf⟩ := h
  obtain ⟨x, hx⟩ := opEvent _ _ _ hf hfz
  exact ⟨_, x, by simp [Value.cells], hx⟩

set_option maxRecDepth 100000 in
theorem liftedTrip (os : Os) (started : os.Started) (H : Type) (enc : TypeId × Value → H) :
    ReturnsInHanded {} Try.checked os 7 .any (Rows.codecEventTripSpec.pre6 enc Try.prog Try.f7 Rows.codecEventTripRow.domain false) (Rows.codecEventTripSpec.post enc Try.prog Try.f7 false true false false) := by
  refine returnsInHanded_of_change (C := Try.checked) own started (by kernel_rfl) Try.func7
    (ChangeSpec.witness6 (enc := enc) (C := Try.checked) false ⟨#[], #[.agg (evCells 0 zEntry zRate zHolding zMatch zStock 0 0 ⟨#[]⟩).toArray, .agg (evCells 0 zEntry zRate zHolding zMatch zStock 0 0 ⟨#[]⟩).toArray, .slice none 0 0], []⟩ 8 (by kernel_rfl) (by kernel_rfl) (by kernel_rfl) (by kernel_rfl)) ?_
  intro W base args ds gs before hval0 hW hcnd _
  have hval : ∀ (j : Nat) t v, Try.f7.params[j]? = some t → args[j]? = some v → Value.okWide Try.prog W .any base t v := hval0
  have hW' := hW
  obtain ⟨p, q, hA0, hV, rfl, hfz, hnd⟩ := hW
  have hA : DataW.TrodAll enc Try.prog W 0 (fun _ => true) true Try.f7.params.toList args.toList ds p := hA0
  rw [Try.params7] at hA hval
  obtain ⟨v0, vs0, d0, ds0, p0, q0, hargs, rfl, rfl, h0, r0⟩ := trodAll_cons hA
  obtain ⟨v1, vs1, d1, ds1, p1, q1, rfl, rfl, rfl, h1, r1⟩ := trodAll_cons r0
  obtain ⟨v2, vs2, d2, ds2, p2, q2, rfl, rfl, rfl, h2, r2⟩ := trodAll_cons r1
  obtain ⟨rfl, rfl, rfl⟩ := trodAll_nil r2
  obtain rfl : args = #[v0, v1, v2] := by cases args; simp_all
  obtain ⟨rfl, rfl⟩ := trodVars_none hV
  have o0 := hval 0 45 v0 rfl rfl
  have o1 := hval 1 45 v1 rfl rfl
  obtain ⟨a0, len0, cap0, rfl⟩ := okWide_slice Try.underlying22 (hval 2 22 v2 rfl rfl)
  have k0 := h0
  have k2 := h2
  have lt2 : ∀ x ∈ p2, x.block < W.heap.size := by obtain ⟨m, hm⟩ := k2; exact DataW.trod_lt m _ _ _ hm
  have k1 := h1
  have lt0 : ∀ x ∈ p0, x.block < W.heap.size := by obtain ⟨m, hm⟩ := k0; exact DataW.trod_lt m _ _ _ hm
  have lt1 : ∀ x ∈ p1, x.block < W.heap.size := by obtain ⟨m, hm⟩ := k1; exact DataW.trod_lt m _ _ _ hm
  obtain ⟨cx, x, rfl, hx⟩ := event_open7 o0 h0 (fun b off hm => hfz b off (by simp [hm]))
  obtain ⟨cy, y, rfl, hy⟩ := event_open7 o1 h1 (fun b off hm => hfz b off (by simp [hm]))
  obtain ⟨L, hL, hlc, hcm, hrd⟩ := bytes_open h2 (fun b off hm => hfz b off (by simp [hm]))
  subst hL
  clear hA0 hval0
  refine (trip_c x y cx cy a0 cap0 L W hx hy hrd hlc).mono fun e W' ⟨he, bel⟩ => ?_
  subst he
  exact ⟨_, rfl, _, _, _, [], _, [], hW', trodAll_mk1 (shut_bool Try.underlying4 _), (trodAll_cons_mk (Below.trod laidOut (by kernel_rfl) (of_decide_eq_true (by kernel_rfl)) k0 bel lt0)
    (trodAll_cons_mk (Below.trod laidOut (by kernel_rfl) (of_decide_eq_true (by kernel_rfl)) k1 bel lt1)
    (trodAll_cons_mk (Below.trod laidOut (by kernel_rfl) (of_decide_eq_true (by kernel_rfl)) k2 bel lt2) trodAll_mk0))), rfl, bel.frame _, fun h => by cases h⟩

theorem overTrip : Rows.codecEventTripRow.holds Try.pinned (OpenSpec.ofChange Rows.codecEventTripSpec) :=
  OpenClaim.holds_of_wide 7 Try.f7 rfl rfl rfl rfl rfl rfl rfl ⟨rfl, rfl, rfl, rfl, rfl⟩ rfl rfl rfl rfl rfl (by kernel_rfl) Try.func7 (by kernel_rfl)
    (of_decide_eq_true (by kernel_rfl)) (by unfold Func.isWrapper; first | (rw [if_pos (by decide +kernel)]; kernel_rfl) | (rw [if_neg (by decide +kernel)]; exact ⟨rfl, rfl⟩))
    (fun os started H enc _ => liftedTrip os started H enc)

theorem codecEventTrip : Rows.CodecEventTripSaid := overTrip
#print axioms codecEventTrip
end Go.Proofs.Ytgdibeegheddmaa
