/- codec.Event returns the encoding of any event, or the specified error. (joined: E4Event, E5Awake, E6Clone) -/
import Derived.Test.YtgdibeegheddmaaYE3Proper
namespace Go.Proofs.Ytgdibeegheddmaa
open Go Go.RowKit
set_option linter.unusedVariables false
attribute [local go_sem ↓] Go.wp_at_zero Go.wp_at_succ

def encEv (x : XEvent) : List UInt8 := enc x.kind ++ encFields x
def eventR (x : XEvent) : List UInt8 × Int := if properB x = true then (if 65536 < (encEv x).length then ([], 6) else (encEv x, 0)) else ([], 1)
/-- Two results: bytes in new memory, and an error. -/
def BytesErr (w : World) (r : List UInt8 × Int) (e : Ending) (w' : World) : Prop := ∃ v, e = .returned (.tuple #[v, .int .i64 r.2]) ∧ NewBytes w w' v r.1

set_option maxHeartbeats 1000000 in
set_option maxRecDepth 100000 in
theorem event_no (x : XEvent) (cx : List Value) (w : World) (hx : EventC w (· < w.heap.size) cx x) (hLx : (encAll x).length + 100 ≤ Lim) (hp : properB x = false) :
    Calls Try.prog 17 #[.agg cx.toArray] w (BytesErr w ([], 1)) := by
  have HC45 := Lib.hid (size45 hx.len)
  have H0 : (w.alloc (.cells cx.toArray 45)).heap[w.heap.size]? = some (.cells cx.toArray 45 (0, 0)) := heap_alloc_new w _
  have HX := Lib.hid hx
  have HH0 := Lib.hid H0
  have HP := Lib.hid hp
  clear hx H0 hp
  go_enter Try.func17, Try.ntmps17
  go_wp2_with (refine wpList_load_row rfl 45 (.tmp 1) rfl w.heap.size rfl 45 cx.toArray (0, 0) _ HH0.out Try.underlying45 rfl HC45.out ?_)
  have fW : Fr (· < w.heap.size) w (w.alloc (.cells cx.toArray 45)) := (Fr.refl _ w).alloc (fun _ h => h) _
  refine (proper_c x cx (w.alloc (.cells cx.toArray 45)) ((HX.out.fr fW).mono (fun k hk => by simp; omega)) hLx).mono ?_
  rintro e w1 ⟨rfl, hb1⟩
  rw [HP.out]
  go_wp2_with fail
  go_ret2
  refine ⟨.slice none 0 0, rfl, Bytes.nil _, fun k hk => by simp [Value.ownBlock] at hk, fW.below.trans (hb1.mono (by simp))⟩

set_option maxHeartbeats 1000000 in
set_option maxRecDepth 100000 in
theorem event_yes (x : XEvent) (cx : List Value) (w : World) (r : List UInt8 × Int) (hr : r = if 65536 < (encEv x).length then ([], 6) else (encEv x, 0)) (hx : EventC w (· < w.heap.size) cx x) (hLx : (encAll x).length + 100 ≤ Lim) (hL : (encEv x).length ≤ Lim) (hp : properB x = true) :
    Calls Try.prog 17 #[.agg cx.toArray] w (BytesErr w r) := by
  have HR := Lib.hid hr
  clear hr
  have hkn : known x.kind = true := by
    unfold properB at hp; rw [Bool.and_eq_true] at hp; exact hp.1
  have HC45 := Lib.hid (size45 hx.len)
  have H0 : (w.alloc (.cells cx.toArray 45)).heap[w.heap.size]? = some (.cells cx.toArray 45 (0, 0)) := heap_alloc_new w _
  have HX := Lib.hid hx
  have HH0 := Lib.hid H0
  have HP := Lib.hid hp
  have HKN := Lib.hid hkn
  clear hx H0 hp hkn
  go_enter Try.func17, Try.ntmps17
  go_wp2_with (refine wpList_load_row rfl 45 (.tmp 1) rfl w.heap.size rfl 45 cx.toArray (0, 0) _ HH0.out Try.underlying45 rfl HC45.out ?_)
  have fW : Fr (· < w.heap.size) w (w.alloc (.cells cx.toArray 45)) := (Fr.refl _ w).alloc (fun _ h => h) _
  refine (proper_c x cx (w.alloc (.cells cx.toArray 45)) ((HX.out.fr fW).mono (fun k hk => by simp; omega)) hLx).mono ?_
  rintro e w1 ⟨rfl, hb1⟩
  rw [HP.out]
  have fW1 : Fr (· < w.heap.size + 1) (w.alloc (.cells cx.toArray 45)) w1 := Fr.ofBelow (hb1.mono (by simp))
  have K0 := (fW1.block w.heap.size (by show w.heap.size < w.heap.size + 1; omega)).trans HH0.out
  have hz1 : w.heap.size + 1 ≤ w1.heap.size := by have := fW1.size; simp at this; omega
  have f1 : Fr (· < w.heap.size) w w1 := fW.trans (fW1.mono (fun k hk => by show k < w.heap.size + 1; omega))
  have K0H := Lib.hid K0
  clear K0
  go_wp2_with fail
  have hsA : SS (w1.alloc (.cells #[.slice none 0 0, .bool false, .bool false] 81)) w1.heap.size (.slice none 0 0) [] false false := ⟨heap_alloc_new w1 _, Bytes.nil _⟩
  have FA : Fr (· < w1.heap.size) w1 (w1.alloc (.cells #[.slice none 0 0, .bool false, .bool false] 81)) := (Fr.refl _ w1).alloc (fun _ h => h) _
  have hzA : (w1.alloc (.cells #[.slice none 0 0, .bool false, .bool false] 81)).heap.size = w1.heap.size + 1 := by simp
  have qA : ∀ k, k < w1.heap.size → Oth (w1.alloc (.cells #[.slice none 0 0, .bool false, .bool false] 81)) w1.heap.size (.slice none 0 0) k := fun k hk => ⟨by omega, by omega, by simp [Value.ownBlock]⟩
  have hxA : EventC (w1.alloc (.cells #[.slice none 0 0, .bool false, .bool false] 81)) (· < w.heap.size) cx x := (HX.out.fr f1).fr (FA.mono (fun k hk => by omega))
  have KA := (FA.block w.heap.size (by show w.heap.size < w1.heap.size; omega)).trans K0H.out
  have haA : At (w1.alloc (.cells #[.slice none 0 0, .bool false, .bool false] 81)) (fun k => k < w.heap.size + 1) ⟨w.heap.size, 0, none⟩ cx := by
    refine ⟨by show w.heap.size < w.heap.size + 1; omega, fun j u hu => ?_⟩
    rw [Addr.add_lit, Nat.zero_add, blk_cell KA j, blk_frozen KA j]
    exact ⟨by simpa using hu, rfl⟩
  obtain ⟨⟨f0, i0⟩, _⟩ := hxA.at_ haA
  have hlen2 : (enc x.kind).length + (encFields x).length ≤ Lim := by simpa [encEv] using hL
  refine (num_wv w1.heap.size (.slice none 0 0) [] false [(⟨w.heap.size, 0, none⟩, x.kind)] (by simp) (by rfl) (by rfl) hsA ?_ ?_ ?_).mono ?_
  · simp only [List.mem_singleton, forall_eq]
    exact ⟨qA _ (by show w.heap.size < w1.heap.size; omega), f0, i0⟩
  · simp only [List.flatMap_cons, List.flatMap_nil, List.append_nil, List.length_nil]; omega
  · simp
  rintro e w2 ⟨rfl, v2, hs2, hst2⟩
  simp only [List.flatMap_cons, List.flatMap_nil, List.append_nil, List.nil_append] at hs2
  have FQ := hst2.fr.mono (Q' := fun k => k < w.heap.size + 1) (fun k hk => qA k (by omega))
  have hxB := (hxA.mono (Q' := fun k => k < w.heap.size + 1) (fun k hk => by omega)).fr FQ
  have haB := haA.fr FQ
  clear f0
  go_wp2_with fail
  refine (fields_w w1.heap.size v2 (enc x.kind) false w.heap.size 0 x w2 (fun k => k < w.heap.size + 1) cx hs2 (fun k hk => hst2.oth (qA k (by omega))) hxB haB hlen2).mono ?_
  rintro e w3 ⟨rfl, v3, hs3, hst3⟩
  rw [HKN.out]
  have hst := hst2.trans hst3
  have hs3' : SS w3 w1.heap.size v3 (encEv x) false false := hs3
  obtain ⟨A3, c3, rfl, _, _⟩ := hs3'.2.form
  have c0 := blk_cell hs3'.1 0
  have FB : Below w.heap.size w w3 := (f1.trans ((FA.mono (fun k hk => by show k < w1.heap.size; omega)).trans (hst.fr.mono (fun k hk => qA k (by omega))))).below
  have hown : ∀ k, Value.ownBlock (.slice A3 (encEv x).length c3) = some k → w.heap.size ≤ k := fun k hk => by
    rcases hst.own k hk with h | h
    · simp [Value.ownBlock] at h
    · omega
  have hbig : ((encEv x).length : Int) ≤ 1000000000000 := by unfold Lim at hL; unfold encEv at *; omega
  have H3 := Lib.hid hs3'
  clear hs3 hs3' hs2 hsA KA
  by_cases hle : 65536 < (encEv x).length
  · have hle' : (65536 : Int) < ((encEv x).length : Int) := by omega
    have ER := Lib.hid (HR.out.trans (if_pos hle))
    clear hle
    go_wp2_with fail
    go_ret2
    rw [ER.out]
    exact ⟨.slice none 0 0, rfl, Bytes.nil _, fun k hk => by simp [Value.ownBlock] at hk, FB⟩
  · have hle' : ¬ (65536 : Int) < ((encEv x).length : Int) := by omega
    have ER := Lib.hid (HR.out.trans (if_neg hle))
    clear hle
    go_wp2_with fail
    go_ret2
    rw [ER.out]
    exact ⟨_, rfl, H3.out.2, hown, FB⟩
theorem event_c (x : XEvent) (cx : List Value) (w : World) (hx : EventC w (· < w.heap.size) cx x) (hLx : (encAll x).length + 100 ≤ Lim) (hL : (encEv x).length ≤ Lim) :
    Calls Try.prog 17 #[.agg cx.toArray] w (BytesErr w (eventR x)) := by
  by_cases hp : properB x = true
  · exact event_yes x cx w _ (by unfold eventR; rw [if_pos hp]) hx hLx hL hp
  · have e : eventR x = ([], 1) := by unfold eventR; rw [if_neg hp]
    rw [e]
    exact event_no x cx w hx hLx (by simpa using hp)
end Go.Proofs.Ytgdibeegheddmaa

namespace Go.Proofs.Ytgdibeegheddmaa
open Go Go.RowKit
set_option linter.unusedVariables false

def bstr (L : List UInt8) : ByteArray := ⟨L.toArray⟩
theorem run_str {w : World} {Q : Nat → Prop} {A : Option Addr} {c : Nat} {L : List UInt8} (h : Rd w Q A L.length 1 (bv L)) :
    (convert 22 9 (.slice A L.length c)).run Try.prog w = .ok (.string (bstr L)) w := by
  rw [run_convert_bytes_string w 22 9 5 _ _ c Try.underlying22 Try.underlying5 Try.underlying9]
  rcases A with _ | ad
  · have : L = [] := by
      rcases Nat.eq_zero_or_pos L.length with h0 | h0
      · exact List.eq_nil_of_length_eq_zero h0
      · obtain ⟨a, e, _⟩ := h.2 h0
        cases e
    subst this
    rfl
  · have hl : (loadCells ad L.length).run Try.prog w = .ok ((L.map fun c => (c.toNat : Int)).map (Value.int .u8)).toArray w := by
      have := run_loadCells_list (P := Try.prog) w ad (bv L) (fun j v hj => by
        have hjl : j < L.length := by
          have := (List.getElem?_eq_some_iff.1 hj).1
          simpa [bv] using this
        obtain ⟨a, e, hat⟩ := h.2 (by omega)
        injection e with e
        subst e
        exact (hat.2 j v hj).1)
      rw [bv_length] at this
      rw [this]
      simp [bv, Function.comp_def]
    rw [run_bytesToString w ad L.length c _ hl, foldl_push_bytes]
    simp [bstr, ByteArray.empty, ByteArray.emptyWithCapacity, Function.comp_def]
    rfl

set_option maxRecDepth 100000 in
theorem awake_ev : eventR { kind := 8, a := 1, b := 5 } = ([16, 2, 10], 0) := by decide +kernel
theorem enc64 : enc 64 = [128, 1] := by decide +kernel

set_option maxHeartbeats 1000000 in
set_option maxRecDepth 100000 in
theorem awake_c (w : World) : Calls Try.prog 11 #[] w fun e w' => e = .returned (.bool true) ∧ Below w.heap.size w w' := by
  go_enter Try.func11, Try.ntmps11
  go_wp2_with fail
  have hx : EventC w (· < w.heap.size) (evCells 8 zEntry zRate zHolding zMatch zStock 1 5 ⟨#[]⟩) { kind := 8, a := 1, b := 5 } :=
    evC (by unfold intBd; omega) (zEntryC _ _) (zRateC _ _) (zHoldingC _ _) (zMatchC _ _) (zStockC _ _) (by unfold intBd; omega) (by unfold intBd; omega)
  have h1 : (encAll { kind := 8, a := 1, b := 5 }).length + 100 ≤ Lim := by
    have : (encAll { kind := 8, a := 1, b := 5 }).length = 28 := by decide +kernel
    rw [this]; unfold Lim; omega
  have h2 : (encEv { kind := 8, a := 1, b := 5 }).length ≤ Lim := by
    have : (encEv { kind := 8, a := 1, b := 5 }).length = 3 := by decide +kernel
    rw [this]; unfold Lim; omega
  refine (event_c { kind := 8, a := 1, b := 5 } (evCells 8 zEntry zRate zHolding zMatch zStock 1 5 ⟨#[]⟩) w hx h1 h2).mono ?_
  rw [awake_ev]
  rintro e w1 ⟨v, rfl, hn1⟩
  obtain ⟨A, c, rfl, _, _⟩ := hn1.1.form
  have hs1 := run_str (c := c) (hn1.1.rd (Q := fun _ => True) (fun _ _ => trivial)).2
  have hb := hn1.2.2
  have HN := Lib.hid hn1
  clear hx h1 h2 hn1
  have hs1' : (convert 22 9 (.slice A 3 c)).run Try.prog w1 = .ok (.string ⟨#[16, 2, 10]⟩) w1 := hs1
  clear hs1
  go_wp2_with fail
  refine (int_c 64 w1 (by omega) (by omega)).mono ?_
  rw [enc64]
  rintro e w2 ⟨v2, rfl, hn2⟩
  obtain ⟨A2, c2, rfl, _, _⟩ := hn2.1.form
  have hs2 : (convert 22 9 (.slice A2 2 c2)).run Try.prog w2 = .ok (.string ⟨#[128, 1]⟩) w2 := run_str (hn2.1.rd (Q := fun _ => True) (fun _ _ => trivial)).2
  clear hs1'
  go_wp2_with fail
  go_ret
  exact ⟨rfl, hb.trans (hn2.2.2.mono hb.size)⟩
end Go.Proofs.Ytgdibeegheddmaa

namespace Go.Proofs.Ytgdibeegheddmaa
open Go Go.RowKit
set_option linter.unusedVariables false

theorem Bytes.new (w : World) : Bytes (w.alloc (.cells #[] 5)) (.slice (some ⟨w.heap.size, 0, none⟩) 0 0) [] :=
  ⟨by simp [bv], .inr ⟨w.heap.size, 0, #[], rfl, Nat.zero_le _, heap_alloc_new w _, Nat.le_refl _, by simp [maxLen], by simp, by simp [bv]⟩⟩

set_option maxHeartbeats 400000 in
set_option maxRecDepth 100000 in
theorem clone_c (A : Option Addr) (c : Nat) (L : List UInt8) (w : World) (h : Rd w (· < w.heap.size) A L.length 1 (bv L)) (hl : L.length ≤ Lim) :
    Calls Try.prog 32 #[.slice A L.length c] w fun e w' => ∃ v, e = .returned v ∧ NewBytes w w' v L := by
  have he := Lib.run_eql_slice_nil (P := Try.prog) w 22 5 A L.length c 0 0 Try.underlying22
  rcases A with _ | a
  · have hL : L = [] := by
      rcases Nat.eq_zero_or_pos L.length with h0 | h0
      · exact List.eq_nil_of_length_eq_zero h0
      · obtain ⟨a, e, _⟩ := h.2 h0
        cases e
    subst hL
    have he : (binOp .eql 22 (.slice none 0 c) (.slice none 0 0)).run Try.prog w = .ok (.bool true) w := he
    change Calls Try.prog 32 #[.slice none 0 c] w _
    go_enter Try.func32, Try.ntmps32
    go_wp2_with fail
    go_ret
    exact ⟨_, rfl, Bytes.nil _, fun k hk => by simp [Value.ownBlock] at hk, Below.refl _ _⟩
  · go_enter Try.func32, Try.ntmps32
    go_wp2_with (at_builtin; go_loud (refine wpList_appB _ rfl (.tmp 5) (.tmp 6) rfl _ [] rfl (Bytes.new w) (· < w.heap.size) (some a) c L rfl (h.fr ((Fr.refl _ w).alloc (fun _ h => h) _)) (by simpa using hl) ?_); intro v1 w1 hby hg hat)
    go_ret
    refine ⟨v1, rfl, hby, fun k hk => ?_, ?_⟩
    · rcases hat with e | e
      · rw [e] at hk; have hk2 : some w.heap.size = some k := hk; injection hk2 with hk2; omega
      · rw [e] at hk; injection hk with hk; simp at hk; omega
    · exact (((Below.refl _ w).alloc (Nat.le_refl _) _).grown hg (by simp) fun k hk => by have hk2 : some w.heap.size = some k := hk; injection hk2 with hk2; omega)
end Go.Proofs.Ytgdibeegheddmaa
