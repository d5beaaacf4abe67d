/- The decoder of events, by kind, and its laws. Written by gen_i4.py. (joined: I4Event, O1TripLaws) -/
import Derived.Test.YtgdibeegheddmaaZIa
namespace Go.Proofs.Ytgdibeegheddmaa
open Go Go.RowKit
set_option linter.unusedVariables false
set_option linter.unusedSimpArgs false
def cAB : Cod (Int × Int) := Cod.pair cInt cInt
def cABT : Cod (Int × Int × ByteArray) := Cod.pair cInt (Cod.pair cInt cStr)
/-- The fields that belong to a kind. -/
def decF (k : Int) (l : List UInt8) : Option (XEvent × List UInt8) :=
  if k = 1 then (cEntry.dec l).map fun p => ({ kind := k, entry := p.1 }, p.2)
  else if k = 2 then (cRate.dec l).map fun p => ({ kind := k, rate := p.1 }, p.2)
  else if k = 3 then (cHolding.dec l).map fun p => ({ kind := k, holding := p.1 }, p.2)
  else if k = 4 then (cMatch.dec l).map fun p => ({ kind := k, match_ := p.1 }, p.2)
  else if k = 6 then (cStock.dec l).map fun p => ({ kind := k, stock := p.1 }, p.2)
  else if k = 5 ∨ k = 8 ∨ k = 9 then (cAB.dec l).map fun p => ({ kind := k, a := p.1.1, b := p.1.2 }, p.2)
  else if k = 7 then (cStr.dec l).map fun p => ({ kind := k, text := p.1 }, p.2)
  else if k = 10 then (cABT.dec l).map fun p => ({ kind := k, a := p.1.1, b := p.1.2.1, text := p.1.2.2 }, p.2)
  else none
def decEv (l : List UInt8) : Option (XEvent × List UInt8) := (decInt l).bind fun p => decF p.1 p.2
def stF (k : Int) (st : Option (List UInt8)) : Option (List UInt8) := (st.bind (decF k)).map (·.2)
def vlF (k : Int) (st : Option (List UInt8)) (x : XEvent) : Prop := ∀ p, st.bind (decF k) = some p → p.1 = x
theorem st_mapF {α : Type} {c : Cod α} {k : Int} {f : α → XEvent} (h : ∀ l, decF k l = (c.dec l).map fun p => (f p.1, p.2)) (st : Option (List UInt8)) : stF k st = c.st st := by
  cases st with
  | none => rfl
  | some l =>
    show Option.map (·.2) (decF k l) = Option.map (·.2) (c.dec l)
    rw [h]
    cases c.dec l <;> rfl
theorem vl_mapF {α : Type} {c : Cod α} {k : Int} {f : α → XEvent} (h : ∀ l, decF k l = (c.dec l).map fun p => (f p.1, p.2)) {st : Option (List UInt8)} {a : α} (hv : c.vl st a) : vlF k st (f a) := by
  intro p hp
  cases st with
  | none => cases hp
  | some l =>
    have hp' : decF k l = some p := hp
    rw [h, Option.map_eq_some_iff] at hp'
    obtain ⟨q, hq, rfl⟩ := hp'
    have := hv q hq
    simp [this]
theorem kinds {k : Int} (h : known k = true) : k = 1 ∨ k = 2 ∨ k = 3 ∨ k = 4 ∨ k = 5 ∨ k = 6 ∨ k = 7 ∨ k = 8 ∨ k = 9 ∨ k = 10 := by
  have h2 : 1 ≤ k ∧ k ≤ 10 := by simpa [known] using h
  omega
theorem decF_no {k : Int} (h : known k = false) (l : List UInt8) : decF k l = none := by
  have h2 : ¬ (1 ≤ k ∧ k ≤ 10) := by simpa [known] using h
  unfold decF
  rw [if_neg (by omega), if_neg (by omega), if_neg (by omega), if_neg (by omega), if_neg (by omega), if_neg (by omega), if_neg (by omega), if_neg (by omega)]
theorem decF_1 (l : List UInt8) : decF 1 l = (cEntry.dec l).map fun p => ({ kind := 1, entry := p.1 }, p.2) := by simp [decF]
theorem decF_2 (l : List UInt8) : decF 2 l = (cRate.dec l).map fun p => ({ kind := 2, rate := p.1 }, p.2) := by simp [decF]
theorem decF_3 (l : List UInt8) : decF 3 l = (cHolding.dec l).map fun p => ({ kind := 3, holding := p.1 }, p.2) := by simp [decF]
theorem decF_4 (l : List UInt8) : decF 4 l = (cMatch.dec l).map fun p => ({ kind := 4, match_ := p.1 }, p.2) := by simp [decF]
theorem decF_5 (l : List UInt8) : decF 5 l = (cAB.dec l).map fun p => ({ kind := 5, a := p.1.1, b := p.1.2 }, p.2) := by simp [decF]
theorem decF_6 (l : List UInt8) : decF 6 l = (cStock.dec l).map fun p => ({ kind := 6, stock := p.1 }, p.2) := by simp [decF]
theorem decF_7 (l : List UInt8) : decF 7 l = (cStr.dec l).map fun p => ({ kind := 7, text := p.1 }, p.2) := by simp [decF]
theorem decF_8 (l : List UInt8) : decF 8 l = (cAB.dec l).map fun p => ({ kind := 8, a := p.1.1, b := p.1.2 }, p.2) := by simp [decF]
theorem decF_9 (l : List UInt8) : decF 9 l = (cAB.dec l).map fun p => ({ kind := 9, a := p.1.1, b := p.1.2 }, p.2) := by simp [decF]
theorem decF_10 (l : List UInt8) : decF 10 l = (cABT.dec l).map fun p => ({ kind := 10, a := p.1.1, b := p.1.2.1, text := p.1.2.2 }, p.2) := by simp [decF]
theorem decF_fwd {x : XEvent} (hk : known x.kind = true) (ho : ownEv x = x) (hok : cEvent.ok x) (r : List UInt8) : decF x.kind (encFields x ++ r) = some (x, r) := by
  obtain ⟨h1, h2, h3, h4, h5, h6, h7, h8, h9⟩ := hok
  rcases kinds hk with h | h | h | h | h | h | h | h | h | h
  · have e1 : encFields x = encEntry x.entry := by simp [encFields, h]
    have e2 : x = { kind := 1, entry := x.entry } := by rw [← ho]; simp [ownEv, h]
    have e3 := cEntry.fwd x.entry r h2
    rw [h, decF_1, e1]
    have e4 : cEntry.dec (encEntry x.entry ++ r) = some (x.entry, r) := by rw [← e3]; rfl
    rw [e4]
    exact congrArg (fun y => some (y, r)) e2.symm
  · have e1 : encFields x = encRate x.rate := by simp [encFields, h]
    have e2 : x = { kind := 2, rate := x.rate } := by rw [← ho]; simp [ownEv, h]
    have e3 := cRate.fwd x.rate r h3
    rw [h, decF_2, e1]
    have e4 : cRate.dec (encRate x.rate ++ r) = some (x.rate, r) := by rw [← e3]; rfl
    rw [e4]
    exact congrArg (fun y => some (y, r)) e2.symm
  · have e1 : encFields x = encHolding x.holding := by simp [encFields, h]
    have e2 : x = { kind := 3, holding := x.holding } := by rw [← ho]; simp [ownEv, h]
    have e3 := cHolding.fwd x.holding r h4
    rw [h, decF_3, e1]
    have e4 : cHolding.dec (encHolding x.holding ++ r) = some (x.holding, r) := by rw [← e3]; rfl
    rw [e4]
    exact congrArg (fun y => some (y, r)) e2.symm
  · have e1 : encFields x = encMatch x.match_ := by simp [encFields, h]
    have e2 : x = { kind := 4, match_ := x.match_ } := by rw [← ho]; simp [ownEv, h]
    have e3 := cMatch.fwd x.match_ r h5
    rw [h, decF_4, e1]
    have e4 : cMatch.dec (encMatch x.match_ ++ r) = some (x.match_, r) := by rw [← e3]; rfl
    rw [e4]
    exact congrArg (fun y => some (y, r)) e2.symm
  · have e1 : encFields x = enc x.a ++ enc x.b := by simp [encFields, h]
    have e2 : x = { kind := 5, a := x.a, b := x.b } := by rw [← ho]; simp [ownEv, h]
    have e3 := cAB.fwd (x.a, x.b) r ⟨h7, h8⟩
    rw [h, decF_5, e1]
    have e4 : cAB.dec (enc x.a ++ enc x.b ++ r) = some ((x.a, x.b), r) := by rw [← e3]; rfl
    rw [e4]
    exact congrArg (fun y => some (y, r)) e2.symm
  · have e1 : encFields x = encStock x.stock := by simp [encFields, h]
    have e2 : x = { kind := 6, stock := x.stock } := by rw [← ho]; simp [ownEv, h]
    have e3 := cStock.fwd x.stock r h6
    rw [h, decF_6, e1]
    have e4 : cStock.dec (encStock x.stock ++ r) = some (x.stock, r) := by rw [← e3]; rfl
    rw [e4]
    exact congrArg (fun y => some (y, r)) e2.symm
  · have e1 : encFields x = encS x.text := by simp [encFields, h]
    have e2 : x = { kind := 7, text := x.text } := by rw [← ho]; simp [ownEv, h]
    have e3 := cStr.fwd x.text r h9
    rw [h, decF_7, e1]
    have e4 : cStr.dec (encS x.text ++ r) = some (x.text, r) := by rw [← e3]; rfl
    rw [e4]
    exact congrArg (fun y => some (y, r)) e2.symm
  · have e1 : encFields x = enc x.a ++ enc x.b := by simp [encFields, h]
    have e2 : x = { kind := 8, a := x.a, b := x.b } := by rw [← ho]; simp [ownEv, h]
    have e3 := cAB.fwd (x.a, x.b) r ⟨h7, h8⟩
    rw [h, decF_8, e1]
    have e4 : cAB.dec (enc x.a ++ enc x.b ++ r) = some ((x.a, x.b), r) := by rw [← e3]; rfl
    rw [e4]
    exact congrArg (fun y => some (y, r)) e2.symm
  · have e1 : encFields x = enc x.a ++ enc x.b := by simp [encFields, h]
    have e2 : x = { kind := 9, a := x.a, b := x.b } := by rw [← ho]; simp [ownEv, h]
    have e3 := cAB.fwd (x.a, x.b) r ⟨h7, h8⟩
    rw [h, decF_9, e1]
    have e4 : cAB.dec (enc x.a ++ enc x.b ++ r) = some ((x.a, x.b), r) := by rw [← e3]; rfl
    rw [e4]
    exact congrArg (fun y => some (y, r)) e2.symm
  · have e1 : encFields x = enc x.a ++ enc x.b ++ encS x.text := by simp [encFields, h]
    have e2 : x = { kind := 10, a := x.a, b := x.b, text := x.text } := by rw [← ho]; simp [ownEv, h]
    have e3 := cABT.fwd (x.a, x.b, x.text) r ⟨h7, h8, h9⟩
    rw [h, decF_10, e1]
    have e4 : cABT.dec (enc x.a ++ enc x.b ++ encS x.text ++ r) = some ((x.a, x.b, x.text), r) := by rw [← e3]; rw [show enc x.a ++ enc x.b ++ encS x.text = cABT.enc (x.a, x.b, x.text) from by rw [List.append_assoc]; rfl]
    rw [e4]
    exact congrArg (fun y => some (y, r)) e2.symm
theorem decF_bwd {k : Int} {l r : List UInt8} {x : XEvent} (hk : known k = true) (hkb : intBd k) (h : decF k l = some (x, r)) : l = encFields x ++ r ∧ x.kind = k ∧ ownEv x = x ∧ cEvent.ok x := by
  have z1 := okZEntry
  have z2 := okZRate
  have z3 := okZHolding
  have z4 := okZMatch
  have z5 := okZStock
  have z6 : cInt.ok 0 := bd0
  have z9 : cStr.ok ByteArray.empty := intBd_nat (n := 0) (by omega)
  rcases kinds hk with hh | hh | hh | hh | hh | hh | hh | hh | hh | hh
  · subst hh
    rw [decF_1, Option.map_eq_some_iff] at h
    obtain ⟨p, h1, h2⟩ := h
    simp only [Prod.mk.injEq] at h2
    obtain ⟨rfl, rfl⟩ := h2
    obtain ⟨g1, g2⟩ := cEntry.bwd _ _ _ h1
    refine ⟨?_, rfl, by simp [ownEv], hkb, g2, z2, z3, z4, z5, z6, z6, z9⟩
    rw [g1]
    simp [encFields]; rfl
  · subst hh
    rw [decF_2, Option.map_eq_some_iff] at h
    obtain ⟨p, h1, h2⟩ := h
    simp only [Prod.mk.injEq] at h2
    obtain ⟨rfl, rfl⟩ := h2
    obtain ⟨g1, g2⟩ := cRate.bwd _ _ _ h1
    refine ⟨?_, rfl, by simp [ownEv], hkb, z1, g2, z3, z4, z5, z6, z6, z9⟩
    rw [g1]
    simp [encFields]; rfl
  · subst hh
    rw [decF_3, Option.map_eq_some_iff] at h
    obtain ⟨p, h1, h2⟩ := h
    simp only [Prod.mk.injEq] at h2
    obtain ⟨rfl, rfl⟩ := h2
    obtain ⟨g1, g2⟩ := cHolding.bwd _ _ _ h1
    refine ⟨?_, rfl, by simp [ownEv], hkb, z1, z2, g2, z4, z5, z6, z6, z9⟩
    rw [g1]
    simp [encFields]; rfl
  · subst hh
    rw [decF_4, Option.map_eq_some_iff] at h
    obtain ⟨p, h1, h2⟩ := h
    simp only [Prod.mk.injEq] at h2
    obtain ⟨rfl, rfl⟩ := h2
    obtain ⟨g1, g2⟩ := cMatch.bwd _ _ _ h1
    refine ⟨?_, rfl, by simp [ownEv], hkb, z1, z2, z3, g2, z5, z6, z6, z9⟩
    rw [g1]
    simp [encFields]; rfl
  · subst hh
    rw [decF_5, Option.map_eq_some_iff] at h
    obtain ⟨p, h1, h2⟩ := h
    simp only [Prod.mk.injEq] at h2
    obtain ⟨rfl, rfl⟩ := h2
    obtain ⟨g1, g2⟩ := cAB.bwd _ _ _ h1
    refine ⟨?_, rfl, by simp [ownEv], hkb, z1, z2, z3, z4, z5, g2.1, g2.2, z9⟩
    rw [g1]
    simp [encFields, cAB, cABT, Cod.pair]; rfl
  · subst hh
    rw [decF_6, Option.map_eq_some_iff] at h
    obtain ⟨p, h1, h2⟩ := h
    simp only [Prod.mk.injEq] at h2
    obtain ⟨rfl, rfl⟩ := h2
    obtain ⟨g1, g2⟩ := cStock.bwd _ _ _ h1
    refine ⟨?_, rfl, by simp [ownEv], hkb, z1, z2, z3, z4, g2, z6, z6, z9⟩
    rw [g1]
    simp [encFields]; rfl
  · subst hh
    rw [decF_7, Option.map_eq_some_iff] at h
    obtain ⟨p, h1, h2⟩ := h
    simp only [Prod.mk.injEq] at h2
    obtain ⟨rfl, rfl⟩ := h2
    obtain ⟨g1, g2⟩ := cStr.bwd _ _ _ h1
    refine ⟨?_, rfl, by simp [ownEv], hkb, z1, z2, z3, z4, z5, z6, z6, g2⟩
    rw [g1]
    simp [encFields]; rfl
  · subst hh
    rw [decF_8, Option.map_eq_some_iff] at h
    obtain ⟨p, h1, h2⟩ := h
    simp only [Prod.mk.injEq] at h2
    obtain ⟨rfl, rfl⟩ := h2
    obtain ⟨g1, g2⟩ := cAB.bwd _ _ _ h1
    refine ⟨?_, rfl, by simp [ownEv], hkb, z1, z2, z3, z4, z5, g2.1, g2.2, z9⟩
    rw [g1]
    simp [encFields, cAB, cABT, Cod.pair]; rfl
  · subst hh
    rw [decF_9, Option.map_eq_some_iff] at h
    obtain ⟨p, h1, h2⟩ := h
    simp only [Prod.mk.injEq] at h2
    obtain ⟨rfl, rfl⟩ := h2
    obtain ⟨g1, g2⟩ := cAB.bwd _ _ _ h1
    refine ⟨?_, rfl, by simp [ownEv], hkb, z1, z2, z3, z4, z5, g2.1, g2.2, z9⟩
    rw [g1]
    simp [encFields, cAB, cABT, Cod.pair]; rfl
  · subst hh
    rw [decF_10, Option.map_eq_some_iff] at h
    obtain ⟨p, h1, h2⟩ := h
    simp only [Prod.mk.injEq] at h2
    obtain ⟨rfl, rfl⟩ := h2
    obtain ⟨g1, g2⟩ := cABT.bwd _ _ _ h1
    refine ⟨?_, rfl, by simp [ownEv], hkb, z1, z2, z3, z4, z5, g2.1, g2.2.1, g2.2.2⟩
    rw [g1]
    simp [encFields, cAB, cABT, Cod.pair]; rfl
theorem decEv_fwd {x : XEvent} (hk : known x.kind = true) (ho : ownEv x = x) (hok : cEvent.ok x) (r : List UInt8) : decEv (encEv x ++ r) = some (x, r) := by
  have h1 := cInt.fwd x.kind (encFields x ++ r) hok.1
  unfold decEv encEv
  rw [List.append_assoc, show decInt (enc x.kind ++ (encFields x ++ r)) = some (x.kind, encFields x ++ r) from h1]
  exact decF_fwd hk ho hok r
theorem decEv_bwd {l r : List UInt8} {x : XEvent} (h : decEv l = some (x, r)) : l = encEv x ++ r ∧ known x.kind = true ∧ ownEv x = x ∧ cEvent.ok x := by
  unfold decEv at h
  rw [Option.bind_eq_some_iff] at h
  obtain ⟨p, h1, h2⟩ := h
  obtain ⟨g1, g2⟩ := cInt.bwd _ _ _ h1
  have hk : known p.1 = true := by
    cases hk : known p.1 with
    | true => rfl
    | false => rw [decF_no hk] at h2; cases h2
  obtain ⟨e1, e2, e3, e4⟩ := decF_bwd hk g2 h2
  refine ⟨?_, by rw [e2]; exact hk, e3, e4⟩
  rw [g1, e1]
  unfold encEv
  rw [e2, List.append_assoc]; rfl
/-- What ParseEvent answers. -/
def parseEv (b : List UInt8) : Option XEvent := if 65536 < b.length then none else match decEv b with
  | some (x, []) => some x
  | _ => none
theorem parseEv_some {b : List UInt8} {x : XEvent} (h : parseEv b = some x) : b = encEv x ∧ b.length ≤ 65536 ∧ known x.kind = true ∧ ownEv x = x ∧ cEvent.ok x := by
  unfold parseEv at h
  by_cases hl : 65536 < b.length
  · rw [if_pos hl] at h; cases h
  · rw [if_neg hl] at h
    split at h
    · rename_i y hd
      injection h with h
      subst h
      obtain ⟨e1, e2, e3, e4⟩ := decEv_bwd hd
      exact ⟨by simpa using e1, by omega, e2, e3, e4⟩
    · cases h
theorem parseEv_enc {x : XEvent} (hk : known x.kind = true) (ho : ownEv x = x) (hok : cEvent.ok x) (hl : (encEv x).length ≤ 65536) : parseEv (encEv x) = some x := by
  have h := decEv_fwd hk ho hok []
  rw [List.append_nil] at h
  unfold parseEv
  rw [if_neg (by omega), h]
end Go.Proofs.Ytgdibeegheddmaa

namespace Go.Proofs.Ytgdibeegheddmaa
open Go Go.RowKit
set_option linter.unusedVariables false
set_option linter.unusedSimpArgs false
theorem lenZEntry : (encEntry {}).length ≤ 100 := by
  have := enc_len 0
  simp only [encEntry, encL, encS, sb, List.length_append, List.flatMap_nil, List.length_nil]
  have e : (ByteArray.empty.data.toList : List UInt8) = [] := rfl
  have e2 : enc ((ByteArray.empty.size : Nat) : Int) = enc 0 := rfl
  have e3 : enc (((0 : Nat)) : Int) = enc 0 := rfl
  simp only [e, e2, e3, List.length_nil]
  omega
theorem lenZRate : (encRate {}).length ≤ 100 := by
  have := enc_len 0
  simp only [encRate, encS, sb, List.length_append]
  have e : (ByteArray.empty.data.toList : List UInt8) = [] := rfl
  have e2 : enc ((ByteArray.empty.size : Nat) : Int) = enc 0 := rfl
  simp only [e, e2, List.length_nil]
  omega
theorem lenZHolding : (encHolding {}).length ≤ 100 := by
  have := enc_len 0
  simp only [encHolding, List.length_append]
  omega
theorem lenZMatch : (encMatch {}).length ≤ 100 := by
  have := enc_len 0
  have e3 : enc (((0 : Nat)) : Int) = enc 0 := rfl
  simp only [encMatch, encL, List.length_append, List.flatMap_nil, List.length_nil, e3]
  omega
theorem lenZStock : (encStock {}).length ≤ 100 := by
  have := enc_len 0
  simp only [encStock, List.length_append]
  omega
theorem lenZText : (encS ByteArray.empty).length ≤ 10 := by
  have := enc_len 0
  have e : (ByteArray.empty.data.toList : List UInt8) = [] := rfl
  have e2 : enc ((ByteArray.empty.size : Nat) : Int) = enc 0 := rfl
  simp only [encS, sb, List.length_append, e, e2, List.length_nil]
  omega
theorem own_all_len {x : XEvent} (ho : ownEv x = x) : (encAll x).length ≤ (encEv x).length + 1000 := by
  have h0 := enc_len 0
  have h1 := lenZEntry
  have h2 := lenZRate
  have h3 := lenZHolding
  have h4 := lenZMatch
  have h5 := lenZStock
  have h6 := lenZText
  have hk := enc_len x.kind
  have f1 : (encAll x).length = (enc x.kind).length + (enc x.a).length + (enc x.b).length + (encEntry x.entry).length + (encRate x.rate).length + (encHolding x.holding).length + (encMatch x.match_).length + (encStock x.stock).length + (encS x.text).length := by
    simp only [encAll, List.length_append]
  have f2 : (encEv x).length = (enc x.kind).length + (encFields x).length := by simp only [encEv, List.length_append]
  rw [f1, f2]
  have g1 : x.kind ≠ 1 → x.entry = {} := fun h => by rw [← ho]; unfold ownEv; rw [if_neg h]; (repeat' split) <;> rfl
  have g2 : x.kind ≠ 2 → x.rate = {} := fun h => by rw [← ho]; unfold ownEv; simp only [if_neg h]; (repeat' split) <;> rfl
  have g3 : x.kind ≠ 3 → x.holding = {} := fun h => by rw [← ho]; unfold ownEv; simp only [if_neg h]; (repeat' split) <;> rfl
  have g4 : x.kind ≠ 4 → x.match_ = {} := fun h => by rw [← ho]; unfold ownEv; simp only [if_neg h]; (repeat' split) <;> rfl
  have g6 : x.kind ≠ 6 → x.stock = {} := fun h => by rw [← ho]; unfold ownEv; simp only [if_neg h]; (repeat' split) <;> rfl
  have gt : x.kind ≠ 7 ∧ x.kind ≠ 10 → x.text = ByteArray.empty := fun h => by rw [← ho]; unfold ownEv; simp only [if_neg h.1, if_neg h.2]; (repeat' split) <;> rfl
  have ha := enc_len x.a
  have hb := enc_len x.b
  have k1 : x.kind = 1 ∨ (encEntry x.entry).length ≤ 100 := by
    by_cases h : x.kind = 1
    · exact .inl h
    · exact .inr (by rw [g1 h]; exact h1)
  have k2 : x.kind = 2 ∨ (encRate x.rate).length ≤ 100 := by
    by_cases h : x.kind = 2
    · exact .inl h
    · exact .inr (by rw [g2 h]; exact h2)
  have k3 : x.kind = 3 ∨ (encHolding x.holding).length ≤ 100 := by
    by_cases h : x.kind = 3
    · exact .inl h
    · exact .inr (by rw [g3 h]; exact h3)
  have k4 : x.kind = 4 ∨ (encMatch x.match_).length ≤ 100 := by
    by_cases h : x.kind = 4
    · exact .inl h
    · exact .inr (by rw [g4 h]; exact h4)
  have k6 : x.kind = 6 ∨ (encStock x.stock).length ≤ 100 := by
    by_cases h : x.kind = 6
    · exact .inl h
    · exact .inr (by rw [g6 h]; exact h5)
  have kt : x.kind = 7 ∨ x.kind = 10 ∨ (encS x.text).length ≤ 10 := by
    by_cases h : x.kind = 7
    · exact .inl h
    · by_cases h' : x.kind = 10
      · exact .inr (.inl h')
      · exact .inr (.inr (by rw [gt ⟨h, h'⟩]; exact h6))
  unfold encFields
  split
  · omega
  · split
    · omega
    · split
      · omega
      · split
        · omega
        · split
          · omega
          · split
            · omega
            · split
              · omega
              · split
                · simp only [List.length_append]; omega
                · omega
theorem proper_iff {x : XEvent} (hx : cEvent.ok x) : properB x = true ↔ known x.kind = true ∧ ownEv x = x := by
  unfold properB
  rw [Bool.and_eq_true, decide_eq_true_iff, all_iff hx (okOwn hx)]
  exact ⟨fun h => ⟨h.1, h.2.symm⟩, fun h => ⟨h.1, h.2.symm⟩⟩
/-- An event that is written is parsed again. -/
theorem eventR_ok {x : XEvent} {R : List UInt8} (hx : cEvent.ok x) (h : eventR x = (R, 0)) : R = encEv x ∧ R.length ≤ 65536 ∧ parseEv R = some x := by
  unfold eventR at h
  by_cases hp : properB x = true
  · rw [if_pos hp] at h
    by_cases hl : 65536 < (encEv x).length
    · rw [if_pos hl] at h
      injection h with _ h
      cases h
    · rw [if_neg hl] at h
      injection h with h _
      obtain ⟨h1, h2⟩ := (proper_iff hx).1 hp
      subst h
      exact ⟨rfl, by omega, parseEv_enc h1 h2 hx (by omega)⟩
  · rw [if_neg hp] at h
    injection h with _ h
    cases h
/-- What is parsed is written again. -/
theorem eventR_of {x : XEvent} {L : List UInt8} (h : parseEv L = some x) : eventR x = (L, 0) ∧ (encAll x).length ≤ 70000 ∧ (encEv x).length ≤ 65536 := by
  obtain ⟨h1, h2, h3, h4, h5⟩ := parseEv_some h
  have hp : properB x = true := (proper_iff h5).2 ⟨h3, h4⟩
  have hl := own_all_len h4
  rw [← h1] at hl
  refine ⟨?_, by omega, by rw [← h1]; exact h2⟩
  unfold eventR
  rw [if_pos hp, ← h1, if_neg (by omega)]
/-- Different events have different bytes. -/
theorem eventR_inj {x y : XEvent} {R S : List UInt8} (hx : cEvent.ok x) (hy : cEvent.ok y) (h1 : eventR x = (R, 0)) (h2 : eventR y = (S, 0)) : ((bstr R).toList == (bstr S).toList) = decide (encAll x = encAll y) := by
  obtain ⟨_, _, p1⟩ := eventR_ok hx h1
  obtain ⟨_, _, p2⟩ := eventR_ok hy h2
  rw [bstr_beq, Bool.eq_iff_iff, decide_eq_true_iff, decide_eq_true_iff, all_iff hx hy]
  constructor
  · intro h
    subst h
    rw [p1] at p2
    injection p2
  · rintro rfl
    rw [h1] at h2
    injection h2 with h2 _
theorem fewZ : Few {} := ⟨by simp, by show (0 : Nat) ≤ _; omega, by show (0 : Nat) ≤ _; omega, by simp, by simp, by show (0 : Nat) ≤ _; omega⟩
end Go.Proofs.Ytgdibeegheddmaa
