/- codec.Proper: an event whose other fields are zero. Written by gen_proper.py. -/
import Derived.Test.YtgdibeegheddmaaYEa
import Derived.Deep.CutRange
import Derived.RegionTactic
import Derived.BigRegion
namespace Go.Proofs.Ytgdibeegheddmaa
open Go Go.RowKit
set_option linter.unusedVariables false
set_option linter.unusedSimpArgs false
attribute [local go_sem ↓] Go.wp_at_zero Go.wp_at_succ
theorem info45 : (Try.prog.info? 45).map (·.size) = some 28 := by kernel_rfl
theorem info34 : (Try.prog.info? 34).map (·.size) = some 7 := by kernel_rfl
theorem info36 : (Try.prog.info? 36).map (·.size) = some 4 := by kernel_rfl
theorem info38 : (Try.prog.info? 38).map (·.size) = some 4 := by kernel_rfl
theorem info41 : (Try.prog.info? 41).map (·.size) = some 4 := by kernel_rfl
theorem info43 : (Try.prog.info? 43).map (·.size) = some 5 := by kernel_rfl

/-- The event with the fields of its kind alone. -/
def ownEv (x : XEvent) : XEvent :=
  if x.kind = 1 then { kind := x.kind, entry := x.entry } else if x.kind = 2 then { kind := x.kind, rate := x.rate } else if x.kind = 3 then { kind := x.kind, holding := x.holding }
  else if x.kind = 4 then { kind := x.kind, match_ := x.match_ } else if x.kind = 6 then { kind := x.kind, stock := x.stock } else if x.kind = 5 ∨ x.kind = 8 ∨ x.kind = 9 then { kind := x.kind, a := x.a, b := x.b }
  else if x.kind = 7 then { kind := x.kind, text := x.text } else if x.kind = 10 then { kind := x.kind, a := x.a, b := x.b, text := x.text } else { kind := x.kind }
def properB (x : XEvent) : Bool := known x.kind && decide (encAll x = encAll (ownEv x))

theorem putAt_head (v : Value) (xs ys zs vs : List Value) : ∀ (o : Nat), o = xs.length → ys.length = vs.length → putAt (xs ++ ys ++ zs) o vs = xs ++ vs ++ zs := by
  induction vs generalizing xs ys with
  | nil => intro o _ h; have : ys = [] := List.eq_nil_of_length_eq_zero h; subst this; rfl
  | cons u vs ih =>
    intro o ho h
    match ys, h with
    | y :: ys, h =>
      have e : (xs ++ y :: ys ++ zs).set o u = (xs ++ [u]) ++ ys ++ zs := by subst ho; simp
      show putAt ((xs ++ y :: ys ++ zs).set o u) (o + 1) vs = _
      rw [e, ih (xs ++ [u]) ys (o + 1) (by simp [ho]) (by simpa using h)]
      simp

theorem intC0 (n : Int) (h : intBd n) : IntC [.int .i64 n] n := ⟨rfl, h⟩
theorem bd0 : intBd 0 := by unfold intBd; omega
theorem listC0 {α : Type} (El : World → (Nat → Prop) → List Value → α → Prop) (size : Nat) (w : World) (Q : Nat → Prop) : ListC El size w Q [.slice none 0 0] ([] : List α) :=
  ⟨none, 0, rfl, by simp, by simp [maxLen], fun h => absurd h (by simp)⟩
theorem EntryC.one {w : World} {Q : Nat → Prop} {cs : List Value} {x : XEntry} (h : EntryC w Q cs x) : cs.toArray.all (·.oneCell') = true := by
  obtain ⟨_, _, _, _, _, _, _, rfl, ⟨rfl, _⟩, ⟨rfl, _⟩, ⟨rfl, _⟩, ⟨rfl, _⟩, ⟨rfl, _⟩, hs, ⟨A, c, rfl, _⟩⟩ := h
  cases hs; simp [Value.oneCell']
theorem RateC.one {w : World} {Q : Nat → Prop} {cs : List Value} {x : XRate} (h : RateC w Q cs x) : cs.toArray.all (·.oneCell') = true := by
  obtain ⟨_, _, _, _, rfl, hs, ⟨rfl, _⟩, ⟨rfl, _⟩, ⟨rfl, _⟩⟩ := h
  cases hs; simp [Value.oneCell']
theorem HoldingC.one {w : World} {Q : Nat → Prop} {cs : List Value} {x : XHolding} (h : HoldingC w Q cs x) : cs.toArray.all (·.oneCell') = true := by
  obtain ⟨_, _, _, _, rfl, ⟨rfl, _⟩, ⟨rfl, _⟩, ⟨rfl, _⟩, ⟨rfl, _⟩⟩ := h
  simp [Value.oneCell']
theorem MatchC.one {w : World} {Q : Nat → Prop} {cs : List Value} {x : XMatch} (h : MatchC w Q cs x) : cs.toArray.all (·.oneCell') = true := by
  obtain ⟨_, _, _, _, rfl, ⟨rfl, _⟩, ⟨A, c, rfl, _⟩, ⟨B, d, rfl, _⟩, ⟨rfl, _⟩⟩ := h
  simp [Value.oneCell']
theorem StockC.one {w : World} {Q : Nat → Prop} {cs : List Value} {x : XStock} (h : StockC w Q cs x) : cs.toArray.all (·.oneCell') = true := by
  obtain ⟨_, _, _, _, _, rfl, ⟨rfl, _⟩, ⟨rfl, _⟩, ⟨rfl, _⟩, ⟨rfl, _⟩, ⟨rfl, _⟩⟩ := h
  simp [Value.oneCell']
def zEntry : List Value := [.int .i64 0, .int .i64 0, .int .i64 0, .int .i64 0, .int .i64 0, .string ⟨#[]⟩, .slice none 0 0]
def zRate : List Value := [.string ⟨#[]⟩, .int .i64 0, .int .i64 0, .int .i64 0]
def zHolding : List Value := [.int .i64 0, .int .i64 0, .int .i64 0, .int .i64 0]
def zMatch : List Value := [.int .i64 0, .slice none 0 0, .slice none 0 0, .int .i64 0]
def zStock : List Value := [.int .i64 0, .int .i64 0, .int .i64 0, .int .i64 0, .int .i64 0]
theorem zEntryC (w : World) (Q : Nat → Prop) : EntryC w Q zEntry {} := ⟨_, _, _, _, _, _, _, rfl, intC0 0 bd0, intC0 0 bd0, intC0 0 bd0, intC0 0 bd0, intC0 0 bd0, rfl, listC0 _ _ _ _⟩
theorem zRateC (w : World) (Q : Nat → Prop) : RateC w Q zRate {} := ⟨_, _, _, _, rfl, rfl, intC0 0 bd0, intC0 0 bd0, intC0 0 bd0⟩
theorem zHoldingC (w : World) (Q : Nat → Prop) : HoldingC w Q zHolding {} := ⟨_, _, _, _, rfl, intC0 0 bd0, intC0 0 bd0, intC0 0 bd0, intC0 0 bd0⟩
theorem zMatchC (w : World) (Q : Nat → Prop) : MatchC w Q zMatch {} := ⟨_, _, _, _, rfl, intC0 0 bd0, listC0 _ _ _ _, listC0 _ _ _ _, intC0 0 bd0⟩
theorem zStockC (w : World) (Q : Nat → Prop) : StockC w Q zStock {} := ⟨_, _, _, _, _, rfl, intC0 0 bd0, intC0 0 bd0, intC0 0 bd0, intC0 0 bd0, intC0 0 bd0⟩
/-- An event's cells out of the cells of its fields. -/
def evCells (k : Int) (c1 c2 c3 c4 c5 : List Value) (a b : Int) (s : ByteArray) : List Value := [.int .i64 k] ++ c1 ++ c2 ++ c3 ++ c4 ++ c5 ++ [.int .i64 a] ++ [.int .i64 b] ++ [.string s]
theorem evC {w : World} {Q : Nat → Prop} {k a b : Int} {c1 c2 c3 c4 c5 : List Value} {s : ByteArray} {e : XEntry} {r : XRate} {h : XHolding} {m : XMatch} {t : XStock}
    (hk : intBd k) (h1 : EntryC w Q c1 e) (h2 : RateC w Q c2 r) (h3 : HoldingC w Q c3 h) (h4 : MatchC w Q c4 m) (h5 : StockC w Q c5 t) (ha : intBd a) (hb : intBd b) :
    EventC w Q (evCells k c1 c2 c3 c4 c5 a b s) { kind := k, entry := e, rate := r, holding := h, match_ := m, stock := t, a := a, b := b, text := s } :=
  ⟨_, _, _, _, _, _, _, _, _, rfl, intC0 k hk, h1, h2, h3, h4, h5, intC0 a ha, intC0 b hb, rfl⟩
theorem EventC.drew_ {w : World} {Q : Nat → Prop} {cs : List Value} {x : XEvent} (h : EventC w Q cs x) : EventC w.drew Q cs x := h.fr ⟨rfl, rfl, rfl, Nat.le_refl _, fun _ _ => rfl⟩
theorem own_len (x : XEvent) : (encAll (ownEv x)).length ≤ (encAll x).length + 100 := by
  have e1 : (encEntry {}).length = 7 := by decide
  have e2 : (encRate {}).length = 4 := by decide
  have e3 : (encHolding {}).length = 4 := by decide
  have e4 : (encMatch {}).length = 4 := by decide
  have e5 : (encStock {}).length = 5 := by decide
  have e6 : (enc 0).length = 1 := by decide
  have e7 : (encS ⟨#[]⟩).length = 1 := by decide
  have e8 : (encS ByteArray.empty).length = 1 := e7
  unfold ownEv encAll
  (repeat' split) <;> simp only [List.length_append, e1, e2, e3, e4, e5, e6, e7, e8] <;> omega

set_option maxHeartbeats 1000000 in
set_option maxRecDepth 100000 in
theorem proper_0 (x : XEvent) (cx : List Value) (w : World) (hx : EventC w (· < w.heap.size) cx x) (hLx : (encAll x).length + 100 ≤ Lim) (hk : known x.kind = false) :
    Calls Try.prog 19 #[.agg cx.toArray] w fun e w' => e = .returned (.bool false) ∧ Below w.heap.size w w' := by
  have hk' : ¬ (1 ≤ x.kind ∧ x.kind ≤ 10) := by simpa [known] using hk
  obtain ⟨hk0, hkb⟩ : cx[0]? = some (.int .i64 x.kind) ∧ intBd x.kind := by
    obtain ⟨_, _, _, _, _, _, _, _, _, rfl, ⟨rfl, k0⟩, _⟩ := hx
    exact ⟨rfl, k0⟩
  have e1 : (x.kind == 1) = false := by simp; omega
  have e2 : (x.kind == 2) = false := by simp; omega
  have e3 : (x.kind == 3) = false := by simp; omega
  have e4 : (x.kind == 4) = false := by simp; omega
  have e5 : (x.kind == 5) = false := by simp; omega
  have e6 : (x.kind == 6) = false := by simp; omega
  have e7 : (x.kind == 7) = false := by simp; omega
  have e8 : (x.kind == 8) = false := by simp; omega
  have e9 : (x.kind == 9) = false := by simp; omega
  have e10 : (x.kind == 10) = false := by simp; omega
  clear hk' hk hLx hx
  go_enter Try.func19, Try.ntmps19
  go_upto_region 2 with (refine wpList_store_row rfl 45 (.tmp 3) (.tmp 6) rfl (w.heap.size + 1) _ rfl rfl 45 _ (heap2 w _ _).2.1 info45 rfl (by simp only [List.all_toArray, List.all_cons, List.all_nil, Value.oneCell', Bool.and_true]) ?_)
  generalize hW : World.setRow ((w.alloc (.cells cx.toArray 45)).alloc (.cells #[.int .i64 0, .int .i64 0, .int .i64 0, .int .i64 0, .int .i64 0, .int .i64 0, .string ⟨#[]⟩, .slice none 0 0, .string ⟨#[]⟩, .int .i64 0, .int .i64 0, .int .i64 0, .int .i64 0, .int .i64 0, .int .i64 0, .int .i64 0, .int .i64 0, .slice none 0 0, .slice none 0 0, .int .i64 0, .int .i64 0, .int .i64 0, .int .i64 0, .int .i64 0, .int .i64 0, .int .i64 0, .int .i64 0, .string ⟨#[]⟩] 45)) (w.heap.size + 1) #[.int .i64 x.kind, .int .i64 0, .int .i64 0, .int .i64 0, .int .i64 0, .int .i64 0, .string ⟨#[]⟩, .slice none 0 0, .string ⟨#[]⟩, .int .i64 0, .int .i64 0, .int .i64 0, .int .i64 0, .int .i64 0, .int .i64 0, .int .i64 0, .int .i64 0, .slice none 0 0, .slice none 0 0, .int .i64 0, .int .i64 0, .int .i64 0, .int .i64 0, .int .i64 0, .int .i64 0, .int .i64 0, .int .i64 0, .string ⟨#[]⟩] = W
  have hh2 := heap2 w (.cells cx.toArray 45) (.cells #[.int .i64 0, .int .i64 0, .int .i64 0, .int .i64 0, .int .i64 0, .int .i64 0, .string ⟨#[]⟩, .slice none 0 0, .string ⟨#[]⟩, .int .i64 0, .int .i64 0, .int .i64 0, .int .i64 0, .int .i64 0, .int .i64 0, .int .i64 0, .int .i64 0, .slice none 0 0, .slice none 0 0, .int .i64 0, .int .i64 0, .int .i64 0, .int .i64 0, .int .i64 0, .int .i64 0, .int .i64 0, .int .i64 0, .string ⟨#[]⟩] 45)
  have fW : Fr (fun k => k ≠ w.heap.size + 1) ((w.alloc (.cells cx.toArray 45)).alloc (.cells #[.int .i64 0, .int .i64 0, .int .i64 0, .int .i64 0, .int .i64 0, .int .i64 0, .string ⟨#[]⟩, .slice none 0 0, .string ⟨#[]⟩, .int .i64 0, .int .i64 0, .int .i64 0, .int .i64 0, .int .i64 0, .int .i64 0, .int .i64 0, .int .i64 0, .slice none 0 0, .slice none 0 0, .int .i64 0, .int .i64 0, .int .i64 0, .int .i64 0, .int .i64 0, .int .i64 0, .int .i64 0, .int .i64 0, .string ⟨#[]⟩] 45)) W := by rw [← hW]; exact fr_setRow _ _ _
  clear hW
  have H0 : W.heap[w.heap.size]? = some (.cells cx.toArray 45 (0, 0)) := (fW.block w.heap.size (by show w.heap.size ≠ w.heap.size + 1; omega)).trans hh2.1
  have FW : Fr (· < w.heap.size) w W := hh2.2.2.2.trans (fW.mono (fun k hk => by show k ≠ w.heap.size + 1; omega))
  have c0 : W.cell? ⟨w.heap.size, 0, none⟩ = some (.int .i64 x.kind) := by rw [blk_cell H0 0]; simpa using hk0
  clear fW hh2 hk0 H0
  go_wp2_with fail
  go_ret
  exact ⟨rfl, FW.below⟩

set_option maxHeartbeats 1000000 in
set_option maxRecDepth 100000 in
theorem proper_1 (x : XEvent) (cx : List Value) (w : World) (hx : EventC w (· < w.heap.size) cx x) (hLx : (encAll x).length + 100 ≤ Lim) (hk : x.kind = 1) :
    Calls Try.prog 19 #[.agg cx.toArray] w fun e w' => e = .returned (.bool (decide (encAll x = encAll (ownEv x)))) ∧ Below w.heap.size w w' := by
  have hlen := hx.len
  have hown := own_len x
  have hkk : cx[0]? = some (.int .i64 x.kind) ∧ intBd x.kind := by
    obtain ⟨_, _, _, _, _, _, _, _, _, rfl, ⟨rfl, k0⟩, _⟩ := hx
    exact ⟨rfl, k0⟩
  obtain ⟨hk0, hkb⟩ := hkk
  rw [hk] at hk0 hkb
  have hoe : ownEv x = { kind := 1, entry := x.entry } := by simp [ownEv, hk]
  have HOE := Lib.hid hoe
  have HLEN := Lib.hid hlen
  clear hoe hk hlen
  go_enter Try.func19, Try.ntmps19
  go_upto_region 2 with (refine wpList_store_row rfl 45 (.tmp 3) (.tmp 6) rfl (w.heap.size + 1) _ rfl rfl 45 _ (heap2 w _ _).2.1 info45 rfl (by simp only [List.all_toArray, List.all_cons, List.all_nil, Value.oneCell', Bool.and_true]) ?_)
  generalize hW : World.setRow ((w.alloc (.cells cx.toArray 45)).alloc (.cells #[.int .i64 0, .int .i64 0, .int .i64 0, .int .i64 0, .int .i64 0, .int .i64 0, .string ⟨#[]⟩, .slice none 0 0, .string ⟨#[]⟩, .int .i64 0, .int .i64 0, .int .i64 0, .int .i64 0, .int .i64 0, .int .i64 0, .int .i64 0, .int .i64 0, .slice none 0 0, .slice none 0 0, .int .i64 0, .int .i64 0, .int .i64 0, .int .i64 0, .int .i64 0, .int .i64 0, .int .i64 0, .int .i64 0, .string ⟨#[]⟩] 45)) (w.heap.size + 1) #[.int .i64 1, .int .i64 0, .int .i64 0, .int .i64 0, .int .i64 0, .int .i64 0, .string ⟨#[]⟩, .slice none 0 0, .string ⟨#[]⟩, .int .i64 0, .int .i64 0, .int .i64 0, .int .i64 0, .int .i64 0, .int .i64 0, .int .i64 0, .int .i64 0, .slice none 0 0, .slice none 0 0, .int .i64 0, .int .i64 0, .int .i64 0, .int .i64 0, .int .i64 0, .int .i64 0, .int .i64 0, .int .i64 0, .string ⟨#[]⟩] = W
  have hh2 := heap2 w (.cells cx.toArray 45) (.cells #[.int .i64 0, .int .i64 0, .int .i64 0, .int .i64 0, .int .i64 0, .int .i64 0, .string ⟨#[]⟩, .slice none 0 0, .string ⟨#[]⟩, .int .i64 0, .int .i64 0, .int .i64 0, .int .i64 0, .int .i64 0, .int .i64 0, .int .i64 0, .int .i64 0, .slice none 0 0, .slice none 0 0, .int .i64 0, .int .i64 0, .int .i64 0, .int .i64 0, .int .i64 0, .int .i64 0, .int .i64 0, .int .i64 0, .string ⟨#[]⟩] 45)
  have H1 : W.heap[w.heap.size + 1]? = some (.cells (evCells 1 zEntry zRate zHolding zMatch zStock 0 0 ⟨#[]⟩).toArray 45 (0, 0)) := by rw [← hW]; exact heap_setRow hh2.2.1 _
  have fW : Fr (fun k => k ≠ w.heap.size + 1) ((w.alloc (.cells cx.toArray 45)).alloc (.cells #[.int .i64 0, .int .i64 0, .int .i64 0, .int .i64 0, .int .i64 0, .int .i64 0, .string ⟨#[]⟩, .slice none 0 0, .string ⟨#[]⟩, .int .i64 0, .int .i64 0, .int .i64 0, .int .i64 0, .int .i64 0, .int .i64 0, .int .i64 0, .int .i64 0, .slice none 0 0, .slice none 0 0, .int .i64 0, .int .i64 0, .int .i64 0, .int .i64 0, .int .i64 0, .int .i64 0, .int .i64 0, .int .i64 0, .string ⟨#[]⟩] 45)) W := by rw [← hW]; exact fr_setRow _ _ _
  clear hW
  have H0 : W.heap[w.heap.size]? = some (.cells cx.toArray 45 (0, 0)) := (fW.block w.heap.size (by show w.heap.size ≠ w.heap.size + 1; omega)).trans hh2.1
  have FW : Fr (· < w.heap.size) w W := hh2.2.2.2.trans (fW.mono (fun k hk => by show k ≠ w.heap.size + 1; omega))
  have hsz : w.heap.size + 2 ≤ W.heap.size := by have := fW.size; have := hh2.2.2.1; omega
  clear fW hh2
  have haW : At W (fun k => k < w.heap.size ∨ k = w.heap.size) ⟨w.heap.size, 0, none⟩ cx := by
    refine ⟨.inr rfl, fun j u hu => ?_⟩
    rw [Addr.add_lit, Nat.zero_add, blk_cell H0 j, blk_frozen H0 j]
    exact ⟨by simpa using hu, rfl⟩
  have hxW : EventC W (· < w.heap.size) cx x := hx.fr FW
  have hat := hxW.at_ haW
  simp only [Nat.zero_add] at hat
  obtain ⟨⟨f0, i0⟩, ⟨l1, f1, m1⟩, ⟨l2, f2, m2⟩, ⟨l3, f3, m3⟩, ⟨l4, f4, m4⟩, ⟨l5, f5, m5⟩, ⟨f6, i6⟩, ⟨f7, i7⟩, f8⟩ := hat
  have c0 : W.cell? ⟨w.heap.size, 0, none⟩ = some (.int .i64 1) := by rw [blk_cell H0 0]; simpa using hk0
  clear f0 hk0
  have hlm := f1.len
  clear f2 f3 f4 f5 f6 f7 f8
  have R : W.rangeAt w.heap.size 1 l1 := fun q u hq => m1.c hq
  have TH : W.there (w.heap.size + 1) 1 l1.toArray.size := there_of_block H1 _ _ (by simp [hlm, evCells, zEntry, zRate, zHolding, zMatch, zStock])
  have HI : (Try.prog.info? 34).map (·.size) = some l1.length := by rw [info34, hlm]
  have HI2 : (Try.prog.info? 34).map (·.size) = some l1.toArray.size := by rw [info34, List.size_toArray, hlm]
  have H1C : l1.toArray.all (·.oneCell') = true := EntryC.one f1
  have G0 := ((fr_setCells (b := w.heap.size + 1) l1 1 W).block w.heap.size (by show w.heap.size ≠ w.heap.size + 1; omega)).trans H0
  have G1 := heap_setCells l1 1 W _ H1
  have hput : putAt (evCells 1 zEntry zRate zHolding zMatch zStock 0 0 ⟨#[]⟩) 1 l1 = evCells 1 l1 zRate zHolding zMatch zStock 0 0 ⟨#[]⟩ := by
    have := putAt_head .nilFunc ([.int .i64 1]) zEntry (zRate ++ zHolding ++ zMatch ++ zStock ++ [.int .i64 0] ++ [.int .i64 0] ++ [.string ⟨#[]⟩]) l1 1 (by simp [zEntry, zRate, zHolding, zMatch, zStock]) (by rw [hlm]; rfl)
    simpa only [evCells, List.append_assoc] using this
  rw [hput] at G1
  have FW2 : Fr (· < w.heap.size) w (W.setCells (w.heap.size + 1) 1 l1) := FW.trans ((fr_setCells (b := w.heap.size + 1) l1 1 W).mono (fun k hk => by show k ≠ w.heap.size + 1; omega))
  have hz2 := (fr_setCells (b := w.heap.size + 1) l1 1 W).size
  have HG0 := Lib.hid G0
  have HG1 := Lib.hid G1
  have HHI := Lib.hid HI
  have HHI2 := Lib.hid HI2
  have HH1C := Lib.hid H1C
  clear hlm G0 G1 HI HI2 H1C hput H0 H1
  have HC45 := Lib.hid (size45 HLEN.out)
  go_upto_region 22 with (first | refine wpList_load_mid rfl 34 (.tmp 11) rfl w.heap.size 1 rfl l1 _ R Try.underlying34 rfl HHI.out ?_ | refine wpList_store_mid rfl 34 (.tmp 13) (.tmp 12) rfl (w.heap.size + 1) 1 l1.toArray rfl rfl TH HHI2.out HH1C.out ?_)
  have hE2 : EventC (W.setCells (w.heap.size + 1) 1 l1) (fun k => k < w.heap.size) (evCells 1 l1 zRate zHolding zMatch zStock 0 0 ⟨#[]⟩) (ownEv x) := by
    rw [HOE.out]
    have hf2 : Fr (· < w.heap.size) W (W.setCells (w.heap.size + 1) 1 l1) := (fr_setCells (b := w.heap.size + 1) l1 1 W).mono (fun k hk => by show k ≠ w.heap.size + 1; omega)
    exact evC hkb (EntryC.fr f1 hf2) (zRateC _ _) (zHoldingC _ _) (zMatchC _ _) (zStockC _ _) bd0 bd0
  have hX2 := hx.fr FW2
  have HC45b := Lib.hid (size45 hE2.len)
  have HX2 := Lib.hid hX2
  have HE2 := Lib.hid hE2
  have HOW := Lib.hid hown
  clear hX2 hE2 hown
  go_wp2_with (first | refine wpList_load_row rfl 45 (.tmp 1) rfl w.heap.size rfl 45 cx.toArray (0, 0) _ HG0.out Try.underlying45 rfl HC45.out ?_ | refine wpList_load_row rfl 45 (.tmp 3) rfl (w.heap.size + 1) rfl 45 (evCells 1 l1 zRate zHolding zMatch zStock 0 0 ⟨#[]⟩).toArray (0, 0) _ HG1.out Try.underlying45 rfl HC45b.out ?_)
  refine (sameEvent_c x (ownEv x) cx (evCells 1 l1 zRate zHolding zMatch zStock 0 0 ⟨#[]⟩) _ (HX2.out.mono (fun k hk => by omega)) (HE2.out.mono (fun k hk => by omega)) (by omega) (by have := HOW.out; omega)).mono ?_
  rintro e w3 ⟨rfl, hb3⟩
  go_wp2_with fail
  go_ret
  exact ⟨rfl, FW2.below.trans (hb3.mono (by omega))⟩

set_option maxHeartbeats 1000000 in
set_option maxRecDepth 100000 in
theorem proper_2 (x : XEvent) (cx : List Value) (w : World) (hx : EventC w (· < w.heap.size) cx x) (hLx : (encAll x).length + 100 ≤ Lim) (hk : x.kind = 2) :
    Calls Try.prog 19 #[.agg cx.toArray] w fun e w' => e = .returned (.bool (decide (encAll x = encAll (ownEv x)))) ∧ Below w.heap.size w w' := by
  have hlen := hx.len
  have hown := own_len x
  have hkk : cx[0]? = some (.int .i64 x.kind) ∧ intBd x.kind := by
    obtain ⟨_, _, _, _, _, _, _, _, _, rfl, ⟨rfl, k0⟩, _⟩ := hx
    exact ⟨rfl, k0⟩
  obtain ⟨hk0, hkb⟩ := hkk
  rw [hk] at hk0 hkb
  have hoe : ownEv x = { kind := 2, rate := x.rate } := by simp [ownEv, hk]
  have HOE := Lib.hid hoe
  have HLEN := Lib.hid hlen
  clear hoe hk hlen
  go_enter Try.func19, Try.ntmps19
  go_upto_region 2 with (refine wpList_store_row rfl 45 (.tmp 3) (.tmp 6) rfl (w.heap.size + 1) _ rfl rfl 45 _ (heap2 w _ _).2.1 info45 rfl (by simp only [List.all_toArray, List.all_cons, List.all_nil, Value.oneCell', Bool.and_true]) ?_)
  generalize hW : World.setRow ((w.alloc (.cells cx.toArray 45)).alloc (.cells #[.int .i64 0, .int .i64 0, .int .i64 0, .int .i64 0, .int .i64 0, .int .i64 0, .string ⟨#[]⟩, .slice none 0 0, .string ⟨#[]⟩, .int .i64 0, .int .i64 0, .int .i64 0, .int .i64 0, .int .i64 0, .int .i64 0, .int .i64 0, .int .i64 0, .slice none 0 0, .slice none 0 0, .int .i64 0, .int .i64 0, .int .i64 0, .int .i64 0, .int .i64 0, .int .i64 0, .int .i64 0, .int .i64 0, .string ⟨#[]⟩] 45)) (w.heap.size + 1) #[.int .i64 2, .int .i64 0, .int .i64 0, .int .i64 0, .int .i64 0, .int .i64 0, .string ⟨#[]⟩, .slice none 0 0, .string ⟨#[]⟩, .int .i64 0, .int .i64 0, .int .i64 0, .int .i64 0, .int .i64 0, .int .i64 0, .int .i64 0, .int .i64 0, .slice none 0 0, .slice none 0 0, .int .i64 0, .int .i64 0, .int .i64 0, .int .i64 0, .int .i64 0, .int .i64 0, .int .i64 0, .int .i64 0, .string ⟨#[]⟩] = W
  have hh2 := heap2 w (.cells cx.toArray 45) (.cells #[.int .i64 0, .int .i64 0, .int .i64 0, .int .i64 0, .int .i64 0, .int .i64 0, .string ⟨#[]⟩, .slice none 0 0, .string ⟨#[]⟩, .int .i64 0, .int .i64 0, .int .i64 0, .int .i64 0, .int .i64 0, .int .i64 0, .int .i64 0, .int .i64 0, .slice none 0 0, .slice none 0 0, .int .i64 0, .int .i64 0, .int .i64 0, .int .i64 0, .int .i64 0, .int .i64 0, .int .i64 0, .int .i64 0, .string ⟨#[]⟩] 45)
  have H1 : W.heap[w.heap.size + 1]? = some (.cells (evCells 2 zEntry zRate zHolding zMatch zStock 0 0 ⟨#[]⟩).toArray 45 (0, 0)) := by rw [← hW]; exact heap_setRow hh2.2.1 _
  have fW : Fr (fun k => k ≠ w.heap.size + 1) ((w.alloc (.cells cx.toArray 45)).alloc (.cells #[.int .i64 0, .int .i64 0, .int .i64 0, .int .i64 0, .int .i64 0, .int .i64 0, .string ⟨#[]⟩, .slice none 0 0, .string ⟨#[]⟩, .int .i64 0, .int .i64 0, .int .i64 0, .int .i64 0, .int .i64 0, .int .i64 0, .int .i64 0, .int .i64 0, .slice none 0 0, .slice none 0 0, .int .i64 0, .int .i64 0, .int .i64 0, .int .i64 0, .int .i64 0, .int .i64 0, .int .i64 0, .int .i64 0, .string ⟨#[]⟩] 45)) W := by rw [← hW]; exact fr_setRow _ _ _
  clear hW
  have H0 : W.heap[w.heap.size]? = some (.cells cx.toArray 45 (0, 0)) := (fW.block w.heap.size (by show w.heap.size ≠ w.heap.size + 1; omega)).trans hh2.1
  have FW : Fr (· < w.heap.size) w W := hh2.2.2.2.trans (fW.mono (fun k hk => by show k ≠ w.heap.size + 1; omega))
  have hsz : w.heap.size + 2 ≤ W.heap.size := by have := fW.size; have := hh2.2.2.1; omega
  clear fW hh2
  have haW : At W (fun k => k < w.heap.size ∨ k = w.heap.size) ⟨w.heap.size, 0, none⟩ cx := by
    refine ⟨.inr rfl, fun j u hu => ?_⟩
    rw [Addr.add_lit, Nat.zero_add, blk_cell H0 j, blk_frozen H0 j]
    exact ⟨by simpa using hu, rfl⟩
  have hxW : EventC W (· < w.heap.size) cx x := hx.fr FW
  have hat := hxW.at_ haW
  simp only [Nat.zero_add] at hat
  obtain ⟨⟨f0, i0⟩, ⟨l1, f1, m1⟩, ⟨l2, f2, m2⟩, ⟨l3, f3, m3⟩, ⟨l4, f4, m4⟩, ⟨l5, f5, m5⟩, ⟨f6, i6⟩, ⟨f7, i7⟩, f8⟩ := hat
  have c0 : W.cell? ⟨w.heap.size, 0, none⟩ = some (.int .i64 2) := by rw [blk_cell H0 0]; simpa using hk0
  clear f0 hk0
  have hlm := f2.len
  clear f1 f3 f4 f5 f6 f7 f8
  have R : W.rangeAt w.heap.size 8 l2 := fun q u hq => m2.c hq
  have TH : W.there (w.heap.size + 1) 8 l2.toArray.size := there_of_block H1 _ _ (by simp [hlm, evCells, zEntry, zRate, zHolding, zMatch, zStock])
  have HI : (Try.prog.info? 36).map (·.size) = some l2.length := by rw [info36, hlm]
  have HI2 : (Try.prog.info? 36).map (·.size) = some l2.toArray.size := by rw [info36, List.size_toArray, hlm]
  have H1C : l2.toArray.all (·.oneCell') = true := RateC.one f2
  have G0 := ((fr_setCells (b := w.heap.size + 1) l2 8 W).block w.heap.size (by show w.heap.size ≠ w.heap.size + 1; omega)).trans H0
  have G1 := heap_setCells l2 8 W _ H1
  have hput : putAt (evCells 2 zEntry zRate zHolding zMatch zStock 0 0 ⟨#[]⟩) 8 l2 = evCells 2 zEntry l2 zHolding zMatch zStock 0 0 ⟨#[]⟩ := by
    have := putAt_head .nilFunc ([.int .i64 2] ++ zEntry) zRate (zHolding ++ zMatch ++ zStock ++ [.int .i64 0] ++ [.int .i64 0] ++ [.string ⟨#[]⟩]) l2 8 (by simp [zEntry, zRate, zHolding, zMatch, zStock]) (by rw [hlm]; rfl)
    simpa only [evCells, List.append_assoc] using this
  rw [hput] at G1
  have FW2 : Fr (· < w.heap.size) w (W.setCells (w.heap.size + 1) 8 l2) := FW.trans ((fr_setCells (b := w.heap.size + 1) l2 8 W).mono (fun k hk => by show k ≠ w.heap.size + 1; omega))
  have hz2 := (fr_setCells (b := w.heap.size + 1) l2 8 W).size
  have HG0 := Lib.hid G0
  have HG1 := Lib.hid G1
  have HHI := Lib.hid HI
  have HHI2 := Lib.hid HI2
  have HH1C := Lib.hid H1C
  clear hlm G0 G1 HI HI2 H1C hput H0 H1
  have HC45 := Lib.hid (size45 HLEN.out)
  go_upto_region 22 with (first | refine wpList_load_mid rfl 36 (.tmp 16) rfl w.heap.size 8 rfl l2 _ R Try.underlying36 rfl HHI.out ?_ | refine wpList_store_mid rfl 36 (.tmp 18) (.tmp 17) rfl (w.heap.size + 1) 8 l2.toArray rfl rfl TH HHI2.out HH1C.out ?_)
  have hE2 : EventC (W.setCells (w.heap.size + 1) 8 l2) (fun k => k < w.heap.size) (evCells 2 zEntry l2 zHolding zMatch zStock 0 0 ⟨#[]⟩) (ownEv x) := by
    rw [HOE.out]
    have hf2 : Fr (· < w.heap.size) W (W.setCells (w.heap.size + 1) 8 l2) := (fr_setCells (b := w.heap.size + 1) l2 8 W).mono (fun k hk => by show k ≠ w.heap.size + 1; omega)
    exact evC hkb (zEntryC _ _) (RateC.fr f2 hf2) (zHoldingC _ _) (zMatchC _ _) (zStockC _ _) bd0 bd0
  have hX2 := hx.fr FW2
  have HC45b := Lib.hid (size45 hE2.len)
  have HX2 := Lib.hid hX2
  have HE2 := Lib.hid hE2
  have HOW := Lib.hid hown
  clear hX2 hE2 hown
  go_wp2_with (first | refine wpList_load_row rfl 45 (.tmp 1) rfl w.heap.size rfl 45 cx.toArray (0, 0) _ HG0.out Try.underlying45 rfl HC45.out ?_ | refine wpList_load_row rfl 45 (.tmp 3) rfl (w.heap.size + 1) rfl 45 (evCells 2 zEntry l2 zHolding zMatch zStock 0 0 ⟨#[]⟩).toArray (0, 0) _ HG1.out Try.underlying45 rfl HC45b.out ?_)
  refine (sameEvent_c x (ownEv x) cx (evCells 2 zEntry l2 zHolding zMatch zStock 0 0 ⟨#[]⟩) _ (HX2.out.mono (fun k hk => by omega)) (HE2.out.mono (fun k hk => by omega)) (by omega) (by have := HOW.out; omega)).mono ?_
  rintro e w3 ⟨rfl, hb3⟩
  go_wp2_with fail
  go_ret
  exact ⟨rfl, FW2.below.trans (hb3.mono (by omega))⟩

set_option maxHeartbeats 1000000 in
set_option maxRecDepth 100000 in
theorem proper_3 (x : XEvent) (cx : List Value) (w : World) (hx : EventC w (· < w.heap.size) cx x) (hLx : (encAll x).length + 100 ≤ Lim) (hk : x.kind = 3) :
    Calls Try.prog 19 #[.agg cx.toArray] w fun e w' => e = .returned (.bool (decide (encAll x = encAll (ownEv x)))) ∧ Below w.heap.size w w' := by
  have hlen := hx.len
  have hown := own_len x
  have hkk : cx[0]? = some (.int .i64 x.kind) ∧ intBd x.kind := by
    obtain ⟨_, _, _, _, _, _, _, _, _, rfl, ⟨rfl, k0⟩, _⟩ := hx
    exact ⟨rfl, k0⟩
  obtain ⟨hk0, hkb⟩ := hkk
  rw [hk] at hk0 hkb
  have hoe : ownEv x = { kind := 3, holding := x.holding } := by simp [ownEv, hk]
  have HOE := Lib.hid hoe
  have HLEN := Lib.hid hlen
  clear hoe hk hlen
  go_enter Try.func19, Try.ntmps19
  go_upto_region 2 with (refine wpList_store_row rfl 45 (.tmp 3) (.tmp 6) rfl (w.heap.size + 1) _ rfl rfl 45 _ (heap2 w _ _).2.1 info45 rfl (by simp only [List.all_toArray, List.all_cons, List.all_nil, Value.oneCell', Bool.and_true]) ?_)
  generalize hW : World.setRow ((w.alloc (.cells cx.toArray 45)).alloc (.cells #[.int .i64 0, .int .i64 0, .int .i64 0, .int .i64 0, .int .i64 0, .int .i64 0, .string ⟨#[]⟩, .slice none 0 0, .string ⟨#[]⟩, .int .i64 0, .int .i64 0, .int .i64 0, .int .i64 0, .int .i64 0, .int .i64 0, .int .i64 0, .int .i64 0, .slice none 0 0, .slice none 0 0, .int .i64 0, .int .i64 0, .int .i64 0, .int .i64 0, .int .i64 0, .int .i64 0, .int .i64 0, .int .i64 0, .string ⟨#[]⟩] 45)) (w.heap.size + 1) #[.int .i64 3, .int .i64 0, .int .i64 0, .int .i64 0, .int .i64 0, .int .i64 0, .string ⟨#[]⟩, .slice none 0 0, .string ⟨#[]⟩, .int .i64 0, .int .i64 0, .int .i64 0, .int .i64 0, .int .i64 0, .int .i64 0, .int .i64 0, .int .i64 0, .slice none 0 0, .slice none 0 0, .int .i64 0, .int .i64 0, .int .i64 0, .int .i64 0, .int .i64 0, .int .i64 0, .int .i64 0, .int .i64 0, .string ⟨#[]⟩] = W
  have hh2 := heap2 w (.cells cx.toArray 45) (.cells #[.int .i64 0, .int .i64 0, .int .i64 0, .int .i64 0, .int .i64 0, .int .i64 0, .string ⟨#[]⟩, .slice none 0 0, .string ⟨#[]⟩, .int .i64 0, .int .i64 0, .int .i64 0, .int .i64 0, .int .i64 0, .int .i64 0, .int .i64 0, .int .i64 0, .slice none 0 0, .slice none 0 0, .int .i64 0, .int .i64 0, .int .i64 0, .int .i64 0, .int .i64 0, .int .i64 0, .int .i64 0, .int .i64 0, .string ⟨#[]⟩] 45)
  have H1 : W.heap[w.heap.size + 1]? = some (.cells (evCells 3 zEntry zRate zHolding zMatch zStock 0 0 ⟨#[]⟩).toArray 45 (0, 0)) := by rw [← hW]; exact heap_setRow hh2.2.1 _
  have fW : Fr (fun k => k ≠ w.heap.size + 1) ((w.alloc (.cells cx.toArray 45)).alloc (.cells #[.int .i64 0, .int .i64 0, .int .i64 0, .int .i64 0, .int .i64 0, .int .i64 0, .string ⟨#[]⟩, .slice none 0 0, .string ⟨#[]⟩, .int .i64 0, .int .i64 0, .int .i64 0, .int .i64 0, .int .i64 0, .int .i64 0, .int .i64 0, .int .i64 0, .slice none 0 0, .slice none 0 0, .int .i64 0, .int .i64 0, .int .i64 0, .int .i64 0, .int .i64 0, .int .i64 0, .int .i64 0, .int .i64 0, .string ⟨#[]⟩] 45)) W := by rw [← hW]; exact fr_setRow _ _ _
  clear hW
  have H0 : W.heap[w.heap.size]? = some (.cells cx.toArray 45 (0, 0)) := (fW.block w.heap.size (by show w.heap.size ≠ w.heap.size + 1; omega)).trans hh2.1
  have FW : Fr (· < w.heap.size) w W := hh2.2.2.2.trans (fW.mono (fun k hk => by show k ≠ w.heap.size + 1; omega))
  have hsz : w.heap.size + 2 ≤ W.heap.size := by have := fW.size; have := hh2.2.2.1; omega
  clear fW hh2
  have haW : At W (fun k => k < w.heap.size ∨ k = w.heap.size) ⟨w.heap.size, 0, none⟩ cx := by
    refine ⟨.inr rfl, fun j u hu => ?_⟩
    rw [Addr.add_lit, Nat.zero_add, blk_cell H0 j, blk_frozen H0 j]
    exact ⟨by simpa using hu, rfl⟩
  have hxW : EventC W (· < w.heap.size) cx x := hx.fr FW
  have hat := hxW.at_ haW
  simp only [Nat.zero_add] at hat
  obtain ⟨⟨f0, i0⟩, ⟨l1, f1, m1⟩, ⟨l2, f2, m2⟩, ⟨l3, f3, m3⟩, ⟨l4, f4, m4⟩, ⟨l5, f5, m5⟩, ⟨f6, i6⟩, ⟨f7, i7⟩, f8⟩ := hat
  have c0 : W.cell? ⟨w.heap.size, 0, none⟩ = some (.int .i64 3) := by rw [blk_cell H0 0]; simpa using hk0
  clear f0 hk0
  have hlm := f3.len
  clear f1 f2 f4 f5 f6 f7 f8
  have R : W.rangeAt w.heap.size 12 l3 := fun q u hq => m3.c hq
  have TH : W.there (w.heap.size + 1) 12 l3.toArray.size := there_of_block H1 _ _ (by simp [hlm, evCells, zEntry, zRate, zHolding, zMatch, zStock])
  have HI : (Try.prog.info? 38).map (·.size) = some l3.length := by rw [info38, hlm]
  have HI2 : (Try.prog.info? 38).map (·.size) = some l3.toArray.size := by rw [info38, List.size_toArray, hlm]
  have H1C : l3.toArray.all (·.oneCell') = true := HoldingC.one f3
  have G0 := ((fr_setCells (b := w.heap.size + 1) l3 12 W).block w.heap.size (by show w.heap.size ≠ w.heap.size + 1; omega)).trans H0
  have G1 := heap_setCells l3 12 W _ H1
  have hput : putAt (evCells 3 zEntry zRate zHolding zMatch zStock 0 0 ⟨#[]⟩) 12 l3 = evCells 3 zEntry zRate l3 zMatch zStock 0 0 ⟨#[]⟩ := by
    have := putAt_head .nilFunc ([.int .i64 3] ++ zEntry ++ zRate) zHolding (zMatch ++ zStock ++ [.int .i64 0] ++ [.int .i64 0] ++ [.string ⟨#[]⟩]) l3 12 (by simp [zEntry, zRate, zHolding, zMatch, zStock]) (by rw [hlm]; rfl)
    simpa only [evCells, List.append_assoc] using this
  rw [hput] at G1
  have FW2 : Fr (· < w.heap.size) w (W.setCells (w.heap.size + 1) 12 l3) := FW.trans ((fr_setCells (b := w.heap.size + 1) l3 12 W).mono (fun k hk => by show k ≠ w.heap.size + 1; omega))
  have hz2 := (fr_setCells (b := w.heap.size + 1) l3 12 W).size
  have HG0 := Lib.hid G0
  have HG1 := Lib.hid G1
  have HHI := Lib.hid HI
  have HHI2 := Lib.hid HI2
  have HH1C := Lib.hid H1C
  clear hlm G0 G1 HI HI2 H1C hput H0 H1
  have HC45 := Lib.hid (size45 HLEN.out)
  go_upto_region 22 with (first | refine wpList_load_mid rfl 38 (.tmp 21) rfl w.heap.size 12 rfl l3 _ R Try.underlying38 rfl HHI.out ?_ | refine wpList_store_mid rfl 38 (.tmp 23) (.tmp 22) rfl (w.heap.size + 1) 12 l3.toArray rfl rfl TH HHI2.out HH1C.out ?_)
  have hE2 : EventC (W.setCells (w.heap.size + 1) 12 l3) (fun k => k < w.heap.size) (evCells 3 zEntry zRate l3 zMatch zStock 0 0 ⟨#[]⟩) (ownEv x) := by
    rw [HOE.out]
    have hf2 : Fr (· < w.heap.size) W (W.setCells (w.heap.size + 1) 12 l3) := (fr_setCells (b := w.heap.size + 1) l3 12 W).mono (fun k hk => by show k ≠ w.heap.size + 1; omega)
    exact evC hkb (zEntryC _ _) (zRateC _ _) (HoldingC.fr f3 hf2) (zMatchC _ _) (zStockC _ _) bd0 bd0
  have hX2 := hx.fr FW2
  have HC45b := Lib.hid (size45 hE2.len)
  have HX2 := Lib.hid hX2
  have HE2 := Lib.hid hE2
  have HOW := Lib.hid hown
  clear hX2 hE2 hown
  go_wp2_with (first | refine wpList_load_row rfl 45 (.tmp 1) rfl w.heap.size rfl 45 cx.toArray (0, 0) _ HG0.out Try.underlying45 rfl HC45.out ?_ | refine wpList_load_row rfl 45 (.tmp 3) rfl (w.heap.size + 1) rfl 45 (evCells 3 zEntry zRate l3 zMatch zStock 0 0 ⟨#[]⟩).toArray (0, 0) _ HG1.out Try.underlying45 rfl HC45b.out ?_)
  refine (sameEvent_c x (ownEv x) cx (evCells 3 zEntry zRate l3 zMatch zStock 0 0 ⟨#[]⟩) _ (HX2.out.mono (fun k hk => by omega)) (HE2.out.mono (fun k hk => by omega)) (by omega) (by have := HOW.out; omega)).mono ?_
  rintro e w3 ⟨rfl, hb3⟩
  go_wp2_with fail
  go_ret
  exact ⟨rfl, FW2.below.trans (hb3.mono (by omega))⟩

set_option maxHeartbeats 1000000 in
set_option maxRecDepth 100000 in
theorem proper_4 (x : XEvent) (cx : List Value) (w : World) (hx : EventC w (· < w.heap.size) cx x) (hLx : (encAll x).length + 100 ≤ Lim) (hk : x.kind = 4) :
    Calls Try.prog 19 #[.agg cx.toArray] w fun e w' => e = .returned (.bool (decide (encAll x = encAll (ownEv x)))) ∧ Below w.heap.size w w' := by
  have hlen := hx.len
  have hown := own_len x
  have hkk : cx[0]? = some (.int .i64 x.kind) ∧ intBd x.kind := by
    obtain ⟨_, _, _, _, _, _, _, _, _, rfl, ⟨rfl, k0⟩, _⟩ := hx
    exact ⟨rfl, k0⟩
  obtain ⟨hk0, hkb⟩ := hkk
  rw [hk] at hk0 hkb
  have hoe : ownEv x = { kind := 4, match_ := x.match_ } := by simp [ownEv, hk]
  have HOE := Lib.hid hoe
  have HLEN := Lib.hid hlen
  clear hoe hk hlen
  go_enter Try.func19, Try.ntmps19
  go_upto_region 2 with (refine wpList_store_row rfl 45 (.tmp 3) (.tmp 6) rfl (w.heap.size + 1) _ rfl rfl 45 _ (heap2 w _ _).2.1 info45 rfl (by simp only [List.all_toArray, List.all_cons, List.all_nil, Value.oneCell', Bool.and_true]) ?_)
  generalize hW : World.setRow ((w.alloc (.cells cx.toArray 45)).alloc (.cells #[.int .i64 0, .int .i64 0, .int .i64 0, .int .i64 0, .int .i64 0, .int .i64 0, .string ⟨#[]⟩, .slice none 0 0, .string ⟨#[]⟩, .int .i64 0, .int .i64 0, .int .i64 0, .int .i64 0, .int .i64 0, .int .i64 0, .int .i64 0, .int .i64 0, .slice none 0 0, .slice none 0 0, .int .i64 0, .int .i64 0, .int .i64 0, .int .i64 0, .int .i64 0, .int .i64 0, .int .i64 0, .int .i64 0, .string ⟨#[]⟩] 45)) (w.heap.size + 1) #[.int .i64 4, .int .i64 0, .int .i64 0, .int .i64 0, .int .i64 0, .int .i64 0, .string ⟨#[]⟩, .slice none 0 0, .string ⟨#[]⟩, .int .i64 0, .int .i64 0, .int .i64 0, .int .i64 0, .int .i64 0, .int .i64 0, .int .i64 0, .int .i64 0, .slice none 0 0, .slice none 0 0, .int .i64 0, .int .i64 0, .int .i64 0, .int .i64 0, .int .i64 0, .int .i64 0, .int .i64 0, .int .i64 0, .string ⟨#[]⟩] = W
  have hh2 := heap2 w (.cells cx.toArray 45) (.cells #[.int .i64 0, .int .i64 0, .int .i64 0, .int .i64 0, .int .i64 0, .int .i64 0, .string ⟨#[]⟩, .slice none 0 0, .string ⟨#[]⟩, .int .i64 0, .int .i64 0, .int .i64 0, .int .i64 0, .int .i64 0, .int .i64 0, .int .i64 0, .int .i64 0, .slice none 0 0, .slice none 0 0, .int .i64 0, .int .i64 0, .int .i64 0, .int .i64 0, .int .i64 0, .int .i64 0, .int .i64 0, .int .i64 0, .string ⟨#[]⟩] 45)
  have H1 : W.heap[w.heap.size + 1]? = some (.cells (evCells 4 zEntry zRate zHolding zMatch zStock 0 0 ⟨#[]⟩).toArray 45 (0, 0)) := by rw [← hW]; exact heap_setRow hh2.2.1 _
  have fW : Fr (fun k => k ≠ w.heap.size + 1) ((w.alloc (.cells cx.toArray 45)).alloc (.cells #[.int .i64 0, .int .i64 0, .int .i64 0, .int .i64 0, .int .i64 0, .int .i64 0, .string ⟨#[]⟩, .slice none 0 0, .string ⟨#[]⟩, .int .i64 0, .int .i64 0, .int .i64 0, .int .i64 0, .int .i64 0, .int .i64 0, .int .i64 0, .int .i64 0, .slice none 0 0, .slice none 0 0, .int .i64 0, .int .i64 0, .int .i64 0, .int .i64 0, .int .i64 0, .int .i64 0, .int .i64 0, .int .i64 0, .string ⟨#[]⟩] 45)) W := by rw [← hW]; exact fr_setRow _ _ _
  clear hW
  have H0 : W.heap[w.heap.size]? = some (.cells cx.toArray 45 (0, 0)) := (fW.block w.heap.size (by show w.heap.size ≠ w.heap.size + 1; omega)).trans hh2.1
  have FW : Fr (· < w.heap.size) w W := hh2.2.2.2.trans (fW.mono (fun k hk => by show k ≠ w.heap.size + 1; omega))
  have hsz : w.heap.size + 2 ≤ W.heap.size := by have := fW.size; have := hh2.2.2.1; omega
  clear fW hh2
  have haW : At W (fun k => k < w.heap.size ∨ k = w.heap.size) ⟨w.heap.size, 0, none⟩ cx := by
    refine ⟨.inr rfl, fun j u hu => ?_⟩
    rw [Addr.add_lit, Nat.zero_add, blk_cell H0 j, blk_frozen H0 j]
    exact ⟨by simpa using hu, rfl⟩
  have hxW : EventC W (· < w.heap.size) cx x := hx.fr FW
  have hat := hxW.at_ haW
  simp only [Nat.zero_add] at hat
  obtain ⟨⟨f0, i0⟩, ⟨l1, f1, m1⟩, ⟨l2, f2, m2⟩, ⟨l3, f3, m3⟩, ⟨l4, f4, m4⟩, ⟨l5, f5, m5⟩, ⟨f6, i6⟩, ⟨f7, i7⟩, f8⟩ := hat
  have c0 : W.cell? ⟨w.heap.size, 0, none⟩ = some (.int .i64 4) := by rw [blk_cell H0 0]; simpa using hk0
  clear f0 hk0
  have hlm := f4.len
  clear f1 f2 f3 f5 f6 f7 f8
  have R : W.rangeAt w.heap.size 16 l4 := fun q u hq => m4.c hq
  have TH : W.there (w.heap.size + 1) 16 l4.toArray.size := there_of_block H1 _ _ (by simp [hlm, evCells, zEntry, zRate, zHolding, zMatch, zStock])
  have HI : (Try.prog.info? 41).map (·.size) = some l4.length := by rw [info41, hlm]
  have HI2 : (Try.prog.info? 41).map (·.size) = some l4.toArray.size := by rw [info41, List.size_toArray, hlm]
  have H1C : l4.toArray.all (·.oneCell') = true := MatchC.one f4
  have G0 := ((fr_setCells (b := w.heap.size + 1) l4 16 W).block w.heap.size (by show w.heap.size ≠ w.heap.size + 1; omega)).trans H0
  have G1 := heap_setCells l4 16 W _ H1
  have hput : putAt (evCells 4 zEntry zRate zHolding zMatch zStock 0 0 ⟨#[]⟩) 16 l4 = evCells 4 zEntry zRate zHolding l4 zStock 0 0 ⟨#[]⟩ := by
    have := putAt_head .nilFunc ([.int .i64 4] ++ zEntry ++ zRate ++ zHolding) zMatch (zStock ++ [.int .i64 0] ++ [.int .i64 0] ++ [.string ⟨#[]⟩]) l4 16 (by simp [zEntry, zRate, zHolding, zMatch, zStock]) (by rw [hlm]; rfl)
    simpa only [evCells, List.append_assoc] using this
  rw [hput] at G1
  have FW2 : Fr (· < w.heap.size) w (W.setCells (w.heap.size + 1) 16 l4) := FW.trans ((fr_setCells (b := w.heap.size + 1) l4 16 W).mono (fun k hk => by show k ≠ w.heap.size + 1; omega))
  have hz2 := (fr_setCells (b := w.heap.size + 1) l4 16 W).size
  have HG0 := Lib.hid G0
  have HG1 := Lib.hid G1
  have HHI := Lib.hid HI
  have HHI2 := Lib.hid HI2
  have HH1C := Lib.hid H1C
  clear hlm G0 G1 HI HI2 H1C hput H0 H1
  have HC45 := Lib.hid (size45 HLEN.out)
  go_upto_region 22 with (first | refine wpList_load_mid rfl 41 (.tmp 26) rfl w.heap.size 16 rfl l4 _ R Try.underlying41 rfl HHI.out ?_ | refine wpList_store_mid rfl 41 (.tmp 28) (.tmp 27) rfl (w.heap.size + 1) 16 l4.toArray rfl rfl TH HHI2.out HH1C.out ?_)
  have hE2 : EventC (W.setCells (w.heap.size + 1) 16 l4) (fun k => k < w.heap.size) (evCells 4 zEntry zRate zHolding l4 zStock 0 0 ⟨#[]⟩) (ownEv x) := by
    rw [HOE.out]
    have hf2 : Fr (· < w.heap.size) W (W.setCells (w.heap.size + 1) 16 l4) := (fr_setCells (b := w.heap.size + 1) l4 16 W).mono (fun k hk => by show k ≠ w.heap.size + 1; omega)
    exact evC hkb (zEntryC _ _) (zRateC _ _) (zHoldingC _ _) (MatchC.fr f4 hf2) (zStockC _ _) bd0 bd0
  have hX2 := hx.fr FW2
  have HC45b := Lib.hid (size45 hE2.len)
  have HX2 := Lib.hid hX2
  have HE2 := Lib.hid hE2
  have HOW := Lib.hid hown
  clear hX2 hE2 hown
  go_wp2_with (first | refine wpList_load_row rfl 45 (.tmp 1) rfl w.heap.size rfl 45 cx.toArray (0, 0) _ HG0.out Try.underlying45 rfl HC45.out ?_ | refine wpList_load_row rfl 45 (.tmp 3) rfl (w.heap.size + 1) rfl 45 (evCells 4 zEntry zRate zHolding l4 zStock 0 0 ⟨#[]⟩).toArray (0, 0) _ HG1.out Try.underlying45 rfl HC45b.out ?_)
  refine (sameEvent_c x (ownEv x) cx (evCells 4 zEntry zRate zHolding l4 zStock 0 0 ⟨#[]⟩) _ (HX2.out.mono (fun k hk => by omega)) (HE2.out.mono (fun k hk => by omega)) (by omega) (by have := HOW.out; omega)).mono ?_
  rintro e w3 ⟨rfl, hb3⟩
  go_wp2_with fail
  go_ret
  exact ⟨rfl, FW2.below.trans (hb3.mono (by omega))⟩

set_option maxHeartbeats 1000000 in
set_option maxRecDepth 100000 in
theorem proper_5 (x : XEvent) (cx : List Value) (w : World) (hx : EventC w (· < w.heap.size) cx x) (hLx : (encAll x).length + 100 ≤ Lim) (hk : x.kind = 5) :
    Calls Try.prog 19 #[.agg cx.toArray] w fun e w' => e = .returned (.bool (decide (encAll x = encAll (ownEv x)))) ∧ Below w.heap.size w w' := by
  have hlen := hx.len
  have hown := own_len x
  have hkk : cx[0]? = some (.int .i64 x.kind) ∧ intBd x.kind := by
    obtain ⟨_, _, _, _, _, _, _, _, _, rfl, ⟨rfl, k0⟩, _⟩ := hx
    exact ⟨rfl, k0⟩
  obtain ⟨hk0, hkb⟩ := hkk
  rw [hk] at hk0 hkb
  have hoe : ownEv x = { kind := 5, a := x.a, b := x.b } := by simp [ownEv, hk]
  have HOE := Lib.hid hoe
  have HLEN := Lib.hid hlen
  clear hoe hk hlen
  go_enter Try.func19, Try.ntmps19
  go_upto_region 2 with (refine wpList_store_row rfl 45 (.tmp 3) (.tmp 6) rfl (w.heap.size + 1) _ rfl rfl 45 _ (heap2 w _ _).2.1 info45 rfl (by simp only [List.all_toArray, List.all_cons, List.all_nil, Value.oneCell', Bool.and_true]) ?_)
  generalize hW : World.setRow ((w.alloc (.cells cx.toArray 45)).alloc (.cells #[.int .i64 0, .int .i64 0, .int .i64 0, .int .i64 0, .int .i64 0, .int .i64 0, .string ⟨#[]⟩, .slice none 0 0, .string ⟨#[]⟩, .int .i64 0, .int .i64 0, .int .i64 0, .int .i64 0, .int .i64 0, .int .i64 0, .int .i64 0, .int .i64 0, .slice none 0 0, .slice none 0 0, .int .i64 0, .int .i64 0, .int .i64 0, .int .i64 0, .int .i64 0, .int .i64 0, .int .i64 0, .int .i64 0, .string ⟨#[]⟩] 45)) (w.heap.size + 1) #[.int .i64 5, .int .i64 0, .int .i64 0, .int .i64 0, .int .i64 0, .int .i64 0, .string ⟨#[]⟩, .slice none 0 0, .string ⟨#[]⟩, .int .i64 0, .int .i64 0, .int .i64 0, .int .i64 0, .int .i64 0, .int .i64 0, .int .i64 0, .int .i64 0, .slice none 0 0, .slice none 0 0, .int .i64 0, .int .i64 0, .int .i64 0, .int .i64 0, .int .i64 0, .int .i64 0, .int .i64 0, .int .i64 0, .string ⟨#[]⟩] = W
  have hh2 := heap2 w (.cells cx.toArray 45) (.cells #[.int .i64 0, .int .i64 0, .int .i64 0, .int .i64 0, .int .i64 0, .int .i64 0, .string ⟨#[]⟩, .slice none 0 0, .string ⟨#[]⟩, .int .i64 0, .int .i64 0, .int .i64 0, .int .i64 0, .int .i64 0, .int .i64 0, .int .i64 0, .int .i64 0, .slice none 0 0, .slice none 0 0, .int .i64 0, .int .i64 0, .int .i64 0, .int .i64 0, .int .i64 0, .int .i64 0, .int .i64 0, .int .i64 0, .string ⟨#[]⟩] 45)
  have H1 : W.heap[w.heap.size + 1]? = some (.cells (evCells 5 zEntry zRate zHolding zMatch zStock 0 0 ⟨#[]⟩).toArray 45 (0, 0)) := by rw [← hW]; exact heap_setRow hh2.2.1 _
  have fW : Fr (fun k => k ≠ w.heap.size + 1) ((w.alloc (.cells cx.toArray 45)).alloc (.cells #[.int .i64 0, .int .i64 0, .int .i64 0, .int .i64 0, .int .i64 0, .int .i64 0, .string ⟨#[]⟩, .slice none 0 0, .string ⟨#[]⟩, .int .i64 0, .int .i64 0, .int .i64 0, .int .i64 0, .int .i64 0, .int .i64 0, .int .i64 0, .int .i64 0, .slice none 0 0, .slice none 0 0, .int .i64 0, .int .i64 0, .int .i64 0, .int .i64 0, .int .i64 0, .int .i64 0, .int .i64 0, .int .i64 0, .string ⟨#[]⟩] 45)) W := by rw [← hW]; exact fr_setRow _ _ _
  clear hW
  have H0 : W.heap[w.heap.size]? = some (.cells cx.toArray 45 (0, 0)) := (fW.block w.heap.size (by show w.heap.size ≠ w.heap.size + 1; omega)).trans hh2.1
  have FW : Fr (· < w.heap.size) w W := hh2.2.2.2.trans (fW.mono (fun k hk => by show k ≠ w.heap.size + 1; omega))
  have hsz : w.heap.size + 2 ≤ W.heap.size := by have := fW.size; have := hh2.2.2.1; omega
  clear fW hh2
  have haW : At W (fun k => k < w.heap.size ∨ k = w.heap.size) ⟨w.heap.size, 0, none⟩ cx := by
    refine ⟨.inr rfl, fun j u hu => ?_⟩
    rw [Addr.add_lit, Nat.zero_add, blk_cell H0 j, blk_frozen H0 j]
    exact ⟨by simpa using hu, rfl⟩
  have hxW : EventC W (· < w.heap.size) cx x := hx.fr FW
  have hat := hxW.at_ haW
  simp only [Nat.zero_add] at hat
  obtain ⟨⟨f0, i0⟩, ⟨l1, f1, m1⟩, ⟨l2, f2, m2⟩, ⟨l3, f3, m3⟩, ⟨l4, f4, m4⟩, ⟨l5, f5, m5⟩, ⟨f6, i6⟩, ⟨f7, i7⟩, f8⟩ := hat
  have c0 : W.cell? ⟨w.heap.size, 0, none⟩ = some (.int .i64 5) := by rw [blk_cell H0 0]; simpa using hk0
  clear f0 hk0
  clear f1 f2 f3 f4 f5 f8
  have o25 : W.cell? ⟨w.heap.size + 1, 25, none⟩ = some (.int .i64 0) := blk_cell H1 25
  have z25 : W.frozen? ⟨w.heap.size + 1, 25, none⟩ = false := blk_frozen H1 25
  have o26 : W.cell? ⟨w.heap.size + 1, 26, none⟩ = some (.int .i64 0) := blk_cell H1 26
  have z26 : W.frozen? ⟨w.heap.size + 1, 26, none⟩ = false := blk_frozen H1 26
  have fS : Fr (fun k => k ≠ w.heap.size + 1) W ((W.setCell ⟨w.heap.size + 1, 25, none⟩ (.int .i64 x.a)).setCell ⟨w.heap.size + 1, 26, none⟩ (.int .i64 x.b)) := Fr.setCell (p := ⟨w.heap.size + 1, 26, none⟩) (Fr.setCell (p := ⟨w.heap.size + 1, 25, none⟩) (Fr.refl _ W) (fun h => h rfl) _) (fun h => h rfl) _
  have G0 := (fS.block w.heap.size (by show w.heap.size ≠ w.heap.size + 1; omega)).trans H0
  have G1 := heap_setCell_same (heap_setCell_same (H1) 25 (.int .i64 x.a)) 26 (.int .i64 x.b)
  have hput : (((evCells 5 zEntry zRate zHolding zMatch zStock 0 0 ⟨#[]⟩).toArray.setIfInBounds 25 (.int .i64 x.a)).setIfInBounds 26 (.int .i64 x.b)) = (evCells 5 zEntry zRate zHolding zMatch zStock x.a x.b ⟨#[]⟩).toArray := rfl
  rw [hput] at G1
  have FW2 : Fr (· < w.heap.size) w ((W.setCell ⟨w.heap.size + 1, 25, none⟩ (.int .i64 x.a)).setCell ⟨w.heap.size + 1, 26, none⟩ (.int .i64 x.b)) := FW.trans (fS.mono (fun k hk => by show k ≠ w.heap.size + 1; omega))
  have hz2 := fS.size
  have HG0 := Lib.hid G0
  have HG1 := Lib.hid G1
  clear G0 G1 hput H0 H1
  have HC45 := Lib.hid (size45 HLEN.out)
  have hE2 : EventC ((W.setCell ⟨w.heap.size + 1, 25, none⟩ (.int .i64 x.a)).setCell ⟨w.heap.size + 1, 26, none⟩ (.int .i64 x.b)) (fun k => k < w.heap.size) (evCells 5 zEntry zRate zHolding zMatch zStock x.a x.b ⟨#[]⟩) (ownEv x) := by
    rw [HOE.out]
    exact evC hkb (zEntryC _ _) (zRateC _ _) (zHoldingC _ _) (zMatchC _ _) (zStockC _ _) i6 i7
  have hX2 := hx.fr FW2
  have HC45b := Lib.hid (size45 hE2.len)
  have HX2 := Lib.hid hX2
  have HE2 := Lib.hid hE2
  have HOW := Lib.hid hown
  have HFW2 := Lib.hid FW2
  have HZ2 := Lib.hid hz2
  clear hX2 hE2 hown FW2 fS hz2
  go_wp2_with fail
  go_region
  go_wp2_with (first | refine wpList_load_row rfl 45 (.tmp 1) rfl w.heap.size rfl 45 cx.toArray (0, 0) _ HG0.out Try.underlying45 rfl HC45.out ?_ | refine wpList_load_row rfl 45 (.tmp 3) rfl (w.heap.size + 1) rfl 45 (evCells 5 zEntry zRate zHolding zMatch zStock x.a x.b ⟨#[]⟩).toArray (0, 0) _ HG1.out Try.underlying45 rfl HC45b.out ?_)
  have hz2 := HZ2.out
  have hsW : (((W.setCell ⟨w.heap.size + 1, 25, none⟩ (.int .i64 x.a)).setCell ⟨w.heap.size + 1, 26, none⟩ (.int .i64 x.b)).drew).heap.size = ((W.setCell ⟨w.heap.size + 1, 25, none⟩ (.int .i64 x.a)).setCell ⟨w.heap.size + 1, 26, none⟩ (.int .i64 x.b)).heap.size := rfl
  refine (sameEvent_c x (ownEv x) cx (evCells 5 zEntry zRate zHolding zMatch zStock x.a x.b ⟨#[]⟩) ((W.setCell ⟨w.heap.size + 1, 25, none⟩ (.int .i64 x.a)).setCell ⟨w.heap.size + 1, 26, none⟩ (.int .i64 x.b)).drew ((HX2.out.mono (fun k hk => by omega) : EventC ((W.setCell ⟨w.heap.size + 1, 25, none⟩ (.int .i64 x.a)).setCell ⟨w.heap.size + 1, 26, none⟩ (.int .i64 x.b)) (fun k => k < ((W.setCell ⟨w.heap.size + 1, 25, none⟩ (.int .i64 x.a)).setCell ⟨w.heap.size + 1, 26, none⟩ (.int .i64 x.b)).heap.size) _ _).drew_) ((HE2.out.mono (fun k hk => by omega) : EventC ((W.setCell ⟨w.heap.size + 1, 25, none⟩ (.int .i64 x.a)).setCell ⟨w.heap.size + 1, 26, none⟩ (.int .i64 x.b)) (fun k => k < ((W.setCell ⟨w.heap.size + 1, 25, none⟩ (.int .i64 x.a)).setCell ⟨w.heap.size + 1, 26, none⟩ (.int .i64 x.b)).heap.size) _ _).drew_) (by omega) (by have := HOW.out; omega)).mono ?_
  rintro e w3 ⟨rfl, hb3⟩
  go_wp2_with fail
  go_ret
  exact ⟨rfl, HFW2.out.below.drew.trans (hb3.mono (by omega))⟩

set_option maxHeartbeats 1000000 in
set_option maxRecDepth 100000 in
theorem proper_6 (x : XEvent) (cx : List Value) (w : World) (hx : EventC w (· < w.heap.size) cx x) (hLx : (encAll x).length + 100 ≤ Lim) (hk : x.kind = 6) :
    Calls Try.prog 19 #[.agg cx.toArray] w fun e w' => e = .returned (.bool (decide (encAll x = encAll (ownEv x)))) ∧ Below w.heap.size w w' := by
  have hlen := hx.len
  have hown := own_len x
  have hkk : cx[0]? = some (.int .i64 x.kind) ∧ intBd x.kind := by
    obtain ⟨_, _, _, _, _, _, _, _, _, rfl, ⟨rfl, k0⟩, _⟩ := hx
    exact ⟨rfl, k0⟩
  obtain ⟨hk0, hkb⟩ := hkk
  rw [hk] at hk0 hkb
  have hoe : ownEv x = { kind := 6, stock := x.stock } := by simp [ownEv, hk]
  have HOE := Lib.hid hoe
  have HLEN := Lib.hid hlen
  clear hoe hk hlen
  go_enter Try.func19, Try.ntmps19
  go_upto_region 2 with (refine wpList_store_row rfl 45 (.tmp 3) (.tmp 6) rfl (w.heap.size + 1) _ rfl rfl 45 _ (heap2 w _ _).2.1 info45 rfl (by simp only [List.all_toArray, List.all_cons, List.all_nil, Value.oneCell', Bool.and_true]) ?_)
  generalize hW : World.setRow ((w.alloc (.cells cx.toArray 45)).alloc (.cells #[.int .i64 0, .int .i64 0, .int .i64 0, .int .i64 0, .int .i64 0, .int .i64 0, .string ⟨#[]⟩, .slice none 0 0, .string ⟨#[]⟩, .int .i64 0, .int .i64 0, .int .i64 0, .int .i64 0, .int .i64 0, .int .i64 0, .int .i64 0, .int .i64 0, .slice none 0 0, .slice none 0 0, .int .i64 0, .int .i64 0, .int .i64 0, .int .i64 0, .int .i64 0, .int .i64 0, .int .i64 0, .int .i64 0, .string ⟨#[]⟩] 45)) (w.heap.size + 1) #[.int .i64 6, .int .i64 0, .int .i64 0, .int .i64 0, .int .i64 0, .int .i64 0, .string ⟨#[]⟩, .slice none 0 0, .string ⟨#[]⟩, .int .i64 0, .int .i64 0, .int .i64 0, .int .i64 0, .int .i64 0, .int .i64 0, .int .i64 0, .int .i64 0, .slice none 0 0, .slice none 0 0, .int .i64 0, .int .i64 0, .int .i64 0, .int .i64 0, .int .i64 0, .int .i64 0, .int .i64 0, .int .i64 0, .string ⟨#[]⟩] = W
  have hh2 := heap2 w (.cells cx.toArray 45) (.cells #[.int .i64 0, .int .i64 0, .int .i64 0, .int .i64 0, .int .i64 0, .int .i64 0, .string ⟨#[]⟩, .slice none 0 0, .string ⟨#[]⟩, .int .i64 0, .int .i64 0, .int .i64 0, .int .i64 0, .int .i64 0, .int .i64 0, .int .i64 0, .int .i64 0, .slice none 0 0, .slice none 0 0, .int .i64 0, .int .i64 0, .int .i64 0, .int .i64 0, .int .i64 0, .int .i64 0, .int .i64 0, .int .i64 0, .string ⟨#[]⟩] 45)
  have H1 : W.heap[w.heap.size + 1]? = some (.cells (evCells 6 zEntry zRate zHolding zMatch zStock 0 0 ⟨#[]⟩).toArray 45 (0, 0)) := by rw [← hW]; exact heap_setRow hh2.2.1 _
  have fW : Fr (fun k => k ≠ w.heap.size + 1) ((w.alloc (.cells cx.toArray 45)).alloc (.cells #[.int .i64 0, .int .i64 0, .int .i64 0, .int .i64 0, .int .i64 0, .int .i64 0, .string ⟨#[]⟩, .slice none 0 0, .string ⟨#[]⟩, .int .i64 0, .int .i64 0, .int .i64 0, .int .i64 0, .int .i64 0, .int .i64 0, .int .i64 0, .int .i64 0, .slice none 0 0, .slice none 0 0, .int .i64 0, .int .i64 0, .int .i64 0, .int .i64 0, .int .i64 0, .int .i64 0, .int .i64 0, .int .i64 0, .string ⟨#[]⟩] 45)) W := by rw [← hW]; exact fr_setRow _ _ _
  clear hW
  have H0 : W.heap[w.heap.size]? = some (.cells cx.toArray 45 (0, 0)) := (fW.block w.heap.size (by show w.heap.size ≠ w.heap.size + 1; omega)).trans hh2.1
  have FW : Fr (· < w.heap.size) w W := hh2.2.2.2.trans (fW.mono (fun k hk => by show k ≠ w.heap.size + 1; omega))
  have hsz : w.heap.size + 2 ≤ W.heap.size := by have := fW.size; have := hh2.2.2.1; omega
  clear fW hh2
  have haW : At W (fun k => k < w.heap.size ∨ k = w.heap.size) ⟨w.heap.size, 0, none⟩ cx := by
    refine ⟨.inr rfl, fun j u hu => ?_⟩
    rw [Addr.add_lit, Nat.zero_add, blk_cell H0 j, blk_frozen H0 j]
    exact ⟨by simpa using hu, rfl⟩
  have hxW : EventC W (· < w.heap.size) cx x := hx.fr FW
  have hat := hxW.at_ haW
  simp only [Nat.zero_add] at hat
  obtain ⟨⟨f0, i0⟩, ⟨l1, f1, m1⟩, ⟨l2, f2, m2⟩, ⟨l3, f3, m3⟩, ⟨l4, f4, m4⟩, ⟨l5, f5, m5⟩, ⟨f6, i6⟩, ⟨f7, i7⟩, f8⟩ := hat
  have c0 : W.cell? ⟨w.heap.size, 0, none⟩ = some (.int .i64 6) := by rw [blk_cell H0 0]; simpa using hk0
  clear f0 hk0
  have hlm := f5.len
  clear f1 f2 f3 f4 f6 f7 f8
  have R : W.rangeAt w.heap.size 20 l5 := fun q u hq => m5.c hq
  have TH : W.there (w.heap.size + 1) 20 l5.toArray.size := there_of_block H1 _ _ (by simp [hlm, evCells, zEntry, zRate, zHolding, zMatch, zStock])
  have HI : (Try.prog.info? 43).map (·.size) = some l5.length := by rw [info43, hlm]
  have HI2 : (Try.prog.info? 43).map (·.size) = some l5.toArray.size := by rw [info43, List.size_toArray, hlm]
  have H1C : l5.toArray.all (·.oneCell') = true := StockC.one f5
  have G0 := ((fr_setCells (b := w.heap.size + 1) l5 20 W).block w.heap.size (by show w.heap.size ≠ w.heap.size + 1; omega)).trans H0
  have G1 := heap_setCells l5 20 W _ H1
  have hput : putAt (evCells 6 zEntry zRate zHolding zMatch zStock 0 0 ⟨#[]⟩) 20 l5 = evCells 6 zEntry zRate zHolding zMatch l5 0 0 ⟨#[]⟩ := by
    have := putAt_head .nilFunc ([.int .i64 6] ++ zEntry ++ zRate ++ zHolding ++ zMatch) zStock ([.int .i64 0] ++ [.int .i64 0] ++ [.string ⟨#[]⟩]) l5 20 (by simp [zEntry, zRate, zHolding, zMatch, zStock]) (by rw [hlm]; rfl)
    simpa only [evCells, List.append_assoc] using this
  rw [hput] at G1
  have FW2 : Fr (· < w.heap.size) w (W.setCells (w.heap.size + 1) 20 l5) := FW.trans ((fr_setCells (b := w.heap.size + 1) l5 20 W).mono (fun k hk => by show k ≠ w.heap.size + 1; omega))
  have hz2 := (fr_setCells (b := w.heap.size + 1) l5 20 W).size
  have HG0 := Lib.hid G0
  have HG1 := Lib.hid G1
  have HHI := Lib.hid HI
  have HHI2 := Lib.hid HI2
  have HH1C := Lib.hid H1C
  clear hlm G0 G1 HI HI2 H1C hput H0 H1
  have HC45 := Lib.hid (size45 HLEN.out)
  go_upto_region 22 with (first | refine wpList_load_mid rfl 43 (.tmp 31) rfl w.heap.size 20 rfl l5 _ R Try.underlying43 rfl HHI.out ?_ | refine wpList_store_mid rfl 43 (.tmp 33) (.tmp 32) rfl (w.heap.size + 1) 20 l5.toArray rfl rfl TH HHI2.out HH1C.out ?_)
  have hE2 : EventC (W.setCells (w.heap.size + 1) 20 l5) (fun k => k < w.heap.size) (evCells 6 zEntry zRate zHolding zMatch l5 0 0 ⟨#[]⟩) (ownEv x) := by
    rw [HOE.out]
    have hf2 : Fr (· < w.heap.size) W (W.setCells (w.heap.size + 1) 20 l5) := (fr_setCells (b := w.heap.size + 1) l5 20 W).mono (fun k hk => by show k ≠ w.heap.size + 1; omega)
    exact evC hkb (zEntryC _ _) (zRateC _ _) (zHoldingC _ _) (zMatchC _ _) (StockC.fr f5 hf2) bd0 bd0
  have hX2 := hx.fr FW2
  have HC45b := Lib.hid (size45 hE2.len)
  have HX2 := Lib.hid hX2
  have HE2 := Lib.hid hE2
  have HOW := Lib.hid hown
  clear hX2 hE2 hown
  go_wp2_with (first | refine wpList_load_row rfl 45 (.tmp 1) rfl w.heap.size rfl 45 cx.toArray (0, 0) _ HG0.out Try.underlying45 rfl HC45.out ?_ | refine wpList_load_row rfl 45 (.tmp 3) rfl (w.heap.size + 1) rfl 45 (evCells 6 zEntry zRate zHolding zMatch l5 0 0 ⟨#[]⟩).toArray (0, 0) _ HG1.out Try.underlying45 rfl HC45b.out ?_)
  refine (sameEvent_c x (ownEv x) cx (evCells 6 zEntry zRate zHolding zMatch l5 0 0 ⟨#[]⟩) _ (HX2.out.mono (fun k hk => by omega)) (HE2.out.mono (fun k hk => by omega)) (by omega) (by have := HOW.out; omega)).mono ?_
  rintro e w3 ⟨rfl, hb3⟩
  go_wp2_with fail
  go_ret
  exact ⟨rfl, FW2.below.trans (hb3.mono (by omega))⟩

set_option maxHeartbeats 1000000 in
set_option maxRecDepth 100000 in
theorem proper_7 (x : XEvent) (cx : List Value) (w : World) (hx : EventC w (· < w.heap.size) cx x) (hLx : (encAll x).length + 100 ≤ Lim) (hk : x.kind = 7) :
    Calls Try.prog 19 #[.agg cx.toArray] w fun e w' => e = .returned (.bool (decide (encAll x = encAll (ownEv x)))) ∧ Below w.heap.size w w' := by
  have hlen := hx.len
  have hown := own_len x
  have hkk : cx[0]? = some (.int .i64 x.kind) ∧ intBd x.kind := by
    obtain ⟨_, _, _, _, _, _, _, _, _, rfl, ⟨rfl, k0⟩, _⟩ := hx
    exact ⟨rfl, k0⟩
  obtain ⟨hk0, hkb⟩ := hkk
  rw [hk] at hk0 hkb
  have hoe : ownEv x = { kind := 7, text := x.text } := by simp [ownEv, hk]
  have HOE := Lib.hid hoe
  have HLEN := Lib.hid hlen
  clear hoe hk hlen
  go_enter Try.func19, Try.ntmps19
  go_upto_region 2 with (refine wpList_store_row rfl 45 (.tmp 3) (.tmp 6) rfl (w.heap.size + 1) _ rfl rfl 45 _ (heap2 w _ _).2.1 info45 rfl (by simp only [List.all_toArray, List.all_cons, List.all_nil, Value.oneCell', Bool.and_true]) ?_)
  generalize hW : World.setRow ((w.alloc (.cells cx.toArray 45)).alloc (.cells #[.int .i64 0, .int .i64 0, .int .i64 0, .int .i64 0, .int .i64 0, .int .i64 0, .string ⟨#[]⟩, .slice none 0 0, .string ⟨#[]⟩, .int .i64 0, .int .i64 0, .int .i64 0, .int .i64 0, .int .i64 0, .int .i64 0, .int .i64 0, .int .i64 0, .slice none 0 0, .slice none 0 0, .int .i64 0, .int .i64 0, .int .i64 0, .int .i64 0, .int .i64 0, .int .i64 0, .int .i64 0, .int .i64 0, .string ⟨#[]⟩] 45)) (w.heap.size + 1) #[.int .i64 7, .int .i64 0, .int .i64 0, .int .i64 0, .int .i64 0, .int .i64 0, .string ⟨#[]⟩, .slice none 0 0, .string ⟨#[]⟩, .int .i64 0, .int .i64 0, .int .i64 0, .int .i64 0, .int .i64 0, .int .i64 0, .int .i64 0, .int .i64 0, .slice none 0 0, .slice none 0 0, .int .i64 0, .int .i64 0, .int .i64 0, .int .i64 0, .int .i64 0, .int .i64 0, .int .i64 0, .int .i64 0, .string ⟨#[]⟩] = W
  have hh2 := heap2 w (.cells cx.toArray 45) (.cells #[.int .i64 0, .int .i64 0, .int .i64 0, .int .i64 0, .int .i64 0, .int .i64 0, .string ⟨#[]⟩, .slice none 0 0, .string ⟨#[]⟩, .int .i64 0, .int .i64 0, .int .i64 0, .int .i64 0, .int .i64 0, .int .i64 0, .int .i64 0, .int .i64 0, .slice none 0 0, .slice none 0 0, .int .i64 0, .int .i64 0, .int .i64 0, .int .i64 0, .int .i64 0, .int .i64 0, .int .i64 0, .int .i64 0, .string ⟨#[]⟩] 45)
  have H1 : W.heap[w.heap.size + 1]? = some (.cells (evCells 7 zEntry zRate zHolding zMatch zStock 0 0 ⟨#[]⟩).toArray 45 (0, 0)) := by rw [← hW]; exact heap_setRow hh2.2.1 _
  have fW : Fr (fun k => k ≠ w.heap.size + 1) ((w.alloc (.cells cx.toArray 45)).alloc (.cells #[.int .i64 0, .int .i64 0, .int .i64 0, .int .i64 0, .int .i64 0, .int .i64 0, .string ⟨#[]⟩, .slice none 0 0, .string ⟨#[]⟩, .int .i64 0, .int .i64 0, .int .i64 0, .int .i64 0, .int .i64 0, .int .i64 0, .int .i64 0, .int .i64 0, .slice none 0 0, .slice none 0 0, .int .i64 0, .int .i64 0, .int .i64 0, .int .i64 0, .int .i64 0, .int .i64 0, .int .i64 0, .int .i64 0, .string ⟨#[]⟩] 45)) W := by rw [← hW]; exact fr_setRow _ _ _
  clear hW
  have H0 : W.heap[w.heap.size]? = some (.cells cx.toArray 45 (0, 0)) := (fW.block w.heap.size (by show w.heap.size ≠ w.heap.size + 1; omega)).trans hh2.1
  have FW : Fr (· < w.heap.size) w W := hh2.2.2.2.trans (fW.mono (fun k hk => by show k ≠ w.heap.size + 1; omega))
  have hsz : w.heap.size + 2 ≤ W.heap.size := by have := fW.size; have := hh2.2.2.1; omega
  clear fW hh2
  have haW : At W (fun k => k < w.heap.size ∨ k = w.heap.size) ⟨w.heap.size, 0, none⟩ cx := by
    refine ⟨.inr rfl, fun j u hu => ?_⟩
    rw [Addr.add_lit, Nat.zero_add, blk_cell H0 j, blk_frozen H0 j]
    exact ⟨by simpa using hu, rfl⟩
  have hxW : EventC W (· < w.heap.size) cx x := hx.fr FW
  have hat := hxW.at_ haW
  simp only [Nat.zero_add] at hat
  obtain ⟨⟨f0, i0⟩, ⟨l1, f1, m1⟩, ⟨l2, f2, m2⟩, ⟨l3, f3, m3⟩, ⟨l4, f4, m4⟩, ⟨l5, f5, m5⟩, ⟨f6, i6⟩, ⟨f7, i7⟩, f8⟩ := hat
  have c0 : W.cell? ⟨w.heap.size, 0, none⟩ = some (.int .i64 7) := by rw [blk_cell H0 0]; simpa using hk0
  clear f0 hk0
  clear f1 f2 f3 f4 f5 f6 f7
  have o27 : W.cell? ⟨w.heap.size + 1, 27, none⟩ = some (.string ⟨#[]⟩) := blk_cell H1 27
  have z27 : W.frozen? ⟨w.heap.size + 1, 27, none⟩ = false := blk_frozen H1 27
  have fS : Fr (fun k => k ≠ w.heap.size + 1) W (W.setCell ⟨w.heap.size + 1, 27, none⟩ (.string x.text)) := Fr.setCell (p := ⟨w.heap.size + 1, 27, none⟩) (Fr.refl _ W) (fun h => h rfl) _
  have G0 := (fS.block w.heap.size (by show w.heap.size ≠ w.heap.size + 1; omega)).trans H0
  have G1 := heap_setCell_same (H1) 27 (.string x.text)
  have hput : ((evCells 7 zEntry zRate zHolding zMatch zStock 0 0 ⟨#[]⟩).toArray.setIfInBounds 27 (.string x.text)) = (evCells 7 zEntry zRate zHolding zMatch zStock 0 0 x.text).toArray := rfl
  rw [hput] at G1
  have FW2 : Fr (· < w.heap.size) w (W.setCell ⟨w.heap.size + 1, 27, none⟩ (.string x.text)) := FW.trans (fS.mono (fun k hk => by show k ≠ w.heap.size + 1; omega))
  have hz2 := fS.size
  have HG0 := Lib.hid G0
  have HG1 := Lib.hid G1
  clear G0 G1 hput H0 H1
  have HC45 := Lib.hid (size45 HLEN.out)
  have hE2 : EventC (W.setCell ⟨w.heap.size + 1, 27, none⟩ (.string x.text)) (fun k => k < w.heap.size) (evCells 7 zEntry zRate zHolding zMatch zStock 0 0 x.text) (ownEv x) := by
    rw [HOE.out]
    exact evC hkb (zEntryC _ _) (zRateC _ _) (zHoldingC _ _) (zMatchC _ _) (zStockC _ _) bd0 bd0
  have hX2 := hx.fr FW2
  have HC45b := Lib.hid (size45 hE2.len)
  have HX2 := Lib.hid hX2
  have HE2 := Lib.hid hE2
  have HOW := Lib.hid hown
  have HFW2 := Lib.hid FW2
  have HZ2 := Lib.hid hz2
  clear hX2 hE2 hown FW2 fS hz2
  go_upto_region 22 with fail
  go_wp2_with (first | refine wpList_load_row rfl 45 (.tmp 1) rfl w.heap.size rfl 45 cx.toArray (0, 0) _ HG0.out Try.underlying45 rfl HC45.out ?_ | refine wpList_load_row rfl 45 (.tmp 3) rfl (w.heap.size + 1) rfl 45 (evCells 7 zEntry zRate zHolding zMatch zStock 0 0 x.text).toArray (0, 0) _ HG1.out Try.underlying45 rfl HC45b.out ?_)
  have hz2 := HZ2.out
  have hsW : ((W.setCell ⟨w.heap.size + 1, 27, none⟩ (.string x.text))).heap.size = (W.setCell ⟨w.heap.size + 1, 27, none⟩ (.string x.text)).heap.size := rfl
  refine (sameEvent_c x (ownEv x) cx (evCells 7 zEntry zRate zHolding zMatch zStock 0 0 x.text) (W.setCell ⟨w.heap.size + 1, 27, none⟩ (.string x.text)) ((HX2.out.mono (fun k hk => by omega) : EventC (W.setCell ⟨w.heap.size + 1, 27, none⟩ (.string x.text)) (fun k => k < (W.setCell ⟨w.heap.size + 1, 27, none⟩ (.string x.text)).heap.size) _ _).drew_) ((HE2.out.mono (fun k hk => by omega) : EventC (W.setCell ⟨w.heap.size + 1, 27, none⟩ (.string x.text)) (fun k => k < (W.setCell ⟨w.heap.size + 1, 27, none⟩ (.string x.text)).heap.size) _ _).drew_) (by omega) (by have := HOW.out; omega)).mono ?_
  rintro e w3 ⟨rfl, hb3⟩
  go_wp2_with fail
  go_ret
  exact ⟨rfl, HFW2.out.below.trans (hb3.mono (by omega))⟩

set_option maxHeartbeats 1000000 in
set_option maxRecDepth 100000 in
theorem proper_8 (x : XEvent) (cx : List Value) (w : World) (hx : EventC w (· < w.heap.size) cx x) (hLx : (encAll x).length + 100 ≤ Lim) (hk : x.kind = 8) :
    Calls Try.prog 19 #[.agg cx.toArray] w fun e w' => e = .returned (.bool (decide (encAll x = encAll (ownEv x)))) ∧ Below w.heap.size w w' := by
  have hlen := hx.len
  have hown := own_len x
  have hkk : cx[0]? = some (.int .i64 x.kind) ∧ intBd x.kind := by
    obtain ⟨_, _, _, _, _, _, _, _, _, rfl, ⟨rfl, k0⟩, _⟩ := hx
    exact ⟨rfl, k0⟩
  obtain ⟨hk0, hkb⟩ := hkk
  rw [hk] at hk0 hkb
  have hoe : ownEv x = { kind := 8, a := x.a, b := x.b } := by simp [ownEv, hk]
  have HOE := Lib.hid hoe
  have HLEN := Lib.hid hlen
  clear hoe hk hlen
  go_enter Try.func19, Try.ntmps19
  go_upto_region 2 with (refine wpList_store_row rfl 45 (.tmp 3) (.tmp 6) rfl (w.heap.size + 1) _ rfl rfl 45 _ (heap2 w _ _).2.1 info45 rfl (by simp only [List.all_toArray, List.all_cons, List.all_nil, Value.oneCell', Bool.and_true]) ?_)
  generalize hW : World.setRow ((w.alloc (.cells cx.toArray 45)).alloc (.cells #[.int .i64 0, .int .i64 0, .int .i64 0, .int .i64 0, .int .i64 0, .int .i64 0, .string ⟨#[]⟩, .slice none 0 0, .string ⟨#[]⟩, .int .i64 0, .int .i64 0, .int .i64 0, .int .i64 0, .int .i64 0, .int .i64 0, .int .i64 0, .int .i64 0, .slice none 0 0, .slice none 0 0, .int .i64 0, .int .i64 0, .int .i64 0, .int .i64 0, .int .i64 0, .int .i64 0, .int .i64 0, .int .i64 0, .string ⟨#[]⟩] 45)) (w.heap.size + 1) #[.int .i64 8, .int .i64 0, .int .i64 0, .int .i64 0, .int .i64 0, .int .i64 0, .string ⟨#[]⟩, .slice none 0 0, .string ⟨#[]⟩, .int .i64 0, .int .i64 0, .int .i64 0, .int .i64 0, .int .i64 0, .int .i64 0, .int .i64 0, .int .i64 0, .slice none 0 0, .slice none 0 0, .int .i64 0, .int .i64 0, .int .i64 0, .int .i64 0, .int .i64 0, .int .i64 0, .int .i64 0, .int .i64 0, .string ⟨#[]⟩] = W
  have hh2 := heap2 w (.cells cx.toArray 45) (.cells #[.int .i64 0, .int .i64 0, .int .i64 0, .int .i64 0, .int .i64 0, .int .i64 0, .string ⟨#[]⟩, .slice none 0 0, .string ⟨#[]⟩, .int .i64 0, .int .i64 0, .int .i64 0, .int .i64 0, .int .i64 0, .int .i64 0, .int .i64 0, .int .i64 0, .slice none 0 0, .slice none 0 0, .int .i64 0, .int .i64 0, .int .i64 0, .int .i64 0, .int .i64 0, .int .i64 0, .int .i64 0, .int .i64 0, .string ⟨#[]⟩] 45)
  have H1 : W.heap[w.heap.size + 1]? = some (.cells (evCells 8 zEntry zRate zHolding zMatch zStock 0 0 ⟨#[]⟩).toArray 45 (0, 0)) := by rw [← hW]; exact heap_setRow hh2.2.1 _
  have fW : Fr (fun k => k ≠ w.heap.size + 1) ((w.alloc (.cells cx.toArray 45)).alloc (.cells #[.int .i64 0, .int .i64 0, .int .i64 0, .int .i64 0, .int .i64 0, .int .i64 0, .string ⟨#[]⟩, .slice none 0 0, .string ⟨#[]⟩, .int .i64 0, .int .i64 0, .int .i64 0, .int .i64 0, .int .i64 0, .int .i64 0, .int .i64 0, .int .i64 0, .slice none 0 0, .slice none 0 0, .int .i64 0, .int .i64 0, .int .i64 0, .int .i64 0, .int .i64 0, .int .i64 0, .int .i64 0, .int .i64 0, .string ⟨#[]⟩] 45)) W := by rw [← hW]; exact fr_setRow _ _ _
  clear hW
  have H0 : W.heap[w.heap.size]? = some (.cells cx.toArray 45 (0, 0)) := (fW.block w.heap.size (by show w.heap.size ≠ w.heap.size + 1; omega)).trans hh2.1
  have FW : Fr (· < w.heap.size) w W := hh2.2.2.2.trans (fW.mono (fun k hk => by show k ≠ w.heap.size + 1; omega))
  have hsz : w.heap.size + 2 ≤ W.heap.size := by have := fW.size; have := hh2.2.2.1; omega
  clear fW hh2
  have haW : At W (fun k => k < w.heap.size ∨ k = w.heap.size) ⟨w.heap.size, 0, none⟩ cx := by
    refine ⟨.inr rfl, fun j u hu => ?_⟩
    rw [Addr.add_lit, Nat.zero_add, blk_cell H0 j, blk_frozen H0 j]
    exact ⟨by simpa using hu, rfl⟩
  have hxW : EventC W (· < w.heap.size) cx x := hx.fr FW
  have hat := hxW.at_ haW
  simp only [Nat.zero_add] at hat
  obtain ⟨⟨f0, i0⟩, ⟨l1, f1, m1⟩, ⟨l2, f2, m2⟩, ⟨l3, f3, m3⟩, ⟨l4, f4, m4⟩, ⟨l5, f5, m5⟩, ⟨f6, i6⟩, ⟨f7, i7⟩, f8⟩ := hat
  have c0 : W.cell? ⟨w.heap.size, 0, none⟩ = some (.int .i64 8) := by rw [blk_cell H0 0]; simpa using hk0
  clear f0 hk0
  clear f1 f2 f3 f4 f5 f8
  have o25 : W.cell? ⟨w.heap.size + 1, 25, none⟩ = some (.int .i64 0) := blk_cell H1 25
  have z25 : W.frozen? ⟨w.heap.size + 1, 25, none⟩ = false := blk_frozen H1 25
  have o26 : W.cell? ⟨w.heap.size + 1, 26, none⟩ = some (.int .i64 0) := blk_cell H1 26
  have z26 : W.frozen? ⟨w.heap.size + 1, 26, none⟩ = false := blk_frozen H1 26
  have fS : Fr (fun k => k ≠ w.heap.size + 1) W ((W.setCell ⟨w.heap.size + 1, 25, none⟩ (.int .i64 x.a)).setCell ⟨w.heap.size + 1, 26, none⟩ (.int .i64 x.b)) := Fr.setCell (p := ⟨w.heap.size + 1, 26, none⟩) (Fr.setCell (p := ⟨w.heap.size + 1, 25, none⟩) (Fr.refl _ W) (fun h => h rfl) _) (fun h => h rfl) _
  have G0 := (fS.block w.heap.size (by show w.heap.size ≠ w.heap.size + 1; omega)).trans H0
  have G1 := heap_setCell_same (heap_setCell_same (H1) 25 (.int .i64 x.a)) 26 (.int .i64 x.b)
  have hput : (((evCells 8 zEntry zRate zHolding zMatch zStock 0 0 ⟨#[]⟩).toArray.setIfInBounds 25 (.int .i64 x.a)).setIfInBounds 26 (.int .i64 x.b)) = (evCells 8 zEntry zRate zHolding zMatch zStock x.a x.b ⟨#[]⟩).toArray := rfl
  rw [hput] at G1
  have FW2 : Fr (· < w.heap.size) w ((W.setCell ⟨w.heap.size + 1, 25, none⟩ (.int .i64 x.a)).setCell ⟨w.heap.size + 1, 26, none⟩ (.int .i64 x.b)) := FW.trans (fS.mono (fun k hk => by show k ≠ w.heap.size + 1; omega))
  have hz2 := fS.size
  have HG0 := Lib.hid G0
  have HG1 := Lib.hid G1
  clear G0 G1 hput H0 H1
  have HC45 := Lib.hid (size45 HLEN.out)
  have hE2 : EventC ((W.setCell ⟨w.heap.size + 1, 25, none⟩ (.int .i64 x.a)).setCell ⟨w.heap.size + 1, 26, none⟩ (.int .i64 x.b)) (fun k => k < w.heap.size) (evCells 8 zEntry zRate zHolding zMatch zStock x.a x.b ⟨#[]⟩) (ownEv x) := by
    rw [HOE.out]
    exact evC hkb (zEntryC _ _) (zRateC _ _) (zHoldingC _ _) (zMatchC _ _) (zStockC _ _) i6 i7
  have hX2 := hx.fr FW2
  have HC45b := Lib.hid (size45 hE2.len)
  have HX2 := Lib.hid hX2
  have HE2 := Lib.hid hE2
  have HOW := Lib.hid hown
  have HFW2 := Lib.hid FW2
  have HZ2 := Lib.hid hz2
  clear hX2 hE2 hown FW2 fS hz2
  go_wp2_with fail
  go_region
  go_wp2_with (first | refine wpList_load_row rfl 45 (.tmp 1) rfl w.heap.size rfl 45 cx.toArray (0, 0) _ HG0.out Try.underlying45 rfl HC45.out ?_ | refine wpList_load_row rfl 45 (.tmp 3) rfl (w.heap.size + 1) rfl 45 (evCells 8 zEntry zRate zHolding zMatch zStock x.a x.b ⟨#[]⟩).toArray (0, 0) _ HG1.out Try.underlying45 rfl HC45b.out ?_)
  have hz2 := HZ2.out
  have hsW : (((W.setCell ⟨w.heap.size + 1, 25, none⟩ (.int .i64 x.a)).setCell ⟨w.heap.size + 1, 26, none⟩ (.int .i64 x.b)).drew).heap.size = ((W.setCell ⟨w.heap.size + 1, 25, none⟩ (.int .i64 x.a)).setCell ⟨w.heap.size + 1, 26, none⟩ (.int .i64 x.b)).heap.size := rfl
  refine (sameEvent_c x (ownEv x) cx (evCells 8 zEntry zRate zHolding zMatch zStock x.a x.b ⟨#[]⟩) ((W.setCell ⟨w.heap.size + 1, 25, none⟩ (.int .i64 x.a)).setCell ⟨w.heap.size + 1, 26, none⟩ (.int .i64 x.b)).drew ((HX2.out.mono (fun k hk => by omega) : EventC ((W.setCell ⟨w.heap.size + 1, 25, none⟩ (.int .i64 x.a)).setCell ⟨w.heap.size + 1, 26, none⟩ (.int .i64 x.b)) (fun k => k < ((W.setCell ⟨w.heap.size + 1, 25, none⟩ (.int .i64 x.a)).setCell ⟨w.heap.size + 1, 26, none⟩ (.int .i64 x.b)).heap.size) _ _).drew_) ((HE2.out.mono (fun k hk => by omega) : EventC ((W.setCell ⟨w.heap.size + 1, 25, none⟩ (.int .i64 x.a)).setCell ⟨w.heap.size + 1, 26, none⟩ (.int .i64 x.b)) (fun k => k < ((W.setCell ⟨w.heap.size + 1, 25, none⟩ (.int .i64 x.a)).setCell ⟨w.heap.size + 1, 26, none⟩ (.int .i64 x.b)).heap.size) _ _).drew_) (by omega) (by have := HOW.out; omega)).mono ?_
  rintro e w3 ⟨rfl, hb3⟩
  go_wp2_with fail
  go_ret
  exact ⟨rfl, HFW2.out.below.drew.trans (hb3.mono (by omega))⟩

set_option maxHeartbeats 1000000 in
set_option maxRecDepth 100000 in
theorem proper_9 (x : XEvent) (cx : List Value) (w : World) (hx : EventC w (· < w.heap.size) cx x) (hLx : (encAll x).length + 100 ≤ Lim) (hk : x.kind = 9) :
    Calls Try.prog 19 #[.agg cx.toArray] w fun e w' => e = .returned (.bool (decide (encAll x = encAll (ownEv x)))) ∧ Below w.heap.size w w' := by
  have hlen := hx.len
  have hown := own_len x
  have hkk : cx[0]? = some (.int .i64 x.kind) ∧ intBd x.kind := by
    obtain ⟨_, _, _, _, _, _, _, _, _, rfl, ⟨rfl, k0⟩, _⟩ := hx
    exact ⟨rfl, k0⟩
  obtain ⟨hk0, hkb⟩ := hkk
  rw [hk] at hk0 hkb
  have hoe : ownEv x = { kind := 9, a := x.a, b := x.b } := by simp [ownEv, hk]
  have HOE := Lib.hid hoe
  have HLEN := Lib.hid hlen
  clear hoe hk hlen
  go_enter Try.func19, Try.ntmps19
  go_upto_region 2 with (refine wpList_store_row rfl 45 (.tmp 3) (.tmp 6) rfl (w.heap.size + 1) _ rfl rfl 45 _ (heap2 w _ _).2.1 info45 rfl (by simp only [List.all_toArray, List.all_cons, List.all_nil, Value.oneCell', Bool.and_true]) ?_)
  generalize hW : World.setRow ((w.alloc (.cells cx.toArray 45)).alloc (.cells #[.int .i64 0, .int .i64 0, .int .i64 0, .int .i64 0, .int .i64 0, .int .i64 0, .string ⟨#[]⟩, .slice none 0 0, .string ⟨#[]⟩, .int .i64 0, .int .i64 0, .int .i64 0, .int .i64 0, .int .i64 0, .int .i64 0, .int .i64 0, .int .i64 0, .slice none 0 0, .slice none 0 0, .int .i64 0, .int .i64 0, .int .i64 0, .int .i64 0, .int .i64 0, .int .i64 0, .int .i64 0, .int .i64 0, .string ⟨#[]⟩] 45)) (w.heap.size + 1) #[.int .i64 9, .int .i64 0, .int .i64 0, .int .i64 0, .int .i64 0, .int .i64 0, .string ⟨#[]⟩, .slice none 0 0, .string ⟨#[]⟩, .int .i64 0, .int .i64 0, .int .i64 0, .int .i64 0, .int .i64 0, .int .i64 0, .int .i64 0, .int .i64 0, .slice none 0 0, .slice none 0 0, .int .i64 0, .int .i64 0, .int .i64 0, .int .i64 0, .int .i64 0, .int .i64 0, .int .i64 0, .int .i64 0, .string ⟨#[]⟩] = W
  have hh2 := heap2 w (.cells cx.toArray 45) (.cells #[.int .i64 0, .int .i64 0, .int .i64 0, .int .i64 0, .int .i64 0, .int .i64 0, .string ⟨#[]⟩, .slice none 0 0, .string ⟨#[]⟩, .int .i64 0, .int .i64 0, .int .i64 0, .int .i64 0, .int .i64 0, .int .i64 0, .int .i64 0, .int .i64 0, .slice none 0 0, .slice none 0 0, .int .i64 0, .int .i64 0, .int .i64 0, .int .i64 0, .int .i64 0, .int .i64 0, .int .i64 0, .int .i64 0, .string ⟨#[]⟩] 45)
  have H1 : W.heap[w.heap.size + 1]? = some (.cells (evCells 9 zEntry zRate zHolding zMatch zStock 0 0 ⟨#[]⟩).toArray 45 (0, 0)) := by rw [← hW]; exact heap_setRow hh2.2.1 _
  have fW : Fr (fun k => k ≠ w.heap.size + 1) ((w.alloc (.cells cx.toArray 45)).alloc (.cells #[.int .i64 0, .int .i64 0, .int .i64 0, .int .i64 0, .int .i64 0, .int .i64 0, .string ⟨#[]⟩, .slice none 0 0, .string ⟨#[]⟩, .int .i64 0, .int .i64 0, .int .i64 0, .int .i64 0, .int .i64 0, .int .i64 0, .int .i64 0, .int .i64 0, .slice none 0 0, .slice none 0 0, .int .i64 0, .int .i64 0, .int .i64 0, .int .i64 0, .int .i64 0, .int .i64 0, .int .i64 0, .int .i64 0, .string ⟨#[]⟩] 45)) W := by rw [← hW]; exact fr_setRow _ _ _
  clear hW
  have H0 : W.heap[w.heap.size]? = some (.cells cx.toArray 45 (0, 0)) := (fW.block w.heap.size (by show w.heap.size ≠ w.heap.size + 1; omega)).trans hh2.1
  have FW : Fr (· < w.heap.size) w W := hh2.2.2.2.trans (fW.mono (fun k hk => by show k ≠ w.heap.size + 1; omega))
  have hsz : w.heap.size + 2 ≤ W.heap.size := by have := fW.size; have := hh2.2.2.1; omega
  clear fW hh2
  have haW : At W (fun k => k < w.heap.size ∨ k = w.heap.size) ⟨w.heap.size, 0, none⟩ cx := by
    refine ⟨.inr rfl, fun j u hu => ?_⟩
    rw [Addr.add_lit, Nat.zero_add, blk_cell H0 j, blk_frozen H0 j]
    exact ⟨by simpa using hu, rfl⟩
  have hxW : EventC W (· < w.heap.size) cx x := hx.fr FW
  have hat := hxW.at_ haW
  simp only [Nat.zero_add] at hat
  obtain ⟨⟨f0, i0⟩, ⟨l1, f1, m1⟩, ⟨l2, f2, m2⟩, ⟨l3, f3, m3⟩, ⟨l4, f4, m4⟩, ⟨l5, f5, m5⟩, ⟨f6, i6⟩, ⟨f7, i7⟩, f8⟩ := hat
  have c0 : W.cell? ⟨w.heap.size, 0, none⟩ = some (.int .i64 9) := by rw [blk_cell H0 0]; simpa using hk0
  clear f0 hk0
  clear f1 f2 f3 f4 f5 f8
  have o25 : W.cell? ⟨w.heap.size + 1, 25, none⟩ = some (.int .i64 0) := blk_cell H1 25
  have z25 : W.frozen? ⟨w.heap.size + 1, 25, none⟩ = false := blk_frozen H1 25
  have o26 : W.cell? ⟨w.heap.size + 1, 26, none⟩ = some (.int .i64 0) := blk_cell H1 26
  have z26 : W.frozen? ⟨w.heap.size + 1, 26, none⟩ = false := blk_frozen H1 26
  have fS : Fr (fun k => k ≠ w.heap.size + 1) W ((W.setCell ⟨w.heap.size + 1, 25, none⟩ (.int .i64 x.a)).setCell ⟨w.heap.size + 1, 26, none⟩ (.int .i64 x.b)) := Fr.setCell (p := ⟨w.heap.size + 1, 26, none⟩) (Fr.setCell (p := ⟨w.heap.size + 1, 25, none⟩) (Fr.refl _ W) (fun h => h rfl) _) (fun h => h rfl) _
  have G0 := (fS.block w.heap.size (by show w.heap.size ≠ w.heap.size + 1; omega)).trans H0
  have G1 := heap_setCell_same (heap_setCell_same (H1) 25 (.int .i64 x.a)) 26 (.int .i64 x.b)
  have hput : (((evCells 9 zEntry zRate zHolding zMatch zStock 0 0 ⟨#[]⟩).toArray.setIfInBounds 25 (.int .i64 x.a)).setIfInBounds 26 (.int .i64 x.b)) = (evCells 9 zEntry zRate zHolding zMatch zStock x.a x.b ⟨#[]⟩).toArray := rfl
  rw [hput] at G1
  have FW2 : Fr (· < w.heap.size) w ((W.setCell ⟨w.heap.size + 1, 25, none⟩ (.int .i64 x.a)).setCell ⟨w.heap.size + 1, 26, none⟩ (.int .i64 x.b)) := FW.trans (fS.mono (fun k hk => by show k ≠ w.heap.size + 1; omega))
  have hz2 := fS.size
  have HG0 := Lib.hid G0
  have HG1 := Lib.hid G1
  clear G0 G1 hput H0 H1
  have HC45 := Lib.hid (size45 HLEN.out)
  have hE2 : EventC ((W.setCell ⟨w.heap.size + 1, 25, none⟩ (.int .i64 x.a)).setCell ⟨w.heap.size + 1, 26, none⟩ (.int .i64 x.b)) (fun k => k < w.heap.size) (evCells 9 zEntry zRate zHolding zMatch zStock x.a x.b ⟨#[]⟩) (ownEv x) := by
    rw [HOE.out]
    exact evC hkb (zEntryC _ _) (zRateC _ _) (zHoldingC _ _) (zMatchC _ _) (zStockC _ _) i6 i7
  have hX2 := hx.fr FW2
  have HC45b := Lib.hid (size45 hE2.len)
  have HX2 := Lib.hid hX2
  have HE2 := Lib.hid hE2
  have HOW := Lib.hid hown
  have HFW2 := Lib.hid FW2
  have HZ2 := Lib.hid hz2
  clear hX2 hE2 hown FW2 fS hz2
  go_wp2_with fail
  go_region
  go_wp2_with (first | refine wpList_load_row rfl 45 (.tmp 1) rfl w.heap.size rfl 45 cx.toArray (0, 0) _ HG0.out Try.underlying45 rfl HC45.out ?_ | refine wpList_load_row rfl 45 (.tmp 3) rfl (w.heap.size + 1) rfl 45 (evCells 9 zEntry zRate zHolding zMatch zStock x.a x.b ⟨#[]⟩).toArray (0, 0) _ HG1.out Try.underlying45 rfl HC45b.out ?_)
  have hz2 := HZ2.out
  have hsW : (((W.setCell ⟨w.heap.size + 1, 25, none⟩ (.int .i64 x.a)).setCell ⟨w.heap.size + 1, 26, none⟩ (.int .i64 x.b)).drew).heap.size = ((W.setCell ⟨w.heap.size + 1, 25, none⟩ (.int .i64 x.a)).setCell ⟨w.heap.size + 1, 26, none⟩ (.int .i64 x.b)).heap.size := rfl
  refine (sameEvent_c x (ownEv x) cx (evCells 9 zEntry zRate zHolding zMatch zStock x.a x.b ⟨#[]⟩) ((W.setCell ⟨w.heap.size + 1, 25, none⟩ (.int .i64 x.a)).setCell ⟨w.heap.size + 1, 26, none⟩ (.int .i64 x.b)).drew ((HX2.out.mono (fun k hk => by omega) : EventC ((W.setCell ⟨w.heap.size + 1, 25, none⟩ (.int .i64 x.a)).setCell ⟨w.heap.size + 1, 26, none⟩ (.int .i64 x.b)) (fun k => k < ((W.setCell ⟨w.heap.size + 1, 25, none⟩ (.int .i64 x.a)).setCell ⟨w.heap.size + 1, 26, none⟩ (.int .i64 x.b)).heap.size) _ _).drew_) ((HE2.out.mono (fun k hk => by omega) : EventC ((W.setCell ⟨w.heap.size + 1, 25, none⟩ (.int .i64 x.a)).setCell ⟨w.heap.size + 1, 26, none⟩ (.int .i64 x.b)) (fun k => k < ((W.setCell ⟨w.heap.size + 1, 25, none⟩ (.int .i64 x.a)).setCell ⟨w.heap.size + 1, 26, none⟩ (.int .i64 x.b)).heap.size) _ _).drew_) (by omega) (by have := HOW.out; omega)).mono ?_
  rintro e w3 ⟨rfl, hb3⟩
  go_wp2_with fail
  go_ret
  exact ⟨rfl, HFW2.out.below.drew.trans (hb3.mono (by omega))⟩

set_option maxHeartbeats 1000000 in
set_option maxRecDepth 100000 in
theorem proper_10 (x : XEvent) (cx : List Value) (w : World) (hx : EventC w (· < w.heap.size) cx x) (hLx : (encAll x).length + 100 ≤ Lim) (hk : x.kind = 10) :
    Calls Try.prog 19 #[.agg cx.toArray] w fun e w' => e = .returned (.bool (decide (encAll x = encAll (ownEv x)))) ∧ Below w.heap.size w w' := by
  have hlen := hx.len
  have hown := own_len x
  have hkk : cx[0]? = some (.int .i64 x.kind) ∧ intBd x.kind := by
    obtain ⟨_, _, _, _, _, _, _, _, _, rfl, ⟨rfl, k0⟩, _⟩ := hx
    exact ⟨rfl, k0⟩
  obtain ⟨hk0, hkb⟩ := hkk
  rw [hk] at hk0 hkb
  have hoe : ownEv x = { kind := 10, a := x.a, b := x.b, text := x.text } := by simp [ownEv, hk]
  have HOE := Lib.hid hoe
  have HLEN := Lib.hid hlen
  clear hoe hk hlen
  go_enter Try.func19, Try.ntmps19
  go_upto_region 2 with (refine wpList_store_row rfl 45 (.tmp 3) (.tmp 6) rfl (w.heap.size + 1) _ rfl rfl 45 _ (heap2 w _ _).2.1 info45 rfl (by simp only [List.all_toArray, List.all_cons, List.all_nil, Value.oneCell', Bool.and_true]) ?_)
  generalize hW : World.setRow ((w.alloc (.cells cx.toArray 45)).alloc (.cells #[.int .i64 0, .int .i64 0, .int .i64 0, .int .i64 0, .int .i64 0, .int .i64 0, .string ⟨#[]⟩, .slice none 0 0, .string ⟨#[]⟩, .int .i64 0, .int .i64 0, .int .i64 0, .int .i64 0, .int .i64 0, .int .i64 0, .int .i64 0, .int .i64 0, .slice none 0 0, .slice none 0 0, .int .i64 0, .int .i64 0, .int .i64 0, .int .i64 0, .int .i64 0, .int .i64 0, .int .i64 0, .int .i64 0, .string ⟨#[]⟩] 45)) (w.heap.size + 1) #[.int .i64 10, .int .i64 0, .int .i64 0, .int .i64 0, .int .i64 0, .int .i64 0, .string ⟨#[]⟩, .slice none 0 0, .string ⟨#[]⟩, .int .i64 0, .int .i64 0, .int .i64 0, .int .i64 0, .int .i64 0, .int .i64 0, .int .i64 0, .int .i64 0, .slice none 0 0, .slice none 0 0, .int .i64 0, .int .i64 0, .int .i64 0, .int .i64 0, .int .i64 0, .int .i64 0, .int .i64 0, .int .i64 0, .string ⟨#[]⟩] = W
  have hh2 := heap2 w (.cells cx.toArray 45) (.cells #[.int .i64 0, .int .i64 0, .int .i64 0, .int .i64 0, .int .i64 0, .int .i64 0, .string ⟨#[]⟩, .slice none 0 0, .string ⟨#[]⟩, .int .i64 0, .int .i64 0, .int .i64 0, .int .i64 0, .int .i64 0, .int .i64 0, .int .i64 0, .int .i64 0, .slice none 0 0, .slice none 0 0, .int .i64 0, .int .i64 0, .int .i64 0, .int .i64 0, .int .i64 0, .int .i64 0, .int .i64 0, .int .i64 0, .string ⟨#[]⟩] 45)
  have H1 : W.heap[w.heap.size + 1]? = some (.cells (evCells 10 zEntry zRate zHolding zMatch zStock 0 0 ⟨#[]⟩).toArray 45 (0, 0)) := by rw [← hW]; exact heap_setRow hh2.2.1 _
  have fW : Fr (fun k => k ≠ w.heap.size + 1) ((w.alloc (.cells cx.toArray 45)).alloc (.cells #[.int .i64 0, .int .i64 0, .int .i64 0, .int .i64 0, .int .i64 0, .int .i64 0, .string ⟨#[]⟩, .slice none 0 0, .string ⟨#[]⟩, .int .i64 0, .int .i64 0, .int .i64 0, .int .i64 0, .int .i64 0, .int .i64 0, .int .i64 0, .int .i64 0, .slice none 0 0, .slice none 0 0, .int .i64 0, .int .i64 0, .int .i64 0, .int .i64 0, .int .i64 0, .int .i64 0, .int .i64 0, .int .i64 0, .string ⟨#[]⟩] 45)) W := by rw [← hW]; exact fr_setRow _ _ _
  clear hW
  have H0 : W.heap[w.heap.size]? = some (.cells cx.toArray 45 (0, 0)) := (fW.block w.heap.size (by show w.heap.size ≠ w.heap.size + 1; omega)).trans hh2.1
  have FW : Fr (· < w.heap.size) w W := hh2.2.2.2.trans (fW.mono (fun k hk => by show k ≠ w.heap.size + 1; omega))
  have hsz : w.heap.size + 2 ≤ W.heap.size := by have := fW.size; have := hh2.2.2.1; omega
  clear fW hh2
  have haW : At W (fun k => k < w.heap.size ∨ k = w.heap.size) ⟨w.heap.size, 0, none⟩ cx := by
    refine ⟨.inr rfl, fun j u hu => ?_⟩
    rw [Addr.add_lit, Nat.zero_add, blk_cell H0 j, blk_frozen H0 j]
    exact ⟨by simpa using hu, rfl⟩
  have hxW : EventC W (· < w.heap.size) cx x := hx.fr FW
  have hat := hxW.at_ haW
  simp only [Nat.zero_add] at hat
  obtain ⟨⟨f0, i0⟩, ⟨l1, f1, m1⟩, ⟨l2, f2, m2⟩, ⟨l3, f3, m3⟩, ⟨l4, f4, m4⟩, ⟨l5, f5, m5⟩, ⟨f6, i6⟩, ⟨f7, i7⟩, f8⟩ := hat
  have c0 : W.cell? ⟨w.heap.size, 0, none⟩ = some (.int .i64 10) := by rw [blk_cell H0 0]; simpa using hk0
  clear f0 hk0
  clear f1 f2 f3 f4 f5 
  have o25 : W.cell? ⟨w.heap.size + 1, 25, none⟩ = some (.int .i64 0) := blk_cell H1 25
  have z25 : W.frozen? ⟨w.heap.size + 1, 25, none⟩ = false := blk_frozen H1 25
  have o26 : W.cell? ⟨w.heap.size + 1, 26, none⟩ = some (.int .i64 0) := blk_cell H1 26
  have z26 : W.frozen? ⟨w.heap.size + 1, 26, none⟩ = false := blk_frozen H1 26
  have o27 : W.cell? ⟨w.heap.size + 1, 27, none⟩ = some (.string ⟨#[]⟩) := blk_cell H1 27
  have z27 : W.frozen? ⟨w.heap.size + 1, 27, none⟩ = false := blk_frozen H1 27
  have fS : Fr (fun k => k ≠ w.heap.size + 1) W (((W.setCell ⟨w.heap.size + 1, 25, none⟩ (.int .i64 x.a)).setCell ⟨w.heap.size + 1, 26, none⟩ (.int .i64 x.b)).setCell ⟨w.heap.size + 1, 27, none⟩ (.string x.text)) := Fr.setCell (p := ⟨w.heap.size + 1, 27, none⟩) (Fr.setCell (p := ⟨w.heap.size + 1, 26, none⟩) (Fr.setCell (p := ⟨w.heap.size + 1, 25, none⟩) (Fr.refl _ W) (fun h => h rfl) _) (fun h => h rfl) _) (fun h => h rfl) _
  have G0 := (fS.block w.heap.size (by show w.heap.size ≠ w.heap.size + 1; omega)).trans H0
  have G1 := heap_setCell_same (heap_setCell_same (heap_setCell_same (H1) 25 (.int .i64 x.a)) 26 (.int .i64 x.b)) 27 (.string x.text)
  have hput : ((((evCells 10 zEntry zRate zHolding zMatch zStock 0 0 ⟨#[]⟩).toArray.setIfInBounds 25 (.int .i64 x.a)).setIfInBounds 26 (.int .i64 x.b)).setIfInBounds 27 (.string x.text)) = (evCells 10 zEntry zRate zHolding zMatch zStock x.a x.b x.text).toArray := rfl
  rw [hput] at G1
  have FW2 : Fr (· < w.heap.size) w (((W.setCell ⟨w.heap.size + 1, 25, none⟩ (.int .i64 x.a)).setCell ⟨w.heap.size + 1, 26, none⟩ (.int .i64 x.b)).setCell ⟨w.heap.size + 1, 27, none⟩ (.string x.text)) := FW.trans (fS.mono (fun k hk => by show k ≠ w.heap.size + 1; omega))
  have hz2 := fS.size
  have HG0 := Lib.hid G0
  have HG1 := Lib.hid G1
  clear G0 G1 hput H0 H1
  have HC45 := Lib.hid (size45 HLEN.out)
  have hE2 : EventC (((W.setCell ⟨w.heap.size + 1, 25, none⟩ (.int .i64 x.a)).setCell ⟨w.heap.size + 1, 26, none⟩ (.int .i64 x.b)).setCell ⟨w.heap.size + 1, 27, none⟩ (.string x.text)) (fun k => k < w.heap.size) (evCells 10 zEntry zRate zHolding zMatch zStock x.a x.b x.text) (ownEv x) := by
    rw [HOE.out]
    exact evC hkb (zEntryC _ _) (zRateC _ _) (zHoldingC _ _) (zMatchC _ _) (zStockC _ _) i6 i7
  have hX2 := hx.fr FW2
  have HC45b := Lib.hid (size45 hE2.len)
  have HX2 := Lib.hid hX2
  have HE2 := Lib.hid hE2
  have HOW := Lib.hid hown
  have HFW2 := Lib.hid FW2
  have HZ2 := Lib.hid hz2
  clear hX2 hE2 hown FW2 fS hz2
  go_wp2_with fail
  go_region
  go_wp2_with (first | refine wpList_load_row rfl 45 (.tmp 1) rfl w.heap.size rfl 45 cx.toArray (0, 0) _ HG0.out Try.underlying45 rfl HC45.out ?_ | refine wpList_load_row rfl 45 (.tmp 3) rfl (w.heap.size + 1) rfl 45 (evCells 10 zEntry zRate zHolding zMatch zStock x.a x.b x.text).toArray (0, 0) _ HG1.out Try.underlying45 rfl HC45b.out ?_)
  have hz2 := HZ2.out
  have hsW : ((((W.setCell ⟨w.heap.size + 1, 25, none⟩ (.int .i64 x.a)).setCell ⟨w.heap.size + 1, 26, none⟩ (.int .i64 x.b)).setCell ⟨w.heap.size + 1, 27, none⟩ (.string x.text)).drew).heap.size = (((W.setCell ⟨w.heap.size + 1, 25, none⟩ (.int .i64 x.a)).setCell ⟨w.heap.size + 1, 26, none⟩ (.int .i64 x.b)).setCell ⟨w.heap.size + 1, 27, none⟩ (.string x.text)).heap.size := rfl
  refine (sameEvent_c x (ownEv x) cx (evCells 10 zEntry zRate zHolding zMatch zStock x.a x.b x.text) (((W.setCell ⟨w.heap.size + 1, 25, none⟩ (.int .i64 x.a)).setCell ⟨w.heap.size + 1, 26, none⟩ (.int .i64 x.b)).setCell ⟨w.heap.size + 1, 27, none⟩ (.string x.text)).drew ((HX2.out.mono (fun k hk => by omega) : EventC (((W.setCell ⟨w.heap.size + 1, 25, none⟩ (.int .i64 x.a)).setCell ⟨w.heap.size + 1, 26, none⟩ (.int .i64 x.b)).setCell ⟨w.heap.size + 1, 27, none⟩ (.string x.text)) (fun k => k < (((W.setCell ⟨w.heap.size + 1, 25, none⟩ (.int .i64 x.a)).setCell ⟨w.heap.size + 1, 26, none⟩ (.int .i64 x.b)).setCell ⟨w.heap.size + 1, 27, none⟩ (.string x.text)).heap.size) _ _).drew_) ((HE2.out.mono (fun k hk => by omega) : EventC (((W.setCell ⟨w.heap.size + 1, 25, none⟩ (.int .i64 x.a)).setCell ⟨w.heap.size + 1, 26, none⟩ (.int .i64 x.b)).setCell ⟨w.heap.size + 1, 27, none⟩ (.string x.text)) (fun k => k < (((W.setCell ⟨w.heap.size + 1, 25, none⟩ (.int .i64 x.a)).setCell ⟨w.heap.size + 1, 26, none⟩ (.int .i64 x.b)).setCell ⟨w.heap.size + 1, 27, none⟩ (.string x.text)).heap.size) _ _).drew_) (by omega) (by have := HOW.out; omega)).mono ?_
  rintro e w3 ⟨rfl, hb3⟩
  go_wp2_with fail
  go_ret
  exact ⟨rfl, HFW2.out.below.drew.trans (hb3.mono (by omega))⟩

theorem proper_c (x : XEvent) (cx : List Value) (w : World) (hx : EventC w (· < w.heap.size) cx x) (hLx : (encAll x).length + 100 ≤ Lim) :
    Calls Try.prog 19 #[.agg cx.toArray] w fun e w' => e = .returned (.bool (properB x)) ∧ Below w.heap.size w w' := by
  by_cases hk : known x.kind = true
  · have h2 : 1 ≤ x.kind ∧ x.kind ≤ 10 := by simpa [known] using hk
    have e : properB x = decide (encAll x = encAll (ownEv x)) := by unfold properB; rw [hk, Bool.true_and]
    rw [e]
    have hc : x.kind = 1 ∨ x.kind = 2 ∨ x.kind = 3 ∨ x.kind = 4 ∨ x.kind = 5 ∨ x.kind = 6 ∨ x.kind = 7 ∨ x.kind = 8 ∨ x.kind = 9 ∨ x.kind = 10 := by omega
    rcases hc with h | h | h | h | h | h | h | h | h | h
    · exact proper_1 x cx w hx hLx h
    · exact proper_2 x cx w hx hLx h
    · exact proper_3 x cx w hx hLx h
    · exact proper_4 x cx w hx hLx h
    · exact proper_5 x cx w hx hLx h
    · exact proper_6 x cx w hx hLx h
    · exact proper_7 x cx w hx hLx h
    · exact proper_8 x cx w hx hLx h
    · exact proper_9 x cx w hx hLx h
    · exact proper_10 x cx w hx hLx h
  · have hk : known x.kind = false := by simpa using hk
    have e : properB x = false := by unfold properB; rw [hk, Bool.false_and]
    rw [e]
    exact proper_0 x cx w hx hLx hk
end Go.Proofs.Ytgdibeegheddmaa
