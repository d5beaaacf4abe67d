/- Maps of bools that the call itself makes. Written by gen_b7.py. -/
import Derived.Test.YtnigokmjehemaaaProg
import Derived.Test.YtnigokmjehemaaaB0Base
import Derived.Maps.Views
namespace Go.Proofs.Ytnigokmjehemaaa
open Go Go.RowKit
open Go.Maps (Keyed)
set_option linter.unusedVariables false
set_option linter.unusedSimpArgs false
attribute [local go_sem ↓] Go.wp_at_zero Go.wp_at_succ
abbrev UD := DataW Unit
theorem plainElem_bool_inv {P : Program} {e : TypeId} (he : P.underlying e = some .bool) {v : Value} {z : UD × List MemPlace} (h : plainElem P e v = some z) : ∃ a, v = .bool a ∧ z = (.lit (.bool a), []) := by
  unfold plainElem at h
  rw [he] at h
  cases v <;> simp at h
  exact ⟨_, rfl, h.symm⟩
/-- Block b is a map of bools of at most n entries: f says what stands at each key. -/
def SetK {α : Type} (P : Program) (k e : TypeId) (κ : α → Lit) (w : World) (b n : Nat) (f : α → Bool) : Prop :=
  ∃ D : UD, w.ownsMap P k (plainElem P e) b n D ∧ ∀ c, D.atKey (κ c) (.lit (.bool false)) = .lit (.bool (f c))
section
variable {α : Type} {P : Program} {k e t : TypeId} {κ : α → Lit} {w w' : World} {b n : Nat} {f : α → Bool}
theorem SetK.made (P : Program) (k e : TypeId) (κ : α → Lit) (w : World) : SetK P k e κ (w.alloc (.map #[] 0)) w.heap.size 0 (fun _ => false) :=
  ⟨_, World.ownsMap_made w P k _, fun _ => rfl⟩
theorem SetK.kept {row : Option Nat} (h : SetK P k e κ w b n f) (hg : w.grownBy w' row) (hne : some b ≠ row) : SetK P k e κ w' b n f := by
  obtain ⟨D, h1, h2⟩ := h
  exact ⟨D, h1.kept hg hne, h2⟩
theorem SetK.lt (h : SetK P k e κ w b n f) : b < w.heap.size := by
  obtain ⟨D, h1, h2⟩ := h
  exact h1.lt
theorem SetK.fr {Q : Nat → Prop} (h : SetK P k e κ w b n f) (hf : Fr Q w w') (hb : Q b) : SetK P k e κ w' b n f := by
  obtain ⟨D, ⟨es, clock, h1, h3, h4, h5⟩, h2⟩ := h
  exact ⟨D, ⟨es, clock, (hf.block b hb).trans h1, h3, h4, h5⟩, h2⟩
theorem SetK.below (h : SetK P k e κ w b n f) (hb : Below w.heap.size w w') : SetK P k e κ w' b n f := h.fr (Fr.ofBelow hb) h.lt
theorem SetK.mono (h : SetK P k e κ w b n f) {n' : Nat} (hn : n ≤ n') : SetK P k e κ w b n' f := by
  obtain ⟨D, h1, h2⟩ := h
  exact ⟨D, h1.mono hn, h2⟩
theorem SetK.eqv {g : α → Bool} (h : SetK P k e κ w b n f) (hg : ∀ c, f c = g c) : SetK P k e κ w b n g := by
  obtain ⟨D, h1, h2⟩ := h
  exact ⟨D, h1, fun c => by rw [h2 c, hg c]⟩
theorem SetK.look (h : SetK P k e κ w b n f) (K : Keyed P k) (ht : P.underlying t = some (.map k e)) (he : P.underlying e = some .bool) (hz : (zeroValue e).run P w = .ok (.bool false) w)
    {key : Value} {c : α} (hkey : keyOf P k key = some (κ c)) : (Instr.lookup t (.map (some b)) key false).run P w = .ok (.bool (f c)) w := by
  obtain ⟨D, h1, h2⟩ := h
  obtain ⟨v, ps, hrun, hv⟩ := h1.lookup K ht hz (plainElem_bool he false) hkey
  obtain ⟨a, rfl, ha⟩ := plainElem_bool_inv he hv
  rw [h2 c] at ha
  simp only [Prod.mk.injEq, DataW.lit.injEq, Lit.bool.injEq] at ha
  rw [hrun, ha.1]
theorem SetK.store [DecidableEq α] (h : SetK P k e κ w b n f) (K : Keyed P k) (ht : P.underlying t = some (.map k e)) (he : P.underlying e = some .bool) (hn : n < maxLen) (hκ : ∀ x y, κ x = κ y → x = y) (hl : ∀ x, WideAt.IsKeyLit (κ x))
    {key : Value} {c : α} (x : Bool) (hkey : keyOf P k key = some (κ c)) :
    ∃ w', (Instr.mapUpdate t (.map (some b)) key (.bool x)).run P w = .ok () w' ∧ SetK P k e κ w' b (n + 1) (fun d => if d = c then x else f d) ∧ w.grownBy w' (some b) := by
  obtain ⟨D, h1, h2⟩ := h
  obtain ⟨w2, hrun, h3, h4⟩ := h1.update K ht hn hkey (plainElem_bool he x)
  refine ⟨w2, hrun, ⟨_, h3, fun d => ?_⟩, h4⟩
  have hm : Maps.IsMap D := by obtain ⟨es, clock, _, _, _, e⟩ := h1; exact ⟨_, e⟩
  by_cases hd : d = c
  · subst hd
    rw [Maps.atKey_put_same hm (hl d)]; simp
  · rw [Maps.atKey_put_other (fun e => hd (hκ _ _ e)), h2 d]; simp [hd]
end
/-- 'm[k]' at the operation. -/
theorem wpList_look_set {α : Type} {P : Program} {κ : α → Lit} {ops : Array Oper} {rest : List Oper} {o : Oper} {a : Act} {w : World} {Q : Exit → Act → World → Prop} (hw : Region.wanted o (yielded ops a.tmps) = true) (m x : Operand) (t : TypeId) (hop : o.op = Op.lookup t m x false)
    (k e : TypeId) (K : Keyed P k) (ht : P.underlying t = some (.map k e)) (he : P.underlying e = some .bool) (hz : (zeroValue e).run P w = .ok (.bool false) w) (b n : Nat) (f : α → Bool)
    (hm : a.eval m = .map (some b)) (h : SetK P k e κ w b n f) (key : Value) (c : α) (hx : a.eval x = key) (hkey : keyOf P k key = some (κ c))
    (hK : wpList P ops Q rest (a.put o.dst (.bool (f c))) w) : wpList P ops Q (o :: rest) a w :=
  wpList_step fun K' hK' => by
    rw [if_pos hw]
    have hrun := h.look K ht he hz hkey
    unfold Oper.wp
    simp [execOp, hop, hm, hx, hrun, Result.andThen]
    exact hK' _ _ hK
/-- 'm[k] = x' at the operation. -/
theorem wpList_store_set {α : Type} [DecidableEq α] {P : Program} {κ : α → Lit} {ops : Array Oper} {rest : List Oper} {o : Oper} {a : Act} {w : World} {Q : Exit → Act → World → Prop} (hg : o.guard = none) (m x v : Operand) (t : TypeId) (hop : o.op = Op.mapUpdate t m x v)
    (k e : TypeId) (K : Keyed P k) (ht : P.underlying t = some (.map k e)) (he : P.underlying e = some .bool) (b n : Nat) (f : α → Bool)
    (hm : a.eval m = .map (some b)) (h : SetK P k e κ w b n f) (hn : n < maxLen) (hκ : ∀ x y, κ x = κ y → x = y) (hl : ∀ x, WideAt.IsKeyLit (κ x)) (key : Value) (c : α) (hx : a.eval x = key) (xv : Bool) (hv : a.eval v = .bool xv) (hkey : keyOf P k key = some (κ c))
    (hK : ∀ w', SetK P k e κ w' b (n + 1) (fun d => if d = c then xv else f d) → w.grownBy w' (some b) → wpList P ops Q rest (a.put o.dst undef) w') : wpList P ops Q (o :: rest) a w := by
  refine wpList_plain hg fun K' hK' => ?_
  obtain ⟨w', hrun, r1, r2⟩ := h.store K ht he hn hκ hl xv hkey
  unfold Oper.wp
  simp [execOp, hop, hm, hx, hv, hrun, Result.andThen]
  exact hK' _ _ (hK w' r1 r2)
/-- Keys that are ints. -/
def iKey (n : Int) : Lit := .int .i64 n
theorem iKey_inj (x y : Int) (h : iKey x = iKey y) : x = y := by unfold iKey at h; injection h
theorem iKey_lit (x : Int) : WideAt.IsKeyLit (iKey x) := by unfold iKey; first | trivial | exact Or.inl trivial | simp [WideAt.IsKeyLit]
theorem int_uty : Try.prog.underlying 3 = some (.int .i64) := by kernel_rfl
theorem bool_uty : Try.prog.underlying 4 = some .bool := by kernel_rfl
theorem bool_zero (w : World) : (zeroValue 4).run Try.prog w = .ok (.bool false) w := by kernel_rfl
theorem imap_uty : Try.prog.underlying 204 = some (.map 3 4) := by kernel_rfl
theorem int_keyed3 : Keyed Try.prog 3 := Maps.int_keyed int_uty
theorem iKey_of {n : Int} (h : intBd n) : keyOf Try.prog 3 (.int .i64 n) = some (iKey n) := Maps.keyOf_int_mk int_uty (WalkArith.wf_i64 h)
abbrev SetI (w : World) (b n : Nat) (f : Int → Bool) : Prop := SetK Try.prog 3 4 iKey w b n f
end Go.Proofs.Ytnigokmjehemaaa
