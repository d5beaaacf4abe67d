/- 'm[k] += v' in a region that draws its order: the entry may be laid before or behind the look-up. -/
import Derived.Test.YtnigokmjehemaaaJB14B15
import Derived.Test.YtnigokmjehemaaaJE1E4
import Derived.Test.YtnigokmjehemaaaJE5E7
import Derived.Test.YtnigokmjehemaaaJE8E9
import Derived.Test.YtnigokmjehemaaaJS0S5
import Derived.WideKeyEntry
import Derived.Maps.RangeWalk
import Derived.Test.YtnigokmjehemaaaProg
import Derived.Maps.Views
import Derived.Sort.Grow
import Derived.Shelf.SlSortCmp.WholeK
import Derived.Shelf.SlSortCmp.NoneTotal
import Derived.IntWalk
namespace Go.Proofs.Ytnigokmjehemaaa
open Go Go.RowKit Go.ChangeShapes Go.WideShapes Go.MapKept Go.ChangeMaps
open Go.WideElems (Fit rd rg pl rd_key findIdx_born findIdx_arr modify_last set_self)
open Go.Maps (Keyed)
set_option linter.unusedVariables false
set_option linter.unusedSimpArgs false
theorem key_uniq {l : List MapEntry} (hn : (l.map (·.key)).Nodup) {i j : Nat} {a c : MapEntry} (hi : l[i]? = some a) (hj : l[j]? = some c) (h : a.key = c.key) : i = j := by
  obtain ⟨hi1, hi2⟩ := List.getElem?_eq_some_iff.1 hi
  obtain ⟨hj1, hj2⟩ := List.getElem?_eq_some_iff.1 hj
  rcases Nat.lt_trichotomy i j with h' | h' | h'
  · exfalso
    have hp := List.pairwise_iff_getElem.1 hn i j (by simpa using hi1) (by simpa using hj1) h'
    simp only [List.getElem_map] at hp
    rw [hi2, hj2] at hp
    exact hp h
  · exact h'
  · exfalso
    have hp := List.pairwise_iff_getElem.1 hn j i (by simpa using hj1) (by simpa using hi1) h'
    simp only [List.getElem_map] at hp
    rw [hi2, hj2] at hp
    exact hp h.symm
section
variable {H : Type} {P : Program} {w : World} {t k e : TypeId} {R : Value → Option (DataW H × List MemPlace)} {b : Nat} {es : Array MapEntry} {clock : Nat}
theorem op_assign (K : Keyed P k) (ht : P.underlying t = some (.map k e)) {z : Value} (hz : ∀ u : World, (zeroValue e).run P u = .ok z u) (hb : w.heap[b]? = some (.map es clock)) (F : Fit P k R es clock)
    {key : Value} {kl : Lit} (hkey : keyOf P k key = some kl) :
    ∃ (v0 : Value) (st : Nat) (es1 : Array MapEntry) (clock1 : Nat),
      (∀ u : World, (u.heap[b]? = some (.map es clock) ∨ u.heap[b]? = some (.map es1 clock1)) → (Instr.lookup t (.map (some b)) key false).run P u = .ok v0 u ∧ (Instr.mapEntry t (.map (some b)) key).run P u = .ok (.tuple #[v0, goInt st]) (setBlock u b (.map es1 clock1))) ∧
      ∀ val : Value, ∃ es' clock', (∀ u : World, u.heap[b]? = some (.map es1 clock1) → (Instr.entryStore t (.map (some b)) (goInt st) val).run P u = .ok () (setBlock u b (.map es' clock'))) ∧
        (Instr.mapUpdate t (.map (some b)) key val).run P w = .ok () (setBlock w b (.map es' clock')) := by
  obtain ⟨s1, s2, _⟩ := F.stamped
  rcases K.find w hkey es.toList F.keys with ⟨h1, h2⟩ | ⟨j, e0, h1, h2, h3⟩
  · have hself : (es.push ⟨key, z, clock⟩).modify es.size (fun e => { e with key := key }) = es.push ⟨key, z, clock⟩ := by
      apply Array.ext'
      rw [Array.toList_modify, Array.toList_push, ← Array.length_toList, modify_last]
    have hks : ∀ x ∈ (es.push (⟨key, z, clock⟩ : MapEntry)).toList, ∃ l, keyOf P k x.key = some l := fun x hx => by
      simp only [Array.toList_push, List.mem_append, List.mem_singleton] at hx
      rcases hx with hx | rfl
      · exact F.keys x hx
      · exact ⟨kl, hkey⟩
    refine ⟨z, clock, es.push ⟨key, z, clock⟩, clock + 1, fun u hu => ?_, fun val => ⟨es.push ⟨key, val, clock⟩, clock + 1, fun u hu => ?_, ?_⟩⟩
    · rcases hu with hu | hu
      · have h1u : (Instr.findKey k key es.toList).run P u = .ok none u := by
          rcases K.find u hkey es.toList F.keys with ⟨g1, _⟩ | ⟨j, e0, _, g2, g3⟩
          · exact g1
          · exact absurd g3 (h2 e0 (List.mem_of_getElem? g2))
        exact ⟨by simp [Instr.lookup, run_underlying ht, MapKept.run_getObj_map hu, K.check u _ hkey, h1u, hz, Result.andThen],
          by simp [Instr.mapEntry, run_underlying ht, MapKept.run_getObj_map hu, K.check u false hkey, h1u, hz, MapKept.run_setObj_map _ hu, Result.andThen, setBlock]⟩
      · rcases K.find u hkey (es.push (⟨key, z, clock⟩ : MapEntry)).toList hks with ⟨_, g2⟩ | ⟨j, e0, g1, g2, g3⟩
        · exact absurd rfl (g2 ⟨key, z, clock⟩ (by simp))
        · have hj : j = es.size ∧ e0 = ⟨key, z, clock⟩ := by
            rw [Array.toList_push] at g2
            rcases Nat.lt_or_ge j es.toList.length with hl | hl
            · rw [List.getElem?_append_left hl] at g2
              exact absurd g3 (h2 e0 (List.mem_of_getElem? g2))
            · rw [List.getElem?_append_right hl] at g2
              have hl1 := (List.getElem?_eq_some_iff.1 g2).1
              simp only [List.length_singleton] at hl1
              have h0 : j - es.toList.length = 0 := by omega
              rw [h0] at g2
              simp only [List.getElem?_cons_zero, Option.some.injEq] at g2
              exact ⟨by rw [Array.length_toList] at hl h0; omega, g2.symm⟩
          obtain ⟨rfl, rfl⟩ := hj
          simp only [Array.toList_push] at g1
          exact ⟨by simp [Instr.lookup, run_underlying ht, MapKept.run_getObj_map hu, K.check u _ hkey, g1, Result.andThen],
            by simp [Instr.mapEntry, run_underlying ht, MapKept.run_getObj_map hu, K.check u false hkey, g1, K.stays u hkey, hself, MapKept.run_setObj_map _ hu, Result.andThen, setBlock]⟩
    · have hidx : (es.push ⟨key, z, clock⟩).findIdx? (fun e => ((e.born : Nat) : Int) == ((clock : Nat) : Int)) = some es.size := by
        rw [findIdx_arr]
        exact findIdx_born (l := (es.push ⟨key, z, clock⟩).toList) (j := es.size) (e0 := ⟨key, z, clock⟩) (by
          simp only [Array.toList_push, List.map_append, List.map_cons, List.map_nil]
          refine List.nodup_append.2 ⟨s2, by simp, fun a ha c hc e1 => ?_⟩
          simp only [List.mem_singleton] at hc
          obtain ⟨x, hx, rfl⟩ := List.mem_map.1 ha
          have := s1 x hx
          omega) (by simp)
      have hmod : (es.push ⟨key, z, clock⟩).modify es.size (fun e => { e with val := val }) = es.push ⟨key, val, clock⟩ := by
        apply Array.ext'
        rw [Array.toList_modify, Array.toList_push, Array.toList_push, ← Array.length_toList, modify_last]
      simp [Instr.entryStore, MapKept.run_getObj_map hu, asInt, asIntOf, goInt, hidx, hmod, MapKept.run_setObj_map _ hu, Result.andThen, setBlock]
    · simp [Instr.mapUpdate, run_underlying ht, MapKept.run_getObj_map hb, K.check w false hkey, h1, MapKept.run_setObj_map _ hb, Result.andThen, setBlock]
  · have hj : es[j]? = some e0 := by simpa using h2
    have hsame : es.modify j (fun e => { e with key := key }) = es := by
      apply Array.ext'
      rw [Array.toList_modify, modify_eq_set _ _ _ _ h2]
      have : ({ e0 with key := key } : MapEntry) = e0 := by rw [← h3]
      rw [this]
      exact set_self _ _ _ h2
    have hu1 : ∀ u : World, (Instr.findKey k key es.toList).run P u = .ok (some (j, e0.val)) u := fun u => by
      rcases K.find u hkey es.toList F.keys with ⟨_, g2⟩ | ⟨j', e', g1, g2, g3⟩
      · exact absurd h3 (g2 e0 (List.mem_of_getElem? h2))
      · have hne : j' = j := key_uniq F.stamped.2.2 g2 h2 (g3.trans h3.symm)
        subst hne
        rw [h2] at g2
        cases g2
        exact g1
    refine ⟨e0.val, e0.born, es, clock, fun u hu => ?_, fun val => ⟨es.modify j (fun e' => { e' with key := key, val := val }), clock, fun u hu => ?_, ?_⟩⟩
    · have hu : u.heap[b]? = some (.map es clock) := hu.elim id id
      exact ⟨by simp [Instr.lookup, run_underlying ht, MapKept.run_getObj_map hu, K.check u _ hkey, hu1, Result.andThen],
        by simp [Instr.mapEntry, run_underlying ht, MapKept.run_getObj_map hu, K.check u false hkey, hu1, hj, h3, K.stays u hkey, hsame, MapKept.run_setObj_map _ hu, Result.andThen, setBlock]⟩
    · have hidx : es.findIdx? (fun e => ((e.born : Nat) : Int) == ((e0.born : Nat) : Int)) = some j := by
        rw [findIdx_arr]
        exact findIdx_born s2 h2
      have hmod : es.modify j (fun e => { e with val := val }) = es.modify j (fun e' => { e' with key := key, val := val }) := by
        apply Array.ext'
        rw [Array.toList_modify, Array.toList_modify, modify_eq_set _ _ _ _ h2, modify_eq_set _ _ _ _ h2, ← h3]
      simp [Instr.entryStore, MapKept.run_getObj_map hu, asInt, asIntOf, goInt, hidx, hmod, MapKept.run_setObj_map _ hu, Result.andThen, setBlock]
    · simp [Instr.mapUpdate, run_underlying ht, MapKept.run_getObj_map hb, K.check w false hkey, h1, hj, h3, K.stays w hkey, MapKept.run_setObj_map _ hb, Result.andThen, setBlock]
end
end Go.Proofs.Ytnigokmjehemaaa

/- Maps of ints that the call itself makes; keys that are pairs of ints. -/
namespace Go.Proofs.Ytnigokmjehemaaa
open Go Go.RowKit Go.ChangeMaps
open Go.Maps (Keyed)
open Go.WideMaps (KeyLaw)
set_option linter.unusedVariables false
set_option linter.unusedSimpArgs false
set_option maxRecDepth 4000
attribute [local go_sem ↓] Go.wp_at_zero Go.wp_at_succ
/-- Block b is a map of ints of at most n entries: f says what stands at each key. -/
def MapN {α : Type} (P : Program) (k e : TypeId) (κ : α → Lit) (w : World) (b n : Nat) (f : α → Int) : Prop :=
  ∃ D : UD, w.ownsMap P k (plainElem P e) b n D ∧ ∀ c, D.atKey (κ c) (.lit (.int .i64 0)) = .lit (.int .i64 (f c))
section
variable {α : Type} {P : Program} {k e t : TypeId} {κ : α → Lit} {w w' : World} {b n : Nat} {f : α → Int}
theorem MapN.made (P : Program) (k e : TypeId) (κ : α → Lit) (w : World) : MapN P k e κ (w.alloc (.map #[] 0)) w.heap.size 0 (fun _ => 0) :=
  ⟨_, World.ownsMap_made w P k _, fun _ => rfl⟩
theorem MapN.kept {row : Option Nat} (h : MapN P k e κ w b n f) (hg : w.grownBy w' row) (hne : some b ≠ row) : MapN P k e κ w' b n f := by
  obtain ⟨D, h1, h2⟩ := h
  exact ⟨D, h1.kept hg hne, h2⟩
theorem MapN.lt (h : MapN P k e κ w b n f) : b < w.heap.size := by
  obtain ⟨D, h1, h2⟩ := h
  exact h1.lt
theorem MapN.same (h : MapN P k e κ w b n f) (hb : w'.heap[b]? = w.heap[b]?) : MapN P k e κ w' b n f := by
  obtain ⟨D, ⟨es, clock, h1, h3, h4, h5⟩, h2⟩ := h
  exact ⟨D, ⟨es, clock, hb.trans h1, h3, h4, h5⟩, h2⟩
theorem MapN.fr {Q : Nat → Prop} (h : MapN P k e κ w b n f) (hf : Fr Q w w') (hb : Q b) : MapN P k e κ w' b n f := h.same (hf.block b hb)
theorem MapN.below (h : MapN P k e κ w b n f) (hb : Below w.heap.size w w') : MapN P k e κ w' b n f := h.fr (Fr.ofBelow hb) h.lt
theorem MapN.mono (h : MapN P k e κ w b n f) {n' : Nat} (hn : n ≤ n') : MapN P k e κ w b n' f := by
  obtain ⟨D, h1, h2⟩ := h
  exact ⟨D, h1.mono hn, h2⟩
theorem MapN.eqv {g : α → Int} (h : MapN P k e κ w b n f) (hg : ∀ c, f c = g c) : MapN P k e κ w b n g := by
  obtain ⟨D, h1, h2⟩ := h
  exact ⟨D, h1, fun c => by rw [h2 c, hg c]⟩
theorem setBlock_at {w : World} {b : Nat} {o : Obj} (h : b < w.heap.size) : (setBlock w b o).heap[b]? = some o := by
  simp [setBlock, h]
/-- 'm[k] += v': the look-up, the entry and the store, in whatever order. -/
theorem MapN.assign [DecidableEq α] (h : MapN P k e κ w b n f) (K : Keyed P k) (ht : P.underlying t = some (.map k e)) (he : P.underlying e = some (.int .i64)) (hz : ∀ u : World, (zeroValue e).run P u = .ok (.int .i64 0) u) (hn : n < maxLen) (hκ : ∀ x y, κ x = κ y → x = y) (hl : ∀ x, WideAt.IsKeyLit (κ x))
    {key : Value} {c : α} (hkey : keyOf P k key = some (κ c)) :
    ∃ (st : Nat) (es : Array MapEntry) (clock : Nat) (es1 : Array MapEntry) (clock1 : Nat), w.heap[b]? = some (.map es clock) ∧
      (∀ u : World, (u.heap[b]? = some (.map es clock) ∨ u.heap[b]? = some (.map es1 clock1)) → (Instr.lookup t (.map (some b)) key false).run P u = .ok (.int .i64 (f c)) u ∧ (Instr.mapEntry t (.map (some b)) key).run P u = .ok (.tuple #[.int .i64 (f c), goInt st]) (setBlock u b (.map es1 clock1))) ∧
      ∀ x : Int, (Lit.int .i64 x).wf = true → ∃ es' clock', (∀ u : World, u.heap[b]? = some (.map es1 clock1) → (Instr.entryStore t (.map (some b)) (goInt st) (.int .i64 x)).run P u = .ok () (setBlock u b (.map es' clock'))) ∧
        ∀ u : World, b < u.heap.size → MapN P k e κ (setBlock u b (.map es' clock')) b (n + 1) (fun d => if d = c then x else f d) := by
  obtain ⟨D, h1, h2⟩ := h
  have h1' := h1
  obtain ⟨es, clock, hb, F, hs, hD⟩ := h1'
  obtain ⟨v0, st, es1, clock1, hA, hB⟩ := op_assign K ht hz hb F hkey
  obtain ⟨a, hrun, hat, _⟩ := h1.lookup_int K ht he (hz w) hkey
  have hv : v0 = .int .i64 (f c) := by
    have e1 := (hA w (Or.inl hb)).1
    rw [hrun] at e1
    have e2 := h2 c
    rw [hat] at e2
    simp only [DataW.lit.injEq, Lit.int.injEq, true_and] at e2
    rw [← e2]
    simpa using e1.symm
  subst hv
  refine ⟨st, es, clock, es1, clock1, hb, hA, fun x hx => ?_⟩
  obtain ⟨es', clock', hS, hU⟩ := hB (.int .i64 x)
  refine ⟨es', clock', hS, fun u hu => ?_⟩
  obtain ⟨w2, hrun2, h3, h4⟩ := h1.update K ht hn hkey (plainElem_int he hx)
  rw [hU] at hrun2
  have hw2 : setBlock w b (.map es' clock') = w2 := by simpa using hrun2
  subst hw2
  have hm : Maps.IsMap D := ⟨_, hD⟩
  have hlt := h1.lt
  have hmap : MapN P k e κ (setBlock w b (.map es' clock')) b (n + 1) (fun d => if d = c then x else f d) := ⟨_, h3, fun d => by
    by_cases hd : d = c
    · subst hd
      rw [Maps.atKey_put_same hm (hl d)]; simp
    · rw [Maps.atKey_put_other (fun e => hd (hκ _ _ e)), h2 d]; simp [hd]⟩
  exact hmap.same (by rw [setBlock_at hlt, setBlock_at hu])
end
theorem pair_row : (96 : TypeId) < Try.prog.types.size := of_decide_eq_true (by kernel_rfl)
theorem pair_wide : (match Try.prog.underlying 96 with | some (.array _ _) | some (.struct _) => true | _ => false) = true := by kernel_rfl
theorem pair_law : KeyLaw Try.prog 96 := deep_law_laid try_laidOut (m := 2) (by omega) pair_row (by kernel_rfl) pair_wide
theorem pair_keyed : Keyed Try.prog 96 := Keyed.of_law pair_law
theorem pair_cells : Try.prog.cellsOf 96 = 2 := by kernel_rfl
theorem pair_keyLits {d : Nat} {a z : Int} (ha : intBd a) (hz : intBd z) : Try.prog.keyLits (d + 2) 96 [.int .i64 a, .int .i64 z] = some [.int .i64 a, .int .i64 z] := by
  unfold Program.keyLits
  rw [Try.underlying96]
  have h1 := keyLits_int (d := d) ha
  have h2 := keyLits_int (d := d) hz
  simp [int_cells, pair_cells, h1, h2, List.range_succ]
theorem pair_keyType : Try.prog.keyType 96 = true := by kernel_rfl
theorem pair_formed {a b : Value} : (Value.agg #[a, b]).formed Try.prog 96 = true := by
  simp [Value.formed, Try.underlying96, pair_cells, int_cells]
abbrev PK := {p : Int × Int // intBd p.1 ∧ intBd p.2}
def pKey (c : PK) : Lit := .string (keyBytes [.int .i64 c.1.1, .int .i64 c.1.2])
theorem pKey_of (c : PK) : keyOf Try.prog 96 (.agg #[.int .i64 c.1.1, .int .i64 c.1.2]) = some (pKey c) := by
  obtain ⟨d, hd⟩ := types_size
  unfold keyOf
  rw [Try.underlying96]
  simp only [pair_keyType, pair_formed, Bool.and_self, if_true, hd, Value.cells]
  rw [pair_keyLits c.2.1 c.2.2]; rfl
theorem pKey_inj (x y : PK) (h : pKey x = pKey y) : x = y := by
  have h1 := pKey_of x
  have h2 := pKey_of y
  rw [← h] at h2
  have h3 := pair_keyed.inj h1 h2
  have h4 := congrArg Array.toList (Value.agg.inj h3)
  simp only [List.cons.injEq, Value.int.injEq, true_and, and_true] at h4
  exact Subtype.ext (Prod.ext h4.1 h4.2)
theorem pKey_lit (x : PK) : WideAt.IsKeyLit (pKey x) := trivial
theorem pmap_uty : Try.prog.underlying 123 = some (.map 96 3) := by kernel_rfl
theorem int_zero (w : World) : (zeroValue 3).run Try.prog w = .ok (.int .i64 0) w := by kernel_rfl
abbrev MapP (w : World) (b n : Nat) (f : PK → Int) : Prop := MapN Try.prog 96 3 pKey w b n f
end Go.Proofs.Ytnigokmjehemaaa

/- The normal form of lines: sums by account and partner. Plain. -/
namespace Go.Proofs.Ytnigokmjehemaaa
set_option linter.unusedVariables false
set_option linter.unusedSimpArgs false
def isAt (a p : Int) (x : XLine) : Bool := x.account == a && x.partner == p
/-- The sum of the amounts at an account and a partner. -/
def sumAt (l : List XLine) (a p : Int) : Int := sumL (l.filter (isAt a p))
def ltL (x y : XLine) : Prop := x.account < y.account ∨ (x.account = y.account ∧ x.partner < y.partner)
/-- The normal form: strictly rising, each line with the sum at its place, none of 0. -/
def IsNorm (l out : List XLine) : Prop := out.Pairwise ltL ∧ ∀ x : XLine, x ∈ out ↔ (x.amount = sumAt l x.account x.partner ∧ x.amount ≠ 0)
theorem sumL_nil : sumL [] = 0 := rfl
theorem sumL_cons (x : XLine) (l : List XLine) : sumL (x :: l) = x.amount + sumL l := by simp [sumL]
theorem sumL_app (a b : List XLine) : sumL (a ++ b) = sumL a + sumL b := by simp [sumL]
theorem sumAt_cons (x : XLine) (l : List XLine) (a p : Int) : sumAt (x :: l) a p = (if isAt a p x then x.amount else 0) + sumAt l a p := by
  unfold sumAt
  cases h : isAt a p x with
  | true => rw [List.filter_cons_of_pos h, sumL_cons]; simp
  | false => rw [List.filter_cons_of_neg (by rw [h]; decide)]; simp
theorem sumAt_app (l m : List XLine) (a p : Int) : sumAt (l ++ m) a p = sumAt l a p + sumAt m a p := by
  unfold sumAt
  rw [List.filter_append, sumL_app]
theorem sumAt_succ {l : List XLine} {k : Nat} (hk : k < l.length) (a p : Int) : sumAt (l.take (k + 1)) a p = sumAt (l.take k) a p + (if isAt a p l[k] then l[k].amount else 0) := by
  rw [List.take_add_one, List.getElem?_eq_getElem hk, sumAt_app]
  show _ + sumAt [l[k]] a p = _
  rw [sumAt_cons]
  show _ + (_ + sumL []) = _
  rw [sumL_nil]; omega
theorem ltL_irrefl (x : XLine) : ¬ ltL x x := fun h => by rcases h with h | ⟨_, h⟩ <;> omega
theorem ltL_asymm {x y : XLine} (h : ltL x y) : ¬ ltL y x := fun h' => by rcases h with h | ⟨h, h2⟩ <;> rcases h' with h' | ⟨h', h2'⟩ <;> omega
theorem ltL_tri (x y : XLine) : ltL x y ∨ (x.account = y.account ∧ x.partner = y.partner) ∨ ltL y x := by
  unfold ltL
  rcases Int.lt_trichotomy x.account y.account with h | h | h
  · exact Or.inl (Or.inl h)
  · rcases Int.lt_trichotomy x.partner y.partner with g | g | g
    · exact Or.inl (Or.inr ⟨h, g⟩)
    · exact Or.inr (Or.inl ⟨h, g⟩)
    · exact Or.inr (Or.inr (Or.inr ⟨h.symm, g⟩))
  · exact Or.inr (Or.inr (Or.inl h))
theorem rising_uniq : ∀ {a b : List XLine}, a.Pairwise ltL → b.Pairwise ltL → (∀ x, x ∈ a ↔ x ∈ b) → a = b
  | [], b, _, _, h => by
    cases b with
    | nil => rfl
    | cons y b => exact absurd ((h y).2 List.mem_cons_self) (by simp)
  | x :: a, b, ha, hb, h => by
    cases b with
    | nil => exact absurd ((h x).1 List.mem_cons_self) (by simp)
    | cons y b =>
      rw [List.pairwise_cons] at ha hb
      have hxy : x = y := by
        rcases List.mem_cons.1 ((h x).1 List.mem_cons_self) with e | h1
        · exact e
        · rcases List.mem_cons.1 ((h y).2 List.mem_cons_self) with e | h2
          · exact e.symm
          · exact absurd (hb.1 x h1) (ltL_asymm (ha.1 y h2))
      subst hxy
      rw [rising_uniq ha.2 hb.2 (fun z => ?_)]
      constructor
      · intro hz
        rcases List.mem_cons.1 ((h z).1 (List.mem_cons_of_mem _ hz)) with e | h1
        · subst e; exact absurd (ha.1 z hz) (ltL_irrefl z)
        · exact h1
      · intro hz
        rcases List.mem_cons.1 ((h z).2 (List.mem_cons_of_mem _ hz)) with e | h1
        · subst e; exact absurd (hb.1 z hz) (ltL_irrefl z)
        · exact h1
theorem IsNorm.uniq {l a b : List XLine} (ha : IsNorm l a) (hb : IsNorm l b) : a = b :=
  rising_uniq ha.1 hb.1 (fun x => (ha.2 x).trans (hb.2 x).symm)
theorem IsNorm.of_sums {l m o : List XLine} (h : ∀ a p, sumAt l a p = sumAt m a p) (ho : IsNorm l o) : IsNorm m o :=
  ⟨ho.1, fun x => by rw [ho.2 x, h]⟩
theorem sumAt_perm {l m : List XLine} (h : l.Perm m) (a p : Int) : sumAt l a p = sumAt m a p := by
  induction h with
  | nil => rfl
  | cons x _ ih => rw [sumAt_cons, sumAt_cons, ih]
  | swap x y l => rw [sumAt_cons, sumAt_cons, sumAt_cons, sumAt_cons]; omega
  | trans _ _ h1 h2 => rw [h1, h2]
theorem IsNorm.perm {l m o : List XLine} (h : l.Perm m) (ho : IsNorm l o) : IsNorm m o := ho.of_sums (sumAt_perm h)
/-- The sum of all amounts' sizes. -/
def absL (l : List XLine) : Int := (l.map (fun x => (x.amount.natAbs : Int))).sum
theorem absL_cons (x : XLine) (l : List XLine) : absL (x :: l) = (x.amount.natAbs : Int) + absL l := by simp [absL]
theorem absL_nonneg : ∀ l : List XLine, 0 ≤ absL l
  | [] => by simp [absL]
  | x :: l => by rw [absL_cons]; have := absL_nonneg l; omega
theorem sumAt_abs : ∀ (l : List XLine) (a p : Int), -absL l ≤ sumAt l a p ∧ sumAt l a p ≤ absL l
  | [], a, p => by simp [sumAt, absL, sumL]
  | x :: l, a, p => by
    have := sumAt_abs l a p
    rw [sumAt_cons, absL_cons]
    split <;> omega
theorem sumL_abs : ∀ (l : List XLine), -absL l ≤ sumL l ∧ sumL l ≤ absL l
  | [] => by simp [absL, sumL]
  | x :: l => by
    have := sumL_abs l
    rw [sumL_cons, absL_cons]
    omega
theorem absL_app (a b : List XLine) : absL (a ++ b) = absL a + absL b := by simp [absL]
theorem absL_take (l : List XLine) (k : Nat) : absL (l.take k) ≤ absL l := by
  have h : absL l = absL (l.take k) + absL (l.drop k) := by rw [← absL_app, List.take_append_drop]
  have := absL_nonneg (l.drop k)
  omega
theorem smallL.abs {l : List XLine} (h : smallL l) : absL l ≤ 112589990684262400 := by
  have key : ∀ m : List XLine, (∀ x ∈ m, -1125899906842624 ≤ x.amount ∧ x.amount ≤ 1125899906842624) → absL m ≤ 1125899906842624 * (m.length : Int) := by
    intro m
    induction m with
    | nil => intro _; simp [absL]
    | cons x m ih =>
      intro hm
      have h1 := ih (fun y hy => hm y (List.mem_cons_of_mem _ hy))
      have h2 := hm x List.mem_cons_self
      rw [absL_cons, List.length_cons]
      omega
  have := key l h.1
  have := h.2
  omega
end Go.Proofs.Ytnigokmjehemaaa

/- Comparing two lines, for the sort. Written by gen_f5.py. -/
namespace Go.Proofs.Ytnigokmjehemaaa
open Go Go.RowKit Go.Sort
set_option linter.unusedVariables false
set_option linter.unusedSimpArgs false
set_option maxRecDepth 4000
attribute [local go_sem ↓] Go.wp_at_zero Go.wp_at_succ
def cmpI (x y : Int) : Int := if x < y then -1 else if y < x then 1 else 0
def orI (a b : Int) : Int := if a = 0 then b else a
theorem nan_c (x : Int) (w : World) : Calls Try.prog 134 #[.int .i64 x] w (fun e w' => e = .returned (.bool false) ∧ w' = w) := by
  go_enter Try.func134, Try.ntmps134
  go_wp2_with fail
  go_ret
  exact ⟨rfl, rfl⟩
set_option maxHeartbeats 1000000 in
theorem compare_c (x y : Int) (w : World) : Calls Try.prog 82 #[.int .i64 x, .int .i64 y] w (fun e w' => e = .returned (.int .i64 (cmpI x y)) ∧ w' = w) := by
  obtain ⟨r, hr⟩ : ∃ r, cmpI x y = r := ⟨_, rfl⟩
  rw [hr]
  have HR := Lib.hid hr
  clear hr
  go_enter Try.func82, Try.ntmps82
  by_cases h1 : x < y
  case pos =>
    have hf := Lib.hid (show r = -1 by rw [← HR.out]; unfold cmpI; rw [if_pos h1])
    go_wp2_with (go_at_call 134; refine (nan_c _ _).mono ?_; rintro e w' ⟨rfl, rfl⟩)
    go_ret
    exact ⟨by rw [hf.out]; first | done | rfl, rfl⟩
  case neg =>
  by_cases h2 : y < x
  case pos =>
    have h2' : x > y := h2
    have hf := Lib.hid (show r = 1 by rw [← HR.out]; unfold cmpI; rw [if_neg h1, if_pos h2])
    go_wp2_with (go_at_call 134; refine (nan_c _ _).mono ?_; rintro e w' ⟨rfl, rfl⟩)
    go_ret
    exact ⟨by rw [hf.out]; first | done | rfl, rfl⟩
  case neg =>
    have h2' : ¬ x > y := h2
    have hf := Lib.hid (show r = 0 by rw [← HR.out]; unfold cmpI; rw [if_neg h1, if_neg h2])
    go_wp2_with (go_at_call 134; refine (nan_c _ _).mono ?_; rintro e w' ⟨rfl, rfl⟩)
    go_ret
    exact ⟨by rw [hf.out]; first | done | rfl, rfl⟩
set_option maxHeartbeats 1000000 in
theorem or_c (g : Nat) (a b : Int) (T : TypeId) (w : World) (hg : w.heap[g]? = some (.cells #[.int .i64 a, .int .i64 b] T (0, 0))) : Calls Try.prog 81 #[.slice (some ⟨g, 0, none⟩) 2 2] w (fun e w' => e = .returned (.int .i64 (orI a b)) ∧ w' = w) := by
  obtain ⟨r, hr⟩ : ∃ r, orI a b = r := ⟨_, rfl⟩
  rw [hr]
  have HR := Lib.hid hr
  have HG := Lib.hid hg
  clear hr hg
  go_enter Try.func81, Try.ntmps81
  go_wp2_with fail
  go_loopw [8] (fun i wr => ∃ q : Int, i = .int .i64 q ∧ 0 ≤ q ∧ q ≤ 2 ∧ wr = w ∧ (1 ≤ q → a = 0) ∧ (2 ≤ q → b = 0)) (fun i _ => (2 - intOf i).toNat)
  case atStart => exact ⟨0, rfl, by omega, by omega, rfl, by omega, by omega⟩
  case round =>
    obtain ⟨q, rfl, hq0, hq2, rfl, k1, k2⟩ := hrel
    have K1 := Lib.hid k1
    have K2 := Lib.hid k2
    have c0 := blk_cell HG.out 0
    have c1 := blk_cell HG.out 1
    clear k1 k2
    by_cases hlt : q < 2
    case neg =>
      have hf := Lib.hid (show r = 0 by rw [← HR.out]; unfold orI; rw [if_pos (K1.out (by omega))]; exact K2.out (by omega))
      go_wp2_with fail
      go_ret
      exact ⟨by rw [hf.out]; first | done | rfl, rfl⟩
    case pos =>
    obtain rfl | rfl : q = 0 ∨ q = 1 := by omega
    case inl =>
      by_cases ha : a = 0
      case pos =>
        have ha1 : (a != 0) = false := by simpa using ha
        have HA := Lib.hid ha
        clear ha
        go_wp2_with fail
        go_roundw
        case rel => exact ⟨1, rfl, by omega, by omega, by first | trivial | rfl, fun _ => HA.out, by omega⟩
        case measure => simp only [intOf]; omega
      case neg =>
        have ha1 : (a != 0) = true := by simpa using ha
        have hf := Lib.hid (show r = a by rw [← HR.out]; unfold orI; rw [if_neg ha])
        clear ha
        go_wp2_with fail
        go_ret
        exact ⟨by rw [hf.out]; first | done | rfl, rfl⟩
    case inr =>
      by_cases hb : b = 0
      case pos =>
        have hb1 : (b != 0) = false := by simpa using hb
        have HB := Lib.hid hb
        clear hb
        go_wp2_with fail
        go_roundw
        case rel => exact ⟨2, rfl, by omega, by omega, by first | trivial | rfl, fun _ => K1.out (by omega), fun _ => HB.out⟩
        case measure => simp only [intOf]; omega
      case neg =>
        have hb1 : (b != 0) = true := by simpa using hb
        have hf := Lib.hid (show r = b by rw [← HR.out]; unfold orI; rw [if_pos (K1.out (by omega))])
        clear hb
        go_wp2_with fail
        go_ret
        exact ⟨by rw [hf.out]; first | done | rfl, rfl⟩
/-- Draws and new blocks, nothing else. -/
def Lays (W w : World) : Prop := ∃ q os, w = grow (W.drewN q) os
theorem Lays.refl (W : World) : Lays W W := ⟨0, #[], by simp [grow]; rfl⟩
theorem drewN_grow (w : World) (os : Array Obj) (n : Nat) : (grow w os).drewN n = grow (w.drewN n) os := rfl
theorem drewN_drewN (w : World) (a b : Nat) : (w.drewN a).drewN b = w.drewN (a + b) := by
  simp [World.drewN, Nat.add_assoc]
theorem Lays.trans {A B C : World} (h : Lays A B) (k : Lays B C) : Lays A C := by
  obtain ⟨a, o1, rfl⟩ := h
  obtain ⟨b, o2, rfl⟩ := k
  exact ⟨a + b, o1 ++ o2, by rw [drewN_grow, drewN_drewN, grow_grow]⟩
theorem Lays.alloc {A B : World} (h : Lays A B) (o : Obj) : Lays A (B.alloc o) := h.trans ⟨0, #[o], by rw [alloc_eq_grow]; rfl⟩
theorem Lays.drew {A B : World} (h : Lays A B) : Lays A B.drew := h.trans ⟨1, #[], by simp [grow]; rfl⟩
theorem Lays.below {A B : World} (h : Lays A B) : Below A.heap.size A B := by
  obtain ⟨a, o, rfl⟩ := h
  refine ⟨rfl, rfl, rfl, by simp [grow, World.drewN], fun k hk => ?_⟩
  show (A.heap ++ o)[k]? = A.heap[k]?
  rw [Array.getElem?_append_left hk]
def IsSl (a b : Int) (v : Value) (w : World) : Prop := ∃ g T, v = .slice (some ⟨g, 0, none⟩) 2 2 ∧ w.heap[g]? = some (.cells #[.int .i64 a, .int .i64 b] T (0, 0))
theorem IsSl.keep (a b : Int) : ∀ v w w', Below w.heap.size w w' → IsSl a b v w → IsSl a b v w' := fun v w w' hb ⟨g, T, e, h⟩ => ⟨g, T, e, (hb.block g (blk_lt h)).trans h⟩
theorem IsSl.made (a b : Int) (T : TypeId) (w : World) : IsSl a b (.slice (some ⟨w.heap.size, 0, none⟩) 2 2) (w.alloc (.cells #[.int .i64 a, .int .i64 b] T)) := ⟨_, T, rfl, heap_alloc_new _ _⟩
def cmpL (x y : XLine) : Int := orI (cmpI x.account y.account) (cmpI x.partner y.partner)
set_option maxHeartbeats 1000000 in
theorem clos_c (x y : XLine) (w : World) : Calls Try.prog 80 #[.agg (lineL x).toArray, .agg (lineL y).toArray] w (fun e w' => e = .returned (.int .i64 (cmpL x y)) ∧ Lays w w') := by
  obtain ⟨xa, xm, xp⟩ := x
  obtain ⟨ya, ym, yp⟩ := y
  show Calls Try.prog 80 #[.agg #[.int .i64 xa, .int .i64 xm, .int .i64 xp], .agg #[.int .i64 ya, .int .i64 ym, .int .i64 yp]] w (fun e w' => e = .returned (.int .i64 (orI (cmpI xa ya) (cmpI xp yp))) ∧ Lays w w')
  go_enter Try.func80, Try.ntmps80
  go_upto_region 1 with fail
  have H := heap_alloc_new w (.cells #[.int .i64 xa, .int .i64 xm, .int .i64 xp] 57)
  have HB := below1 w (.cells #[.int .i64 xa, .int .i64 xm, .int .i64 xp] 57)
  have HS : w.heap.size < (w.alloc (.cells #[.int .i64 xa, .int .i64 xm, .int .i64 xp] 57)).heap.size := blk_lt H
  have HLW : Lays w (w.alloc (.cells #[.int .i64 xa, .int .i64 xm, .int .i64 xp] 57)) := (Lays.refl w).alloc _
  generalize hW : w.alloc (Obj.cells #[.int .i64 xa, .int .i64 xm, .int .i64 xp] 57) = W at *
  have H2 := heap_alloc_new W (.cells #[.int .i64 ya, .int .i64 ym, .int .i64 yp] 57)
  have HB2 := below1 W (.cells #[.int .i64 ya, .int .i64 ym, .int .i64 yp] 57)
  have HS2 : W.heap.size < (W.alloc (.cells #[.int .i64 ya, .int .i64 ym, .int .i64 yp] 57)).heap.size := blk_lt H2
  replace H := alloc_keep H (Obj.cells #[.int .i64 ya, .int .i64 ym, .int .i64 yp] 57)
  have HLW2 : Lays W (W.alloc (.cells #[.int .i64 ya, .int .i64 ym, .int .i64 yp] 57)) := (Lays.refl W).alloc _
  generalize hW2 : W.alloc (Obj.cells #[.int .i64 ya, .int .i64 ym, .int .i64 yp] 57) = W2 at *
  clear hW2
  have eW : W.heap.size = w.heap.size + 1 := by rw [← hW]; simp
  rw [eW] at H2
  clear hW
  have hb2 := HB.trans (HB2.mono HB.size)
  have hs2 := HB2.size
  have LT1 := blk_lt H2
  have LT0 : w.heap.size < W2.heap.size := by omega
  have HH := Lib.hid H
  have HZ := Lib.hid H2
  have EW := Lib.hid eW
  clear H H2 eW
  have HLY := Lib.hid (HLW.trans HLW2)
  have X0 := Lib.hid (blk_cell HH.out 0)
  have X2 := Lib.hid (blk_cell HH.out 2)
  have Y0 := Lib.hid (blk_cell HZ.out 0)
  have Y2 := Lib.hid (blk_cell HZ.out 2)
  have LT0 := Lib.hid LT0
  have LT1 := Lib.hid LT1
  clear HLW HLW2
  refine wp_region_inv (Ks W2 [.val (.pointer (some ⟨w.heap.size, 0, none⟩)), .val (.int .i64 xa), .val (.pointer (some ⟨(w.heap.size + 1), 0, none⟩)), .val (.int .i64 ya), .val (.int .i64 (cmpI xa ya)), .val (.pointer (some ⟨w.heap.size, 2, none⟩)), .val (.int .i64 xp), .val (.pointer (some ⟨(w.heap.size + 1), 2, none⟩)), .val (.int .i64 yp), .val (.int .i64 (cmpI xp yp)), .own (IsSl (cmpI xa ya) (cmpI xp yp)) (IsSl.keep _ _), .val (.int .i64 (orI (cmpI xa ya) (cmpI xp yp))), .val (.int .i64 (orI (cmpI xa ya) (cmpI xp yp)))])
    (fun w' => Lays W2 w') (by kernel_rfl) (by kernel_rfl) (by kernel_rfl) (Lays.refl _).drew ?_ ?_
  · refine ⟨?_, ?_, ?_, ?_, ?_, ?_, ?_, ?_, ?_, ?_, ?_, ?_, ?_, trivial⟩
    · intro listed A0 w2 hI hd hnd K hK
      have e0 := hI.slot hnd 2 _ rfl (by kernel_rfl)
      have hS := hI.world
      refine wanted_go rfl ?_
      clear hI hd hnd
      go_simp
      exact hK.out _ _ hS (Ks.of rfl rfl) (fun _ _ h => h)
    · intro listed A0 w2 hI hd hnd K hK
      have e0 := hI.depv hd 0 5 _ rfl rfl rfl (by kernel_rfl)
      have hS := hI.world
      have hcc : w2.cell? ⟨w.heap.size, 0, none⟩ = _ := ((Lays.below hS).cell (p := ⟨w.heap.size, 0, none⟩) LT0.out).trans X0.out
      refine wanted_go rfl ?_
      clear hI hd hnd
      go_simp
      exact hK.out _ _ hS (Ks.of rfl rfl) (fun _ _ h => h)
    · intro listed A0 w2 hI hd hnd K hK
      have e0 := hI.slot hnd 3 _ rfl (by kernel_rfl)
      have hS := hI.world
      refine wanted_go rfl ?_
      clear hI hd hnd
      go_simp
      exact hK.out _ _ hS (Ks.of rfl rfl) (fun _ _ h => h)
    · intro listed A0 w2 hI hd hnd K hK
      have e0 := hI.depv hd 2 7 _ rfl rfl rfl (by kernel_rfl)
      have hS := hI.world
      have hcc : w2.cell? ⟨(w.heap.size + 1), 0, none⟩ = _ := ((Lays.below hS).cell (p := ⟨(w.heap.size + 1), 0, none⟩) LT1.out).trans Y0.out
      refine wanted_go rfl ?_
      clear hI hd hnd
      go_simp
      exact hK.out _ _ hS (Ks.of rfl rfl) (fun _ _ h => h)
    · intro listed A0 w2 hI hd hnd K hK
      have e0 := hI.depv hd 1 6 _ rfl rfl rfl (by kernel_rfl)
      have e1 := hI.depv hd 3 8 _ rfl rfl rfl (by kernel_rfl)
      have hS := hI.world
      refine wanted_go rfl ?_
      clear hI hd hnd
      go_simp
      go_at_call 82
      refine (compare_c xa ya w2).mono ?_
      rintro e w3 ⟨rfl, rfl⟩
      exact hK.out _ _ hS (Ks.of rfl rfl) (fun _ _ h => h)
    · intro listed A0 w2 hI hd hnd K hK
      have e0 := hI.slot hnd 2 _ rfl (by kernel_rfl)
      have hS := hI.world
      refine wanted_go rfl ?_
      clear hI hd hnd
      go_simp
      exact hK.out _ _ hS (Ks.of rfl rfl) (fun _ _ h => h)
    · intro listed A0 w2 hI hd hnd K hK
      have e0 := hI.depv hd 5 10 _ rfl rfl rfl (by kernel_rfl)
      have hS := hI.world
      have hcc : w2.cell? ⟨w.heap.size, 2, none⟩ = _ := ((Lays.below hS).cell (p := ⟨w.heap.size, 2, none⟩) LT0.out).trans X2.out
      refine wanted_go rfl ?_
      clear hI hd hnd
      go_simp
      exact hK.out _ _ hS (Ks.of rfl rfl) (fun _ _ h => h)
    · intro listed A0 w2 hI hd hnd K hK
      have e0 := hI.slot hnd 3 _ rfl (by kernel_rfl)
      have hS := hI.world
      refine wanted_go rfl ?_
      clear hI hd hnd
      go_simp
      exact hK.out _ _ hS (Ks.of rfl rfl) (fun _ _ h => h)
    · intro listed A0 w2 hI hd hnd K hK
      have e0 := hI.depv hd 7 12 _ rfl rfl rfl (by kernel_rfl)
      have hS := hI.world
      have hcc : w2.cell? ⟨(w.heap.size + 1), 2, none⟩ = _ := ((Lays.below hS).cell (p := ⟨(w.heap.size + 1), 2, none⟩) LT1.out).trans Y2.out
      refine wanted_go rfl ?_
      clear hI hd hnd
      go_simp
      exact hK.out _ _ hS (Ks.of rfl rfl) (fun _ _ h => h)
    · intro listed A0 w2 hI hd hnd K hK
      have e0 := hI.depv hd 6 11 _ rfl rfl rfl (by kernel_rfl)
      have e1 := hI.depv hd 8 13 _ rfl rfl rfl (by kernel_rfl)
      have hS := hI.world
      refine wanted_go rfl ?_
      clear hI hd hnd
      go_simp
      go_at_call 82
      refine (compare_c xp yp w2).mono ?_
      rintro e w3 ⟨rfl, rfl⟩
      exact hK.out _ _ hS (Ks.of rfl rfl) (fun _ _ h => h)
    · intro listed A0 w2 hI hd hnd K hK
      have e0 := hI.depv hd 4 9 _ rfl rfl rfl (by kernel_rfl)
      have e1 := hI.depv hd 9 14 _ rfl rfl rfl (by kernel_rfl)
      have hS := hI.world
      refine wanted_go rfl ?_
      clear hI hd hnd
      go_simp
      exact hK.out _ _ (hS.alloc _) (Ks.of rfl (IsSl.made _ _ _ _)) (Ks.keep (below1 w2 _))
    · intro listed A0 w2 hI hd hnd K hK
      obtain ⟨x0, e0, h0⟩ := hI.dep hd 10 15 rfl rfl rfl (by kernel_rfl)
      have hS := hI.world
      obtain ⟨gs, T0, rfl, hgs⟩ := h0
      refine wanted_go rfl ?_
      clear hI hd hnd
      go_simp
      go_at_call 81
      refine (or_c gs _ _ T0 w2 hgs).mono ?_
      rintro e w3 ⟨rfl, rfl⟩
      exact hK.out _ _ hS (Ks.of rfl rfl) (fun _ _ h => h)
    · intro listed A0 w2 hI hd hnd K hK
      have e0 := hI.depv hd 11 16 _ rfl rfl rfl (by kernel_rfl)
      have hS := hI.world
      refine wanted_go rfl ?_
      clear hI hd hnd
      go_simp
      exact hK.out _ _ hS (Ks.of rfl rfl) (fun _ _ h => h)
  · intro listed A0 w2 hI hall
    obtain ⟨x0, g0, h0⟩ := hI.got 0 _ 5 rfl rfl (hall 0 (by decide))
    obtain ⟨x1, g1, h1⟩ := hI.got 1 _ 6 rfl rfl (hall 1 (by decide))
    obtain ⟨x2, g2, h2⟩ := hI.got 2 _ 7 rfl rfl (hall 2 (by decide))
    obtain ⟨x3, g3, h3⟩ := hI.got 3 _ 8 rfl rfl (hall 3 (by decide))
    obtain ⟨x4, g4, h4⟩ := hI.got 4 _ 9 rfl rfl (hall 4 (by decide))
    obtain ⟨x5, g5, h5⟩ := hI.got 5 _ 10 rfl rfl (hall 5 (by decide))
    obtain ⟨x6, g6, h6⟩ := hI.got 6 _ 11 rfl rfl (hall 6 (by decide))
    obtain ⟨x7, g7, h7⟩ := hI.got 7 _ 12 rfl rfl (hall 7 (by decide))
    obtain ⟨x8, g8, h8⟩ := hI.got 8 _ 13 rfl rfl (hall 8 (by decide))
    obtain ⟨x9, g9, h9⟩ := hI.got 9 _ 14 rfl rfl (hall 9 (by decide))
    obtain ⟨x10, g10, h10⟩ := hI.got 10 _ 15 rfl rfl (hall 10 (by decide))
    obtain ⟨x11, g11, h11⟩ := hI.got 11 _ 16 rfl rfl (hall 11 (by decide))
    obtain ⟨x12, g12, h12⟩ := hI.got 12 _ 4 rfl rfl (hall 12 (by decide))
    have hS := hI.world
    have hA : A0 = _ := hI.tmps [(5, x0), (6, x1), (7, x2), (8, x3), (9, x4), (10, x5), (11, x6), (12, x7), (13, x8), (14, x9), (15, x10), (16, x11), (4, x12)] (by simp only [List.mem_cons, List.not_mem_nil, or_false, forall_eq_or_imp, forall_eq]; exact ⟨g0, g1, g2, g3, g4, g5, g6, g7, g8, g9, g10, g11, g12⟩) (by kernel_rfl)
    obtain rfl : x12 = .int .i64 (orI (cmpI xa ya) (cmpI xp yp)) := h12 _ rfl
    clear h0 g0 h1 g1 h2 g2 h3 g3 h4 g4 h5 g5 h6 g6 h7 g7 h8 g8 h9 g9 h10 g10 h11 g11 h12 g12 hI hall
    simp only [setAll, List.foldl, List.setIfInBounds_toArray, List.set_cons_zero, List.set_cons_succ] at hA
    rw [hA]
    clear hA
    go_wp2_with fail
    go_ret
    exact ⟨rfl, HLY.out.trans hS⟩
end Go.Proofs.Ytnigokmjehemaaa

/- slices.SortFunc at lines: laid by the kit's tool, its contract in this claim's words. Written by gen_f6.py. -/

namespace Go.Proofs.Ytnigokmjehemaaa
open Go Go.RowKit Go.Shelf Go.Lib
open Go.Sort hiding Below
set_option linter.unusedVariables false
set_option linter.unusedSimpArgs false
set_option maxRecDepth 4000
attribute [local go_sem ↓] Go.wp_at_zero Go.wp_at_succ
def sortL_ren : Go.Shelf.Ren := ⟨fun | 6 => 79 | 15 => 133 | 14 => 132 | 28 => 182 | 29 => 183 | 20 => 174 | 21 => 175 | 22 => 176 | 23 => 177 | 24 => 178 | 25 => 179 | 26 => 180 | 27 => 181 | 46 => 195 | 47 => 196 | 48 => 197 | 49 => 198 | 50 => 199 | 57 => 209 | n => n, fun | 22 => 51 | 24 => 57 | 25 => 127 | 3 => 3 | 39 => 185 | 0 => 0 | 53 => 224 | 55 => 226 | 4 => 4 | 46 => 218 | 45 => 217 | 50 => 67 | 5 => 5 | 9 => 9 | 66 => 237 | 70 => 241 | 76 => 248 | 77 => 249 | n => n, fun | n => n⟩
theorem sortL : Go.Proofs.SlLaysF0.n6 Try.prog sortL_ren := {
  mixed := by kernel_rfl,
  f6 := ⟨Try.f79.name, by decide, Try.func79.trans (congrArg some (by kernel_rfl))⟩,
  f14 := ⟨Try.f132.name, by decide, Try.func132.trans (congrArg some (by kernel_rfl))⟩,
  f15 := Try.func133.trans (congrArg some (by kernel_rfl)),
  f20 := ⟨Try.f174.name, by decide, Try.func174.trans (congrArg some (by kernel_rfl))⟩,
  f21 := ⟨Try.f175.name, by decide, Try.func175.trans (congrArg some (by kernel_rfl))⟩,
  f22 := ⟨Try.f176.name, by decide, Try.func176.trans (congrArg some (by kernel_rfl))⟩,
  f23 := ⟨Try.f177.name, by decide, Try.func177.trans (congrArg some (by kernel_rfl))⟩,
  f24 := ⟨Try.f178.name, by decide, Try.func178.trans (congrArg some (by kernel_rfl))⟩,
  f25 := ⟨Try.f179.name, by decide, Try.func179.trans (congrArg some (by kernel_rfl))⟩,
  f26 := ⟨Try.f180.name, by decide, Try.func180.trans (congrArg some (by kernel_rfl))⟩,
  f27 := ⟨Try.f181.name, by decide, Try.func181.trans (congrArg some (by kernel_rfl))⟩,
  f28 := Try.func182.trans (congrArg some (by kernel_rfl)),
  f29 := Try.func183.trans (congrArg some (by kernel_rfl)),
  f46 := ⟨Try.f195.name, by decide, Try.func195.trans (congrArg some (by kernel_rfl))⟩,
  f47 := Try.func196.trans (congrArg some (by kernel_rfl)),
  f48 := Try.func197.trans (congrArg some (by kernel_rfl)),
  f49 := ⟨Try.f198.name, by decide, Try.func198.trans (congrArg some (by kernel_rfl))⟩,
  f50 := ⟨Try.f199.name, by decide, Try.func199.trans (congrArg some (by kernel_rfl))⟩,
  f57 := ⟨Try.f209.name, by decide, Try.func209.trans (congrArg some (by kernel_rfl))⟩,
  t0 := Try.underlying0,
  a0 := Try.isAgg0,
  z0 := Try.sizeOf0,
  v0 := Try.zeroValue0,
  t3 := Try.underlying3,
  a3 := Try.isAgg3,
  z3 := Try.sizeOf3,
  v3 := Try.zeroValue3,
  t4 := Try.underlying4,
  a4 := Try.isAgg4,
  z4 := Try.sizeOf4,
  v4 := Try.zeroValue4,
  t5 := Try.underlying5,
  a5 := Try.isAgg5,
  z5 := Try.sizeOf5,
  v5 := Try.zeroValue5,
  t9 := Try.underlying9,
  a9 := Try.isAgg9,
  z9 := Try.sizeOf9,
  v9 := Try.zeroValue9,
  t22 := Try.underlying51,
  a22 := Try.isAgg51,
  z22 := Try.sizeOf51,
  v22 := Try.zeroValue51,
  t25 := Try.underlying127,
  a25 := Try.isAgg127,
  z25 := Try.sizeOf127,
  v25 := Try.zeroValue127,
  t39 := Try.underlying185,
  a39 := Try.isAgg185,
  z39 := Try.sizeOf185,
  v39 := Try.zeroValue185,
  t45 := Try.underlying217,
  a45 := Try.isAgg217,
  z45 := Try.sizeOf217,
  v45 := Try.zeroValue217,
  t46 := Try.underlying218,
  a46 := Try.isAgg218,
  z46 := Try.sizeOf218,
  v46 := Try.zeroValue218,
  t50 := Try.underlying67,
  a50 := Try.isAgg67,
  z50 := Try.sizeOf67,
  v50 := Try.zeroValue67,
  t53 := Try.underlying224,
  a53 := Try.isAgg224,
  z53 := Try.sizeOf224,
  v53 := Try.zeroValue224,
  t55 := Try.underlying226,
  a55 := Try.isAgg226,
  z55 := Try.sizeOf226,
  v55 := Try.zeroValue226,
  t66 := Try.underlying237,
  a66 := Try.isAgg237,
  z66 := Try.sizeOf237,
  v66 := Try.zeroValue237,
  t70 := Try.underlying241,
  a70 := Try.isAgg241,
  z70 := Try.sizeOf241,
  v70 := Try.zeroValue241,
  t76 := Try.underlying248,
  a76 := Try.isAgg248,
  z76 := Try.sizeOf248,
  v76 := Try.zeroValue248,
  t77 := Try.underlying249,
  a77 := Try.isAgg249,
  z77 := Try.sizeOf249,
  v77 := Try.zeroValue249 }

theorem ltOf_cmp (x y : XLine) : ltOf cmpL x y = true ↔ ltL x y := by
  unfold ltOf cmpL orI cmpI ltL
  rw [decide_eq_true_iff]
  by_cases h1 : x.account < y.account
  · simp [h1]
  · by_cases h2 : y.account < x.account
    · simp [h1, h2]; omega
    · have e : x.account = y.account := by omega
      by_cases h3 : x.partner < y.partner
      · simp [h1, h2, h3, e]
      · by_cases h4 : y.partner < x.partner <;> simp [h1, h2, h3, h4, e]
theorem swoL : SWO (ltOf cmpL) where
  irrefl x := by
    cases h : ltOf cmpL x x with
    | false => rfl
    | true => exact absurd ((ltOf_cmp x x).1 h) (ltL_irrefl x)
  trans x y z h1 h2 := by
    rw [ltOf_cmp] at *
    unfold ltL at *
    omega
  ntrans x y z h1 h2 := by
    cases h : ltOf cmpL x z with
    | false => rfl
    | true =>
      have a : ¬ ltL x y := fun e => by rw [(ltOf_cmp x y).2 e] at h1; cases h1
      have b : ¬ ltL y z := fun e => by rw [(ltOf_cmp y z).2 e] at h2; cases h2
      have c := (ltOf_cmp x z).1 h
      unfold ltL at *
      omega
theorem flat_get {α : Type} [Inhabited α] {f : α → List Value} {k : Nat} (hk : 0 < k) (hf : ∀ x, (f x).length = k) : ∀ (l : List α) (j : Nat), j < l.length * k → (l.flatMap f)[j]? = (f (l[j / k]!))[j % k]?
  | [], j, h => by simp at h
  | x :: l, j, h => by
    rw [List.flatMap_cons]
    rcases Nat.lt_or_ge j k with h1 | h1
    · rw [List.getElem?_append_left (by rw [hf]; exact h1), Nat.div_eq_of_lt h1, Nat.mod_eq_of_lt h1]; rfl
    · rw [List.getElem?_append_right (by rw [hf]; exact h1), hf]
      have hl : j - k < l.length * k := by rw [List.length_cons, Nat.add_mul, Nat.one_mul] at h; omega
      rw [flat_get hk hf l (j - k) hl]
      have e1 : j / k = (j - k) / k + 1 := by rw [Nat.div_eq_sub_div hk h1]
      have e2 : j % k = (j - k) % k := (Nat.mod_eq_sub_mod h1)
      rw [e1, e2]; rfl
instance : Inhabited XLine := ⟨{}⟩
theorem blk_sort {w : World} {blk n : Nat} {d : Array XLine} {os : Array Obj} : Below w.heap.size w w → w.heap.size ≤ (sortWorldK lineL 3 w blk 0 n d os).heap.size ∧ ∀ k, k < w.heap.size → k ≠ blk → (sortWorldK lineL 3 w blk 0 n d os).heap[k]? = w.heap[k]? := fun _ => by
  refine ⟨size_sortWorldK_c _ _ _ _ _ _ _ _, fun k hk hne => ?_⟩
  unfold sortWorldK Go.Sort.grow putRowK putRow mapBlock Go.Sort.ahead
  simp only
  rw [Array.getElem?_append_left (by simpa using hk), Array.getElem?_modify, if_neg (fun e => hne e.symm)]
set_option maxHeartbeats 1000000 in
theorem sort_c (out : List XLine) (v : Value) (base : Nat) (w : World) (hown : w.ownsRow base 57 3 v out.length (out.flatMap lineL)) (hb : ∀ x ∈ out, lineBd x) (hn : out.length ≤ 1000) (hbase : base ≤ w.heap.size) :
    Calls Try.prog 79 #[v, .func (.func 80) #[] #[]] w (fun e w' => e = .returned (.tuple #[]) ∧ ∃ out' : List XLine, out'.Perm out ∧ out'.Pairwise (fun x y => ¬ ltL y x) ∧ ListC LineC 3 w' (fun q => base ≤ q ∧ q < w'.heap.size) [v] out' ∧ Below base w w' ∧ w.heap.size ≤ w'.heap.size) := by
  rcases Nat.eq_zero_or_pos out.length with h0 | h0
  · have he : out = [] := List.eq_nil_of_length_eq_zero h0
    subst he
    obtain ⟨p, cap, rfl⟩ : ∃ p cap, v = .slice p 0 cap := by
      rcases hown.2 with ⟨rfl, _⟩ | ⟨g, cap, cur, rfl, _⟩
      · exact ⟨_, _, rfl⟩
      · exact ⟨_, _, rfl⟩
    have hcon := AnyF.slices_SortFunc_none sortL p cap (.func (.func 80) #[] #[]) w
    refine (show Calls Try.prog 79 #[.slice p 0 cap, .func (.func 80) #[] #[]] w _ from hcon).mono ?_
    rintro e w' ⟨rfl, rfl⟩
    refine ⟨rfl, [], List.Perm.refl _, List.Pairwise.nil, ?_, Below.refl _ _, Nat.le_refl _⟩
    have hc : 0 ≤ cap ∧ cap ≤ maxLen := by
      rcases hown.2 with ⟨e, _⟩ | ⟨g, cap', cur, e, _, _, h1, h2, _⟩
      · simp only [Value.slice.injEq] at e
        obtain ⟨_, _, rfl⟩ := e
        exact ⟨Nat.le_refl _, by unfold maxLen; decide⟩
      · simp only [Value.slice.injEq] at e
        obtain ⟨_, _, rfl⟩ := e
        exact ⟨Nat.zero_le _, h2⟩
    exact ⟨p, cap, rfl, hc.1, hc.2, fun h => absurd h (by simp)⟩
  · obtain ⟨g, cap, rfl, hbg, hgw, hcl, hcm⟩ : ∃ g cap, v = .slice (some ⟨g, 0, none⟩) out.length cap ∧ base ≤ g ∧ g < w.heap.size ∧ out.length ≤ cap ∧ cap ≤ maxLen := by
      rcases hown.2 with ⟨_, hz⟩ | ⟨g, cap, cur, hv, h1, h2, h3, h4, _⟩
      · omega
      · exact ⟨g, cap, hv, h1, blk_lt h2, h3, h4⟩
    have hH : HoldsK lineL 3 w g 0 out.toArray := by
      intro j hj
      rw [size_flatK] at hj
      have hj' : j < out.length * 3 := by simpa using hj
      rw [get_flatK _ _ _ _ hj]
      have hg := flat_get (f := lineL) (k := 3) (by omega) (fun _ => rfl) out j hj'
      have e1 : out.toArray[j / 3]! = out[j / 3]! := by simp
      have hmod : j % 3 < (lineL out[j / 3]!).length := by show j % 3 < 3; omega
      rw [List.getElem?_eq_getElem hmod] at hg
      have hc := hown.cells (g := g) rfl j _ hg
      have hf := own_unfrozen hown (g := g) rfl j
      rw [Addr.add_lit] at hc hf
      rw [e1, getElem!_pos (lineL out[j / 3]!) (j % 3) hmod]
      exact ⟨hc, hf⟩
    have hcmp : CmpLays Try.prog 80 (#[] : Array Value) lineL 3 cmpL g 0 out.toArray.size w := fun m os dk hdk x y => clos_c x y _
    have eg : ∀ args w, (callFunc 80 args).run Try.prog w = .ok (.enter 80 args) w := enters_of Try.func80 (by kernel_rfl) rfl
    have hcon := AnyQ.slices_SortFunc sortL 3 Try.isAgg57 Try.sizeOf57 lineL (fun _ => rfl) (fun x v hv => by simp [lineL] at hv; rcases hv with rfl | rfl | rfl <;> rfl) cmpL swoL 80 #[] g 0 cap out.toArray w eg hcmp hH hgw (by simp; omega)
    have hsz : out.toArray.size = out.length := by simp
    rw [hsz] at hcon
    refine (show Calls Try.prog 79 #[.slice (some ⟨g, 0, none⟩) out.length cap, .func (.func 80) #[] #[]] w _ from hcon).mono ?_
    rintro e w' ⟨rfl, d', n, os, hp, hs, rfl⟩
    obtain ⟨hp1, _, hp3⟩ := hp
    have hd : d'.size = out.length := by simpa using hp1
    have hperm : d'.toList.Perm out := by
      have e1 : (d'.extract 0 out.length).toList = d'.toList := by rw [← hd]; simp
      have e2 : (out.toArray.extract 0 out.length).toList = out := by simp
      rw [e1, e2] at hp3
      exact hp3
    have hH' := holdsK_sortWorldK_c lineL 3 w g 0 out.toArray d' n os hH hgw hp1
    obtain ⟨hz1, hz2⟩ := blk_sort (w := w) (blk := g) (n := n) (d := d') (os := os) (Below.refl _ _)
    refine ⟨rfl, d'.toList, hperm, ?_, ?_, ⟨rfl, rfl, rfl, hz1, fun k hk => hz2 k (by omega) (by omega)⟩, hz1⟩
    · rw [List.pairwise_iff_getElem]
      intro i j hi hj hij hlt
      have hi' : i < d'.size := by simpa using hi
      have hj' : j < d'.size := by simpa using hj
      have h1 := hs i j (Nat.zero_le _) hij (by omega)
      rw [getElem!_pos d' i hi', getElem!_pos d' j hj'] at h1
      have h2 := (ltOf_cmp d'[j] d'[i]).2 hlt
      rw [h1] at h2
      cases h2
    · have hlen : d'.toList.length = out.length := by simpa using hd
      rw [← hlen]
      refine ⟨_, cap, rfl, by omega, hcm, fun _ => ⟨g, 0, rfl, ⟨hbg, by omega⟩, fun i x hx => ?_⟩⟩
      obtain ⟨hi, hxi⟩ := List.getElem?_eq_some_iff.1 hx
      have hi' : i < d'.size := by simpa using hi
      have hbx := hb x (hperm.mem_iff.1 (List.mem_of_getElem? hx))
      refine ⟨lineL x, ⟨[_], [_], [_], rfl, ⟨rfl, hbx.1⟩, ⟨rfl, hbx.2.1⟩, ⟨rfl, hbx.2.2⟩⟩, ⟨⟨hbg, by show g < _; omega⟩, fun j u hj => ?_⟩⟩
      have hjl : j < 3 := (List.getElem?_eq_some_iff.1 hj).1
      have hc := hH'.cell hi' hjl
      rw [getElem!_pos d' i hi'] at hc
      have hxd : d'[i] = x := by rw [← hxi]; simp
      rw [hxd, getElem!_pos (lineL x) j hjl] at hc
      rw [Addr.add_lit]
      obtain ⟨_, hju⟩ := List.getElem?_eq_some_iff.1 hj
      rw [hju] at hc
      exact hc
end Go.Proofs.Ytnigokmjehemaaa

/- The normal form in the program: the sums. Written by gen_f4.py. -/
namespace Go.Proofs.Ytnigokmjehemaaa
open Go Go.RowKit Go.ChangeMaps
open Go.Maps (Keyed)
set_option linter.unusedVariables false
set_option linter.unusedSimpArgs false
set_option maxRecDepth 4000
attribute [local go_sem ↓] Go.wp_at_zero Go.wp_at_succ
/-- What 'm[k] += v' has laid: the entry, its stamp. -/
def IsEnt (mb : Nat) (es1 : Array MapEntry) (clock1 : Nat) (c0 : Int) (st : Nat) (v : Value) (w : World) : Prop := v = .tuple #[.int .i64 c0, goInt st] ∧ w.heap[mb]? = some (.map es1 clock1)
theorem IsEnt.keep (mb : Nat) (es1 : Array MapEntry) (clock1 : Nat) (c0 : Int) (st : Nat) : ∀ v w w', Below w.heap.size w w' → IsEnt mb es1 clock1 c0 st v w → IsEnt mb es1 clock1 c0 st v w' :=
  fun v w w' hb h => ⟨h.1, (hb.block mb (blk_lt h.2)).trans h.2⟩
/-- The world but for the map, which is as it was or holds the entry. -/
def SMap (mb : Nat) (es : Array MapEntry) (clock : Nat) (es1 : Array MapEntry) (clock1 : Nat) (W w : World) : Prop := Fr (fun q => q ≠ mb) W w ∧ w.heap.size = W.heap.size ∧ (w.heap[mb]? = some (.map es clock) ∨ w.heap[mb]? = some (.map es1 clock1))
theorem ks_ent {W w2 w3 : World} {ks : List Kind} {mb : Nat} {es1 : Array MapEntry} {clock1 : Nat} {c0 : Int} {st : Nat} (hks : ∀ k ∈ ks, (∃ u, k = .val u) ∨ k = .own (IsEnt mb es1 clock1 c0 st) (IsEnt.keep mb es1 clock1 c0 st)) (hb : w3.heap[mb]? = some (.map es1 clock1)) : ∀ (i : Nat) (v : Value), Ks W ks i v w2 → Ks W ks i v w3 := fun i v h k hk => by
  have h1 := h k hk
  rcases hks k (List.mem_of_getElem? hk) with ⟨u, rfl⟩ | rfl
  · exact h1
  · exact ⟨h1.1, hb⟩
theorem fr_setBlock {w : World} {b : Nat} {o : Obj} : Fr (fun q => q ≠ b) w (setBlock w b o) :=
  ⟨rfl, rfl, rfl, by simp [setBlock], fun k hk => by simp only [setBlock]; rw [Array.getElem?_setIfInBounds_ne (fun e => hk e.symm)]⟩
theorem setBlock_size {w : World} {b : Nat} {o : Obj} : (setBlock w b o).heap.size = w.heap.size := by simp [setBlock]
theorem line_bd {l : List XLine} {w : World} {A : Option Addr} {n c : Nat} (hl : ListC LineC 3 w (· < w.heap.size) [.slice A n c] l) {k : Nat} (hk : k < l.length) : lineBd l[k] := by
  obtain ⟨b, o, es, _, _, hes, _⟩ := ListC.get hl k hk
  exact (LineC.lit hes).2
theorem sums_step {l : List XLine} {k : Nat} (hk : k < l.length) (x : XLine) (hx : l[k] = x) (hb : intBd x.account ∧ intBd x.partner) (c : PK) : (if c = (⟨(x.account, x.partner), hb⟩ : PK) then sumAt (l.take k) x.account x.partner + x.amount else sumAt (l.take k) c.1.1 c.1.2) = sumAt (l.take (k + 1)) c.1.1 c.1.2 := by
  rw [sumAt_succ hk, hx]
  by_cases h : c = (⟨(x.account, x.partner), hb⟩ : PK)
  · rw [if_pos h]
    subst h
    simp [isAt]
  · rw [if_neg h]
    have : isAt c.1.1 c.1.2 x = false := by
      unfold isAt
      rw [Bool.and_eq_false_iff]
      by_cases e1 : x.account = c.1.1
      · right
        have : ¬ x.partner = c.1.2 := fun e2 => h (Subtype.ext (Prod.ext e1.symm e2.symm))
        simpa using this
      · left; simpa using e1
    rw [this]; simp
/-- The sums in the map, for the program's first loop. -/
def SumsAt (l : List XLine) (k : Nat) (c : PK) : Int := sumAt (l.take k) c.1.1 c.1.2
theorem owns_size {w : World} {P : Program} {k : TypeId} {R : Value → Option (DataW Unit × List MemPlace)} {b n : Nat} {D : UD} (h : w.ownsMap P k R b n D) : Maps.size D ≤ n := by
  obtain ⟨es, clock, _, _, hs, rfl⟩ := h
  show (List.foldr DataW.insert [] _).length ≤ n
  rw [length_sorted]
  simpa using hs
theorem pair_inv {v : Value} {l : Lit} (h : keyOf Try.prog 96 v = some l) : ∃ c : PK, v = .agg #[.int .i64 c.1.1, .int .i64 c.1.2] := by
  unfold keyOf at h
  rw [Try.underlying96] at h
  simp only [pair_keyType, Bool.true_and] at h
  split at h
  case isFalse => cases h
  case isTrue hf =>
    cases v <;> simp [Value.formed, Try.underlying96, pair_cells, int_cells] at hf
    rename_i cs
    obtain ⟨d, hd⟩ := types_size
    rw [hd] at h
    obtain ⟨a, z, rfl⟩ : ∃ a z, cs = #[a, z] := by
      obtain ⟨l⟩ := cs
      match l, hf with
      | [], h => simp at h
      | [_], h => simp at h
      | [a, z], _ => exact ⟨a, z, rfl⟩
      | _ :: _ :: _ :: _, h => simp at h
    unfold Program.keyLits at h
    rw [Try.underlying96] at h
    simp only [Value.cells] at h
    have hk : ∀ (v : Value) (r : List Lit), Try.prog.keyLits (d + 1) 3 [v] = some r → ∃ n : Int, v = .int .i64 n ∧ intBd n := by
      intro v r hr
      unfold Program.keyLits at hr
      rw [int_uty] at hr
      cases v <;> simp at hr
      rename_i q n
      obtain ⟨⟨rfl, hw⟩, _⟩ := hr
      refine ⟨n, rfl, ?_⟩
      simp [Lit.wf, IntKind.min, IntKind.max, IntKind.signed, IntKind.bits] at hw
      unfold intBd; omega
    cases h1 : Try.prog.keyLits (d + 1) 3 [a] with
    | none => simp [int_cells, pair_cells, List.range_succ, h1] at h
    | some r1 =>
      cases h2 : Try.prog.keyLits (d + 1) 3 [z] with
      | none => simp [int_cells, pair_cells, List.range_succ, h1, h2] at h
      | some r2 =>
        obtain ⟨n1, rfl, b1⟩ := hk _ _ h1
        obtain ⟨n2, rfl, b2⟩ := hk _ _ h2
        exact ⟨⟨(n1, n2), b1, b2⟩, rfl⟩
theorem info_lineA : (Try.prog.info? 57).map (fun i => (i.zero, i.size, i.bytes)) = some (some (.agg #[.int .i64 0, .int .i64 0, .int .i64 0]), 3, 24) := by kernel_rfl
theorem lines_uty : Try.prog.underlying 51 = some (.slice 57) := by kernel_rfl
/-- What the second loop has collected. -/
def NormInv (l : List XLine) (k : Nat) (left : Lit → Bool) (out : List XLine) : Prop :=
  (∀ x ∈ out, lineBd x ∧ x.amount = sumAt (l.take k) x.account x.partner ∧ x.amount ≠ 0 ∧ ∀ hb, left (pKey ⟨(x.account, x.partner), hb⟩) = false) ∧
  out.Pairwise (fun x y => ¬ (x.account = y.account ∧ x.partner = y.partner)) ∧
  ∀ c : PK, SumsAt l k c ≠ 0 → left (pKey c) = true ∨ ∃ x ∈ out, x.account = c.1.1 ∧ x.partner = c.1.2
theorem NormInv.start {l : List XLine} {k : Nat} {D : UD} (hat : ∀ c : PK, D.atKey (pKey c) (.lit (.int .i64 0)) = .lit (.int .i64 (SumsAt l k c))) : NormInv l k (Maps.has D) [] := by
  refine ⟨(fun x hx => by cases hx), List.Pairwise.nil, fun c hc => Or.inl ?_⟩
  cases hh : Maps.has D (pKey c) with
  | true => rfl
  | false =>
    have h1 := hat c
    rw [Maps.atKey_of_not_has hh] at h1
    simp only [DataW.lit.injEq, Lit.int.injEq, true_and] at h1
    exact absurd h1.symm hc
theorem pKey_same {a c : PK} : (pKey a).sameKey (pKey c) = true ↔ a = c :=
  ⟨fun h => pKey_inj _ _ (WideAt.sameKey_eq h), fun h => by rw [h]; exact WideAt.sameKey_self (pKey_lit c)⟩
theorem NormInv.skip {l : List XLine} {k : Nat} {left : Lit → Bool} {out : List XLine} (h : NormInv l k left out) {c : PK} (h0 : SumsAt l k c = 0) : NormInv l k (fun z => left z && !z.sameKey (pKey c)) out := by
  obtain ⟨h1, h2, h3⟩ := h
  refine ⟨fun x hx => ?_, h2, fun d hd => ?_⟩
  · obtain ⟨a1, a2, a3, a4⟩ := h1 x hx
    exact ⟨a1, a2, a3, fun hb => by show (left (pKey _) && _) = false; rw [a4 hb]; rfl⟩
  · rcases h3 d hd with h4 | h4
    · left
      have : ¬ (pKey d).sameKey (pKey c) = true := fun e => hd (by rw [pKey_same.1 e]; exact h0)
      simp [h4, this]
    · exact Or.inr h4
theorem NormInv.step {l : List XLine} {k : Nat} {left : Lit → Bool} {out : List XLine} (h : NormInv l k left out) {c : PK} (hlk : left (pKey c) = true) (h0 : SumsAt l k c ≠ 0) (hbd : intBd (SumsAt l k c)) : NormInv l k (fun z => left z && !z.sameKey (pKey c)) (out ++ [⟨c.1.1, SumsAt l k c, c.1.2⟩]) := by
  obtain ⟨h1, h2, h3⟩ := h
  refine ⟨fun x hx => ?_, ?_, fun d hd => ?_⟩
  · rcases List.mem_append.1 hx with hx | hx
    · obtain ⟨a1, a2, a3, a4⟩ := h1 x hx
      exact ⟨a1, a2, a3, fun hb => by show (left (pKey _) && _) = false; rw [a4 hb]; rfl⟩
    · simp only [List.mem_singleton] at hx
      subst hx
      refine ⟨⟨c.2.1, hbd, c.2.2⟩, rfl, h0, fun hb => ?_⟩
      have : (pKey ⟨(c.1.1, c.1.2), hb⟩).sameKey (pKey c) = true := pKey_same.2 (Subtype.ext rfl)
      simp only [this]
      simp
  · rw [List.pairwise_append]
    refine ⟨h2, by simp, fun x hx y hy hxy => ?_⟩
    simp only [List.mem_singleton] at hy
    subst hy
    obtain ⟨a1, _, _, a4⟩ := h1 x hx
    have hb : intBd x.account ∧ intBd x.partner := ⟨a1.1, a1.2.2⟩
    have e : (⟨(x.account, x.partner), hb⟩ : PK) = c := Subtype.ext (Prod.ext hxy.1 hxy.2)
    have := a4 hb
    rw [e, hlk] at this
    cases this
  · by_cases e : d = c
    · subst e
      exact Or.inr ⟨_, List.mem_append_right _ (List.mem_singleton.2 rfl), rfl, rfl⟩
    · rcases h3 d hd with h4 | ⟨x, hx, h5⟩
      · left
        have : ¬ (pKey d).sameKey (pKey c) = true := fun e' => e (pKey_same.1 e')
        simp [h4, this]
      · exact Or.inr ⟨x, List.mem_append_left _ hx, h5⟩
/-- A step of a range over a map of pairs. -/
theorem wpList_next_pairs (w : World) {ops : Array Oper} {rest : List Oper} {o : Oper} {a : Act} {Q : Exit → Act → World → Prop} (hg : o.guard = none) (it : Operand) (hop : o.op = Op.next it false) (b r n : Nat) (D : UD) (left : Lit → Bool) (cnt : Nat) (f : PK → Int)
    (hit : a.eval it = .pointer (some ⟨r, 0, none⟩)) (h : w.ranges Try.prog 96 (plainElem Try.prog 3) b r n D left cnt) (hat : ∀ c : PK, D.atKey (pKey c) (.lit (.int .i64 0)) = .lit (.int .i64 (f c)))
    (hDone : (∀ kl, left kl = false) → wpList Try.prog ops Q rest (a.put o.dst (.tuple #[.bool false])) w)
    (hMore : ∀ (c : PK) (w' : World) (cnt' : Nat), left (pKey c) = true → w'.ranges Try.prog 96 (plainElem Try.prog 3) b r n D (fun z => left z && !z.sameKey (pKey c)) cnt' → cnt' < cnt → w.grownBy w' (some r) → w'.heap.size = w.heap.size →
      (Instr.entry (.pointer (some ⟨r, 0, none⟩))).run Try.prog w' = .ok (.tuple #[.agg #[.int .i64 c.1.1, .int .i64 c.1.2], .int .i64 (f c)]) w' → wpList Try.prog ops Q rest (a.put o.dst (.tuple #[.bool true, .agg #[.int .i64 c.1.1, .int .i64 c.1.2], .int .i64 (f c)])) w') :
    wpList Try.prog ops Q (o :: rest) a w :=
  wpList_next_ranges w hg it hop 96 pair_keyed (plainElem Try.prog 3) (fun c : PK => .agg #[.int .i64 c.1.1, .int .i64 c.1.2]) (Value.int .i64)
    (fun key kl hkey => pair_inv hkey) (fun v y hv => by obtain ⟨c, rfl, _⟩ := plainElem_int_inv int_uty hv; exact ⟨c, rfl⟩)
    b r n D left cnt hit h (fun _ hl => hDone hl) (fun c v kl y w' cnt' hkey hlk hv hat' hrg hlt hgr hsz hen => by
      rw [pKey_of c] at hkey
      obtain rfl := Option.some.inj hkey
      obtain ⟨v', ev, rfl, hwf⟩ := plainElem_int_inv int_uty hv
      cases ev
      have h1 := hat c
      rw [hat' _] at h1
      simp only [DataW.lit.injEq, Lit.int.injEq, true_and] at h1
      subst h1
      exact hMore c w' cnt' hlk hrg hlt hgr hsz hen)
theorem sumAt_some : ∀ {l : List XLine} {a p : Int}, sumAt l a p ≠ 0 → ∃ y ∈ l, y.account = a ∧ y.partner = p
  | [], a, p, h => absurd rfl h
  | x :: l, a, p, h => by
    rw [sumAt_cons] at h
    by_cases hx : isAt a p x = true
    · refine ⟨x, List.mem_cons_self, ?_⟩
      unfold isAt at hx
      simpa using hx
    · rw [if_neg hx] at h
      obtain ⟨y, hy, e⟩ := sumAt_some (l := l) (a := a) (p := p) (by omega)
      exact ⟨y, List.mem_cons_of_mem _ hy, e⟩
theorem norm_of {l out out' : List XLine} {left : Lit → Bool} (h : NormInv l l.length left out) (hl : ∀ kl, left kl = false) (hbd : ∀ y ∈ l, lineBd y) (hp : out'.Perm out) (hs : out'.Pairwise (fun x y => ¬ ltL y x)) : IsNorm l out' := by
  obtain ⟨h1, h2, h3⟩ := h
  rw [List.take_length] at h1
  have h2' : out'.Pairwise (fun x y => ¬ (x.account = y.account ∧ x.partner = y.partner)) := (hp.pairwise_iff (fun {x y} hne e => hne ⟨e.1.symm, e.2.symm⟩)).2 h2
  refine ⟨?_, fun x => ?_⟩
  · refine (hs.and h2').imp (fun {x y} hxy => ?_)
    rcases ltL_tri x y with h | h | h
    · exact h
    · exact absurd h hxy.2
    · exact absurd h hxy.1
  · rw [hp.mem_iff]
    constructor
    · intro hx
      obtain ⟨_, a2, a3, _⟩ := h1 x hx
      exact ⟨a2, a3⟩
    · rintro ⟨e, hne⟩
      rw [e] at hne
      obtain ⟨y, hy, ya, yp⟩ := sumAt_some hne
      have hyb := hbd y hy
      have hpk : intBd x.account ∧ intBd x.partner := ⟨ya ▸ hyb.1, yp ▸ hyb.2.2⟩
      rcases h3 ⟨(x.account, x.partner), hpk⟩ (by unfold SumsAt; rw [List.take_length]; exact hne) with h4 | ⟨z, hz, za, zp⟩
      · rw [hl] at h4
        cases h4
      · have hza : z.account = x.account := za
        have hzp : z.partner = x.partner := zp
        obtain ⟨_, z2, _, _⟩ := h1 z hz
        have : z = x := by
          obtain ⟨z1, zz, z3⟩ := z
          obtain ⟨x1, xx, x3⟩ := x
          simp only at hza hzp z2 e
          subst hza hzp
          rw [z2, e]
        rw [← this]
        exact hz
/-- What Normal leaves: the normal form, in new memory. -/
def NormPost (l : List XLine) (w : World) (e : Ending) (w' : World) : Prop := ∃ A out c, e = .returned (.slice A out.length c) ∧ IsNorm l out ∧ out.length ≤ l.length ∧ ListC LineC 3 w' (fun q => w.heap.size ≤ q ∧ q < w'.heap.size) [.slice A out.length c] out ∧ Below w.heap.size w w'
set_option maxHeartbeats 4000000 in
theorem normal_c (l : List XLine) (A : Option Addr) (c : Nat) (w : World) (hl : ListC LineC 3 w (· < w.heap.size) [.slice A l.length c] l) (hs : absL l ≤ 4611686018427387904) (hn9 : l.length ≤ 1000) : Calls Try.prog 31 #[.slice A l.length c] w (NormPost l w) := by
  have hmm := @run_makeMap Try.prog
  obtain ⟨ia, hia, hzia, hsia, hbia⟩ := info_parts info_lineA
  obtain ⟨n, hnl⟩ : ∃ n, l.length = n := ⟨_, rfl⟩
  have HL := Lib.hid hl
  have HN := Lib.hid hnl
  have HS := Lib.hid hs
  rw [hnl] at hn9 ⊢
  clear hl hnl hs
  go_enter Try.func31, Try.ntmps31
  go_wp2_with fail
  have HM0 := MapN.made Try.prog 96 3 pKey w
  have hb0 := below1 w (.map #[] 0)
  have hs0 : w.heap.size < (w.alloc (.map #[] 0)).heap.size := by simp
  generalize hW0 : w.alloc (.map #[] 0) = W0 at *
  clear hW0
  have HM := Lib.hid HM0
  clear HM0
  go_loopw [12] (fun i wr => ∃ k : Nat, k ≤ n ∧ i = .int .i64 (k : Int) ∧ Below w.heap.size w wr ∧ MapP wr w.heap.size k (SumsAt l k)) (fun i _ => n - (intOf i).toNat)
  case atStart => exact ⟨0, by omega, rfl, hb0, HM.out.eqv (fun c => rfl)⟩
  case round =>
    obtain ⟨k, hk, rfl, hb, hm⟩ := hrel
    have HMW := Lib.hid hm
    have HML0 := Lib.hid hm.lt
    clear hm
    by_cases hlt : k < n
    case pos =>
      have hltI : (k : Int) < (n : Int) := by omega
      have hkl : k < l.length := by rw [HN.out]; exact hlt
      obtain ⟨b, o, es, hAe, hbw, hes, hat⟩ := ListC.get HL.out k hkl
      subst hAe
      have hes1 := (LineC.lit hes).1
      have hbd := (LineC.lit hes).2
      rw [hes1] at hat
      have hq := sumAt_abs (l.take k) l[k].account l[k].partner
      have hq2 := sumAt_abs (l.take (k + 1)) l[k].account l[k].partner
      rw [sumAt_succ hkl] at hq2
      have hab1 := absL_take l k
      have hab2 := absL_take l (k + 1)
      have habs := HS.out
      obtain ⟨x, hx⟩ : ∃ x, l[k] = x := ⟨_, rfl⟩
      have HSTEP := Lib.hid (fun (hb : intBd x.account ∧ intBd x.partner) (c : PK) => sums_step hkl x hx hb c)
      rw [hx] at hat hbd hq hq2
      have hpos : isAt x.account x.partner x = true := by simp [isAt]
      rw [if_pos hpos] at hq2
      obtain ⟨la, lm, lp⟩ := x
      simp only at hat hq hq2
      obtain ⟨hla, hlm, hlp⟩ := hbd
      have HKB := Lib.hid (show intBd la ∧ intBd lp from ⟨hla, hlp⟩)
      have hatw := hat.fr (Fr.ofBelow hb)
      have HAR := Lib.hid hatw.range
      obtain ⟨c0, hc0⟩ : ∃ c0, sumAt (l.take k) la lp = c0 := ⟨_, rfl⟩
      rw [hc0] at hq hq2
      have HWR := Lib.hid (show IntKind.i64.wrap (c0 + lm) = c0 + lm from IntWalk.i64_in _ (by omega))
      have HWF := Lib.hid (show (Lit.int .i64 (c0 + lm)).wf = true from WalkArith.wf_i64 (show intBd (c0 + lm) by unfold intBd; omega))
      have HC0 := Lib.hid hc0
      clear hes hes1 hat hatw hx hq hq2 hab1 hab2 habs hpos hla hlm hlp hc0
      go_upto_region 5 with (show wpList _ _ _ (Oper.mk (some 15) _ _ _ _ _ :: _) _ _; refine wpList_load_mid rfl 57 (.tmp 14) rfl b (o + k * 3) rfl [.int .i64 la, .int .i64 lm, .int .i64 lp] _ HAR.out Try.underlying57 rfl info_line ?_)
      have H6 := heap_alloc_new wr (.cells #[.int .i64 la, .int .i64 lm, .int .i64 lp] 57)
      have HB6 := below1 wr (.cells #[.int .i64 la, .int .i64 lm, .int .i64 lp] 57)
      have HS6 : wr.heap.size < (wr.alloc (.cells #[.int .i64 la, .int .i64 lm, .int .i64 lp] 57)).heap.size := blk_lt H6
      generalize hW6 : wr.alloc (Obj.cells #[.int .i64 la, .int .i64 lm, .int .i64 lp] 57) = W6 at *
      clear hW6
      have C0 := Lib.hid (blk_cell H6 0)
      have C1 := Lib.hid (blk_cell H6 1)
      have C2 := Lib.hid (blk_cell H6 2)
      clear H6
      have hb6 := hb.trans (HB6.mono hb.size)
      have HNE := Lib.hid (show wr.heap.size ≠ w.heap.size by have := HML0.out; omega)
      have HMW6 := Lib.hid (MapN.below HMW.out HB6)
      have HML := Lib.hid HMW6.out.lt
      obtain ⟨st, es, clock, es1, clock1, hbk, hrun, hstore⟩ := HMW6.out.assign pair_keyed pmap_uty int_uty int_zero (by unfold maxLen; omega) pKey_inj pKey_lit (pKey_of ⟨(la, lp), HKB.out⟩)
      have hfc : SumsAt l k ⟨(la, lp), HKB.out⟩ = c0 := HC0.out
      rw [hfc] at hrun
      obtain ⟨es', clock', hst, hmap⟩ := hstore (c0 + lm) HWF.out
      have HBK := Lib.hid hbk
      have HRUN := Lib.hid hrun
      have HST := Lib.hid hst
      have HMAP := Lib.hid hmap
      clear hbk hrun hstore hst hmap hfc
      refine wp_region_inv2' 12 (Ks W6 [.val (.map (some w.heap.size)), .val (.pointer (some ⟨wr.heap.size, 0, none⟩)), .val (.int .i64 la), .val (.pointer (some ⟨wr.heap.size, 2, none⟩)), .val (.int .i64 lp), .val (.agg #[.int .i64 la, .int .i64 lp]), .val (.int .i64 c0), .val (.pointer (some ⟨wr.heap.size, 1, none⟩)), .val (.int .i64 lm), .val (.int .i64 (c0 + lm)), .own (IsEnt w.heap.size es1 clock1 c0 st) (IsEnt.keep _ _ _ _ _), .val (goInt st)])
        (SMap w.heap.size es clock es1 clock1 W6) (by kernel_rfl) (by kernel_rfl) (by kernel_rfl) (by decide) (by kernel_rfl) (by kernel_rfl) ⟨(Fr.refl _ _).drew, rfl, Or.inl HBK.out⟩ ?_ ?_
      · refine ⟨?_, ?_, ?_, ?_, ?_, ?_, ?_, ?_, ?_, ?_, ?_, ?_, trivial⟩
        · intro listed A0 w2 hI hd hnd K hK
          have e0 := hI.slot hnd 3 _ rfl (by kernel_rfl)
          have hS := hI.world
          refine wanted_go rfl ?_
          clear hI hd hnd
          go_simp
          exact hK.out _ _ hS (Ks.of rfl rfl) (fun _ _ h => h)
        · intro listed A0 w2 hI hd hnd K hK
          have e0 := hI.slot hnd 5 _ rfl (by kernel_rfl)
          have hS := hI.world
          refine wanted_go rfl ?_
          clear hI hd hnd
          go_simp
          exact hK.out _ _ hS (Ks.of rfl rfl) (fun _ _ h => h)
        · intro listed A0 w2 hI hd hnd K hK
          have e0 := hI.depv hd 1 17 _ rfl rfl rfl (by kernel_rfl)
          have hS := hI.world
          have hcc : w2.cell? ⟨wr.heap.size, 0, none⟩ = _ := (hS.1.cell (p := ⟨wr.heap.size, 0, none⟩) HNE.out).trans C0.out
          refine wanted_go rfl ?_
          clear hI hd hnd
          go_simp
          exact hK.out _ _ hS (Ks.of rfl rfl) (fun _ _ h => h)
        · intro listed A0 w2 hI hd hnd K hK
          have e0 := hI.slot hnd 5 _ rfl (by kernel_rfl)
          have hS := hI.world
          refine wanted_go rfl ?_
          clear hI hd hnd
          go_simp
          exact hK.out _ _ hS (Ks.of rfl rfl) (fun _ _ h => h)
        · intro listed A0 w2 hI hd hnd K hK
          have e0 := hI.depv hd 3 19 _ rfl rfl rfl (by kernel_rfl)
          have hS := hI.world
          have hcc : w2.cell? ⟨wr.heap.size, 2, none⟩ = _ := (hS.1.cell (p := ⟨wr.heap.size, 2, none⟩) HNE.out).trans C2.out
          refine wanted_go rfl ?_
          clear hI hd hnd
          go_simp
          exact hK.out _ _ hS (Ks.of rfl rfl) (fun _ _ h => h)
        · intro listed A0 w2 hI hd hnd K hK
          have e0 := hI.depv hd 2 18 _ rfl rfl rfl (by kernel_rfl)
          have e1 := hI.depv hd 4 20 _ rfl rfl rfl (by kernel_rfl)
          have hS := hI.world
          refine wanted_go rfl ?_
          clear hI hd hnd
          go_simp
          exact hK.out _ _ hS (Ks.of rfl rfl) (fun _ _ h => h)
        · intro listed A0 w2 hI hd hnd K hK
          have e0 := hI.depv hd 0 16 _ rfl rfl rfl (by kernel_rfl)
          have e1 := hI.depv hd 5 21 _ rfl rfl rfl (by kernel_rfl)
          have hS := hI.world
          have hlk := (HRUN.out w2 hS.2.2).1
          refine wanted_go rfl ?_
          clear hI hd hnd
          go_simp
          exact hK.out _ _ hS (Ks.of rfl rfl) (fun _ _ h => h)
        · intro listed A0 w2 hI hd hnd K hK
          have e0 := hI.slot hnd 5 _ rfl (by kernel_rfl)
          have hS := hI.world
          refine wanted_go rfl ?_
          clear hI hd hnd
          go_simp
          exact hK.out _ _ hS (Ks.of rfl rfl) (fun _ _ h => h)
        · intro listed A0 w2 hI hd hnd K hK
          have e0 := hI.depv hd 7 23 _ rfl rfl rfl (by kernel_rfl)
          have hS := hI.world
          have hcc : w2.cell? ⟨wr.heap.size, 1, none⟩ = _ := (hS.1.cell (p := ⟨wr.heap.size, 1, none⟩) HNE.out).trans C1.out
          refine wanted_go rfl ?_
          clear hI hd hnd
          go_simp
          exact hK.out _ _ hS (Ks.of rfl rfl) (fun _ _ h => h)
        · intro listed A0 w2 hI hd hnd K hK
          have e0 := hI.depv hd 6 22 _ rfl rfl rfl (by kernel_rfl)
          have e1 := hI.depv hd 8 24 _ rfl rfl rfl (by kernel_rfl)
          have hS := hI.world
          have hwr := HWR.out
          refine wanted_go rfl ?_
          clear hI hd hnd
          go_simp
          exact hK.out _ _ hS (Ks.of rfl rfl) (fun _ _ h => h)
        · intro listed A0 w2 hI hd hnd K hK
          have e0 := hI.depv hd 0 16 _ rfl rfl rfl (by kernel_rfl)
          have e1 := hI.depv hd 5 21 _ rfl rfl rfl (by kernel_rfl)
          have hS := hI.world
          have hme := (HRUN.out w2 hS.2.2).2
          refine wanted_go rfl ?_
          clear hI hd hnd
          go_simp
          have hsb : (setBlock w2 w.heap.size (.map es1 clock1)).heap[w.heap.size]? = some (.map es1 clock1) := setBlock_at (by rw [hS.2.1]; exact HML.out)
          exact hK.out _ _ ⟨hS.1.trans fr_setBlock, setBlock_size.trans hS.2.1, Or.inr hsb⟩ (Ks.of rfl ⟨rfl, hsb⟩) (ks_ent (by simp only [List.forall_mem_cons]; exact ⟨Or.inl ⟨_, rfl⟩, Or.inl ⟨_, rfl⟩, Or.inl ⟨_, rfl⟩, Or.inl ⟨_, rfl⟩, Or.inl ⟨_, rfl⟩, Or.inl ⟨_, rfl⟩, Or.inl ⟨_, rfl⟩, Or.inl ⟨_, rfl⟩, Or.inl ⟨_, rfl⟩, Or.inl ⟨_, rfl⟩, Or.inr rfl, Or.inl ⟨_, rfl⟩, fun _ h => by cases h⟩) hsb)
        · intro listed A0 w2 hI hd hnd K hK
          obtain ⟨x0, e0, h0⟩ := hI.dep hd 10 26 rfl rfl rfl (by kernel_rfl)
          have hS := hI.world
          obtain ⟨rfl, hB⟩ := h0
          refine wanted_go rfl ?_
          clear hI hd hnd
          go_simp
          exact hK.out _ _ hS (Ks.of rfl rfl) (fun _ _ h => h)
      · intro f A0 w2 hI
        obtain ⟨x0, g0, h0⟩ := hI.got 0 _ 16 rfl rfl rfl
        obtain ⟨x1, g1, h1⟩ := hI.got 1 _ 17 rfl rfl rfl
        obtain ⟨x2, g2, h2⟩ := hI.got 2 _ 18 rfl rfl rfl
        obtain ⟨x3, g3, h3⟩ := hI.got 3 _ 19 rfl rfl rfl
        obtain ⟨x4, g4, h4⟩ := hI.got 4 _ 20 rfl rfl rfl
        obtain ⟨x5, g5, h5⟩ := hI.got 5 _ 21 rfl rfl rfl
        obtain ⟨x6, g6, h6⟩ := hI.got 6 _ 22 rfl rfl rfl
        obtain ⟨x7, g7, h7⟩ := hI.got 7 _ 23 rfl rfl rfl
        obtain ⟨x8, g8, h8⟩ := hI.got 8 _ 24 rfl rfl rfl
        obtain ⟨x9, g9, h9⟩ := hI.got 9 _ 25 rfl rfl rfl
        obtain ⟨x10, g10, h10⟩ := hI.got 10 _ 26 rfl rfl rfl
        obtain ⟨x11, g11, h11⟩ := hI.got 11 _ 27 rfl rfl rfl
        have hS := hI.world
        have hA : A0 = _ := hI.tmps [(16, x0), (17, x1), (18, x2), (19, x3), (20, x4), (21, x5), (22, x6), (23, x7), (24, x8), (25, x9), (26, x10), (27, x11)] (by simp only [List.mem_cons, List.not_mem_nil, or_false, forall_eq_or_imp, forall_eq]; exact ⟨g0, g1, g2, g3, g4, g5, g6, g7, g8, g9, g10, g11⟩) (by kernel_rfl)
        obtain rfl : x0 = .map (some w.heap.size) := h0 _ rfl
        obtain rfl : x9 = .int .i64 (c0 + lm) := h9 _ rfl
        have k10 : (IsEnt w.heap.size es1 clock1 c0 st) x10 w2 := h10 _ rfl
        obtain rfl : x11 = goInt st := h11 _ rfl
        clear h0 g0 h1 g1 h2 g2 h3 g3 h4 g4 h5 g5 h6 g6 h7 g7 h8 g8 h9 g9 h10 g10 h11 g11 hI
        simp only [setAll, List.foldl, List.setIfInBounds_toArray, List.set_cons_zero, List.set_cons_succ] at hA
        rw [hA]
        clear hA
        obtain ⟨hx10, hB10⟩ := k10
        subst hx10
        have hst := HST.out w2 hB10
        try unfold goInt at hst
        show wpAny _ _ _ _ (f + 1) _ _ _
        refine wpAny_all (rs := [12]) (by kernel_rfl) (by simp) ?_
        intro i hi
        obtain rfl : i = 12 := by simpa using hi
        refine wpOp_step (o := _) rfl (fun K hK => ?_)
        refine wanted_go rfl ?_
        go_simp
        refine hK _ _ ?_
        refine wpAny_done (by kernel_rfl) ?_ _
        clear hK
        have hmap := HMAP.out w2 (by rw [hS.2.1]; exact HML.out)
        have hbE : Below w.heap.size w (setBlock w2 w.heap.size (.map es' clock')) := ((Fr.ofBelow hb6).trans (((hS.1).trans fr_setBlock).mono (fun q (hq : q < w.heap.size) => by show q ≠ w.heap.size; omega))).below
        have hmap2 := hmap.eqv (g := SumsAt l (k + 1)) (fun c => by
          have h := HSTEP.out HKB.out c
          simp only [HC0.out] at h
          exact h)
        have HBE := Lib.hid hbE
        have HMAP2 := Lib.hid hmap2
        clear hmap hmap2 hbE hS hst hB10
        generalize setBlock w2 w.heap.size (.map es' clock') = w3 at *
        go_wp2_with fail
        go_roundw
        case rel => exact ⟨k + 1, by omega, by go_num, HBE.out, HMAP2.out⟩
        case measure => first | exact meas_v hlt | (simp only [intOf]; omega)
    case neg =>
      have hltI : ¬ (k : Int) < (n : Int) := by omega
      have hkn : k = n := by omega
      subst hkn
      obtain ⟨D, hown, hat⟩ := HMW.out
      have HAT := Lib.hid hat
      clear hat
      go_wp2_with (first | (at_range; refine wpList_range_own _ rfl _ 123 rfl 96 3 pair_keyed pmap_uty _ w.heap.size k D rfl hown ?_; intro w0 hrg0 hg0 hs0))
      have hsz := owns_size hown
      have hb1 : Below w.heap.size w w0 := hb.grown hg0 (Nat.le_of_lt HML0.out) (fun _ h => by cases h)
      have HS0 := Lib.hid hs0
      have HRG0 := Lib.hid hrg0
      have HSZ := Lib.hid hsz
      have HNI := Lib.hid (NormInv.start HAT.out)
      clear hs0 hrg0 hsz hown hg0
      obtain ⟨rI, hrI⟩ : ∃ r, wr.heap.size = r := ⟨_, rfl⟩
      rw [hrI] at HRG0 HS0 HML0 ⊢
      have HRI := Lib.hid hrI
      clear hrI
      go_loopw [6] (fun v wx => ∃ (left : Lit → Bool) (cnt : Nat) (out : List XLine), wx.ranges Try.prog 96 (plainElem Try.prog 3) w.heap.size rI k D left cnt ∧ Below w.heap.size w wx ∧ wx.ownsRow w0.heap.size 57 3 v out.length (out.flatMap lineL) ∧ NormInv l k left out ∧ out.length + cnt ≤ k ∧ w0.heap.size ≤ wx.heap.size) (fun _ wx => wx.rangeLeft w.heap.size rI)
      case atStart => exact ⟨_, _, [], HRG0.out, hb1, World.ownsRow_nil _ _ _ _, HNI.out, by simpa using HSZ.out, Nat.le_refl _⟩
      case round =>
        obtain ⟨left, cnt, out, hrg, hbx, hown, hni, hcnt, hsx⟩ := hrel
        have HRG := Lib.hid hrg
        have HOWN := Lib.hid hown
        have HNI2 := Lib.hid hni
        clear hrg hown hni
        go_upto_block 3 with (at_next; refine wpList_next_pairs _ rfl _ rfl w.heap.size rI k D left cnt (SumsAt l k) rfl HRG.out HAT.out (fun hl0 => ?_) (fun c w1 cnt1 hlk hrg1 hlt1 hg1 hs1 hen => ?_))
        · have HX := Lib.hid (fun out' hp hs => norm_of (out' := out') (by have h := HNI2.out; rw [← HN.out] at h; exact h) hl0 (fun y hy => by
            obtain ⟨j, hj, rfl⟩ := List.getElem_of_mem hy
            have h := HL.out
            exact line_bd h hj) hp hs)
          have hbdo := Lib.hid (fun x hx => (HNI2.out.1 x hx).1)
          refine (sort_c out u6 w0.heap.size wr HOWN.out hbdo.out (by omega) hsx).mono ?_
          rintro e w9 ⟨rfl, out', hp, hs, hlc, hb9, hz9⟩
          have HIS := Lib.hid (HX.out out' hp hs)
          have HLC := Lib.hid hlc
          have HPL := Lib.hid (show out'.length ≤ l.length by rw [hp.length_eq, HN.out]; omega)
          have hbE : Below w.heap.size w w9 := hbx.trans (hb9.mono (by have := HS0.out; have := HML0.out; omega))
          have HBE := Lib.hid hbE
          obtain ⟨A9, c9, rfl⟩ : ∃ A9 c9, u6 = .slice A9 out'.length c9 := by
            obtain ⟨A9, c9, e, _⟩ := hlc
            exact ⟨A9, c9, by simpa using e⟩
          clear hp hs hlc hb9 hbE
          go_wp2_with fail
          go_ret
          exact ⟨A9, out', c9, rfl, HIS.out, HPL.out, HLC.out.mono (fun h => LineC.mono h (fun q (hq : w0.heap.size ≤ q ∧ q < w9.heap.size) => ⟨by have := HS0.out; have := HML0.out; omega, hq.2⟩)) (fun q (hq : w0.heap.size ≤ q ∧ q < w9.heap.size) => ⟨by have := HS0.out; have := HML0.out; omega, hq.2⟩), HBE.out⟩
        · obtain ⟨⟨ka, kp⟩, hka, hkp⟩ := c
          have hsb := sumAt_abs (l.take k) ka kp
          have hsb2 := absL_take l k
          have hsb3 := HS.out
          have HSK := Lib.hid (show intBd (SumsAt l k ⟨(ka, kp), hka, hkp⟩) by unfold SumsAt; unfold intBd; simp only; omega)
          have HSKIP := Lib.hid (fun h0 => HNI2.out.skip (c := ⟨(ka, kp), hka, hkp⟩) h0)
          have HSTP := Lib.hid (fun h0 => HNI2.out.step (c := ⟨(ka, kp), hka, hkp⟩) hlk h0 HSK.out)
          obtain ⟨s, hs⟩ : ∃ s, SumsAt l k ⟨(ka, kp), hka, hkp⟩ = s := ⟨_, rfl⟩
          simp only at hen
          rw [hs] at hen HSKIP HSTP
          have hbx1 : Below w.heap.size w w1 := hbx.grown hg1 (by have := HML0.out; have := HS0.out; omega) (fun q h => by cases h; exact Nat.le_of_lt HML0.out)
          have how1 := own_same (w' := w1) HOWN.out (fun g hg => hg1.block g (HOWN.out.lt _ hg).2 (fun e => by have := (HOWN.out.lt _ hg).1; have := HS0.out; cases e; omega))
          have hs1' := hs1
          have HS1 := Lib.hid hs1'
          have HRG1 := Lib.hid hrg1
          have HLT1 := Lib.hid hlt1
          have NE1 := Lib.hid (show some w.heap.size ≠ u6.ownBlock from fun e => by have := (HOWN.out.lt _ e.symm).1; have := HS0.out; have := HML0.out; omega)
          have NE2 := Lib.hid (show some rI ≠ u6.ownBlock from fun e => by have := (HOWN.out.lt _ e.symm).1; have := HS0.out; omega)
          clear hsb hsb2 hsb3 hlk hs hs1 hs1' hlt1 hg1
          go_upto_region 11 with fail
          have H6 := heap_alloc_new w1 (.cells #[.int .i64 ka, .int .i64 kp] 96)
          have HB6 := below1 w1 (.cells #[.int .i64 ka, .int .i64 kp] 96)
          have HS6 : w1.heap.size < (w1.alloc (.cells #[.int .i64 ka, .int .i64 kp] 96)).heap.size := blk_lt H6
          have HRG6 := hrg1.alloc (.cells #[.int .i64 ka, .int .i64 kp] 96)
          have HOWX := how1.alloc (.cells #[.int .i64 ka, .int .i64 kp] 96)
          generalize hW6 : w1.alloc (Obj.cells #[.int .i64 ka, .int .i64 kp] 96) = W6 at *
          clear hW6
          have HRGX := Lib.hid HRG6
          have HOW6 := Lib.hid HOWX
          have hbx6 := hbx1.trans (HB6.mono hbx1.size)
          have hsz6 := HB6.size
          have HH6 := Lib.hid H6
          clear H6 HRG6 HOWX hrg1 how1 hen
          by_cases hz : s = 0
          case pos =>
            have hz1 : (s != 0) = false := by simpa using hz
            have HNX := Lib.hid (HSKIP.out hz)
            clear hz
            go_wp2_with fail
            go_roundw
            case rel => exact ⟨_, cnt1, out, HRGX.out, hbx6, HOW6.out, HNX.out, by have := HLT1.out; omega, by have := HS1.out; omega⟩
            case measure => rw [HRGX.out.left_eq, HRG.out.left_eq]; exact HLT1.out
          case neg =>
            have hz1 : (s != 0) = true := by simpa using hz
            have HNX := Lib.hid (HSTP.out hz)
            clear hz
            have c0 := blk_cell HH6.out 0
            have c1 := blk_cell HH6.out 1
            go_wp2_with (at_builtin; go_loud (refine wpList_app _ rfl (.tmp 38) (.tmp 45) 51 rfl w0.heap.size 57 ia _ 3 24 lines_uty hia hzia hsia hbia rfl (by decide) u6 out.length (out.flatMap lineL) rfl (HOW6.out.alloc _) (fun _ => True) (some ⟨W6.heap.size, 0, none⟩) 1 1 [.int .i64 ka, .int .i64 s, .int .i64 kp] rfl (rd_new (heap_alloc_new _ _) rfl) (by simp [Value.oneCell']) (by simp only [maxLen]; omega) (by omega) (by have := HS1.out; simp; omega) ?_); intro v9 w9 hown9 hg9 _)
            go_roundw
            case rel => exact ⟨_, cnt1, out ++ [⟨ka, s, kp⟩], (HRGX.out.alloc _).kept hg9 NE1.out NE2.out, (hbx6.alloc hbx6.size _).grown hg9 (by have := hbx6.size; simp; omega) (fun q hq => by have := (HOWN.out.lt _ hq).1; have := HS0.out; have := HML0.out; omega), by simpa using hown9, HNX.out, by have := HLT1.out; simp; omega, by have := HS1.out; have := hg9.size; simp at this; omega⟩
            case measure => rw [((HRGX.out.alloc _).kept hg9 NE1.out NE2.out).left_eq, HRG.out.left_eq]; exact HLT1.out
end Go.Proofs.Ytnigokmjehemaaa

/- The example of the document for entries: awake. Written by gen_f7.py. -/
namespace Go.Proofs.Ytnigokmjehemaaa
open Go Go.RowKit
set_option linter.unusedVariables false
set_option linter.unusedSimpArgs false
set_option maxRecDepth 4000
attribute [local go_sem ↓] Go.wp_at_zero Go.wp_at_succ
/-- A list of lines that has just been laid. -/
theorem lines_lay (l : List XLine) (hb : ∀ x ∈ l, lineBd x) (hn : l.length ≤ 1000) (w W : World) (T : TypeId) (cs : Array Value) (hcs : cs = (l.flatMap lineL).toArray) (hW : W.heap[w.heap.size]? = some (.cells cs T (0, 0))) : ListC LineC 3 W (· < W.heap.size) [.slice (some ⟨w.heap.size, 0, none⟩) l.length l.length] l := by
  subst hcs
  have h2 := box_at hW
  refine ⟨_, _, rfl, Nat.le_refl _, by unfold maxLen; omega, fun _ => ⟨w.heap.size, 0, rfl, blk_lt hW, fun i x hx => ?_⟩⟩
  have hbx := hb x (List.mem_of_getElem? hx)
  exact ⟨lineL x, ⟨[_], [_], [_], rfl, ⟨rfl, hbx.1⟩, ⟨rfl, hbx.2.1⟩, ⟨rfl, hbx.2.2⟩⟩, flat_at lineL (fun _ => rfl) l 0 h2 i x hx⟩
def awA : List XLine := [⟨1000, 5, -1⟩, ⟨2000, -5, 1⟩, ⟨1000, -2, -1⟩, ⟨2000, 2, 1⟩]
def awB : List XLine := [⟨1000, 3, -1⟩, ⟨2000, -3, 1⟩]
theorem awA_bd : ∀ x ∈ awA, lineBd x := by
  show ∀ x ∈ awA, intBd x.account ∧ intBd x.amount ∧ intBd x.partner
  decide
theorem awB_bd : ∀ x ∈ awB, lineBd x := by
  show ∀ x ∈ awB, intBd x.account ∧ intBd x.amount ∧ intBd x.partner
  decide
theorem awA_sum (a p : Int) : sumAt awA a p = if a = 1000 ∧ p = -1 then 3 else if a = 2000 ∧ p = 1 then -3 else 0 := by
  unfold awA
  rw [sumAt_cons, sumAt_cons, sumAt_cons, sumAt_cons, show sumAt [] a p = 0 from rfl]
  unfold isAt
  simp only [Bool.and_eq_true, beq_iff_eq]
  by_cases h1 : a = 1000 ∧ p = -1
  · obtain ⟨rfl, rfl⟩ := h1
    decide
  · by_cases h2 : a = 2000 ∧ p = 1
    · obtain ⟨rfl, rfl⟩ := h2
      decide
    · have e1 : ¬ ((1000 : Int) = a ∧ (-1 : Int) = p) := fun h => h1 ⟨h.1.symm, h.2.symm⟩
      have e2 : ¬ ((2000 : Int) = a ∧ (1 : Int) = p) := fun h => h2 ⟨h.1.symm, h.2.symm⟩
      rw [if_neg h1, if_neg h2, if_neg e1, if_neg e2, if_neg e1, if_neg e2]
      rfl
theorem aw_norm : IsNorm awA awB := by
  refine ⟨by unfold awB ltL; simp, fun x => ?_⟩
  obtain ⟨a, m, p⟩ := x
  simp only [awA_sum]
  unfold awB
  simp only [List.mem_cons, List.not_mem_nil, or_false, XLine.mk.injEq]
  by_cases h1 : a = 1000 ∧ p = -1
  · rw [if_pos h1]
    obtain ⟨rfl, rfl⟩ := h1
    omega
  · rw [if_neg h1]
    by_cases h2 : a = 2000 ∧ p = 1
    · rw [if_pos h2]
      obtain ⟨rfl, rfl⟩ := h2
      omega
    · rw [if_neg h2]
      omega
theorem normal_n {l : List XLine} {A : Option Addr} {c n : Nat} {w : World} (hN : l.length = n) (hl : ListC LineC 3 w (· < w.heap.size) [.slice A l.length c] l) (hs : absL l ≤ 4611686018427387904) (hn : l.length ≤ 1000) : Calls Try.prog 31 #[.slice A n c] w (NormPost l w) := by
  subst hN
  exact normal_c l A c w hl hs hn
set_option maxHeartbeats 1000000 in
theorem awake11_c (w : World) : Calls Try.prog 28 #[] w (Quiet w (.bool true)) := by
  go_enter Try.func28, Try.ntmps28
  go_upto_region 2 with fail
  have H := heap_alloc_new w (.cells #[.int .i64 1000, .int .i64 5, .int .i64 (-1), .int .i64 2000, .int .i64 (-5), .int .i64 1, .int .i64 1000, .int .i64 (-2), .int .i64 (-1), .int .i64 2000, .int .i64 2, .int .i64 1] 57)
  have HB := below1 w (.cells #[.int .i64 1000, .int .i64 5, .int .i64 (-1), .int .i64 2000, .int .i64 (-5), .int .i64 1, .int .i64 1000, .int .i64 (-2), .int .i64 (-1), .int .i64 2000, .int .i64 2, .int .i64 1] 57)
  generalize w.alloc (.cells #[.int .i64 1000, .int .i64 5, .int .i64 (-1), .int .i64 2000, .int .i64 (-5), .int .i64 1, .int .i64 1000, .int .i64 (-2), .int .i64 (-1), .int .i64 2000, .int .i64 2, .int .i64 1] 57) = W at *
  have HL := Lib.hid (lines_lay awA awA_bd (by decide) w W _ _ rfl H)
  clear H
  go_wp2_with fail
  refine (normal_n (l := awA) rfl HL.out (by decide) (by decide)).mono ?_
  rintro e w2 ⟨A, out, c, rfl, hn, _, hlc, hb2⟩
  obtain rfl := hn.uniq aw_norm
  have HLC := Lib.hid hlc
  clear hn hlc
  have hb02 := HB.trans (hb2.mono HB.size)
  go_wp2_with fail
  have H2 := heap_alloc_new w2 (.cells #[.int .i64 1000, .int .i64 3, .int .i64 (-1), .int .i64 2000, .int .i64 (-3), .int .i64 1] 57)
  have HB2 := below1 w2 (.cells #[.int .i64 1000, .int .i64 3, .int .i64 (-1), .int .i64 2000, .int .i64 (-3), .int .i64 1] 57)
  generalize w2.alloc (.cells #[.int .i64 1000, .int .i64 3, .int .i64 (-1), .int .i64 2000, .int .i64 (-3), .int .i64 1] 57) = W3 at *
  have hL3 := lines_lay awB awB_bd (by decide) w2 W3 _ _ rfl H2
  have hA3 := lines_keep (HLC.out.mono (fun h => LineC.mono h (fun q hq => hq.2)) (fun q hq => hq.2)) HB2
  refine (show Calls Try.prog 30 #[.slice A 2 c, .slice (some ⟨w2.heap.size, 0, none⟩) 2 2] W3 _ from same_c awB awB A _ c 2 W3 hA3 hL3).mono ?_
  rintro e w4 ⟨rfl, hb4⟩
  rw [decide_eq_true (show awB = awB from rfl)]
  clear HLC
  go_wp2_with fail
  go_ret
  exact ⟨rfl, hb02.trans ((HB2.trans (hb4.mono HB2.size)).mono hb02.size)⟩
end Go.Proofs.Ytnigokmjehemaaa
