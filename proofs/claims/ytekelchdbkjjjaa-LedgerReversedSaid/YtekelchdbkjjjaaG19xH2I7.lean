/- The plain law of the reversal; append to an empty slice that was made. Written by gen_h2.py. -/
import Derived.Test.YtekelchdbkjjjaaG19xB0B3
import Derived.Test.YtekelchdbkjjjaaG19xB4B12
import Derived.Test.YtekelchdbkjjjaaG19xB13B14
import Derived.Test.YtekelchdbkjjjaaG19xB15S0
import Derived.Test.YtekelchdbkjjjaaG19xB21B27
import Derived.Test.YtekelchdbkjjjaaG19xB28S2
import Derived.Test.YtekelchdbkjjjaaG19xC4E3
import Derived.Test.YtekelchdbkjjjaaG19xE5H1
import Derived.Test.YtekelchdbkjjjaaProg
set_option linter.unusedVariables false
set_option linter.unusedSimpArgs false
set_option maxRecDepth 4000
attribute [local go_sem ↓] Go.wp_at_zero Go.wp_at_succ
namespace Go.Proofs.Ytekelchdbkjjjaa
open Go Go.RowKit
def revE (x : XEntry) (nid nd : Int) : XEntry := ⟨nid, x.entity, nd, 3, x.id, x.text, x.lines.map negL⟩
section
variable {P : Program} (w : World)
theorem wp_app_made {o : Oper} {a : Act} {K : Act → World → Prop} {Q' : Exit → Act → World → Prop} (s x : Operand) (t : TypeId)
 (ho : o.op = .call { callee := .builtin .append, args := #[s, x], argTypes := #[t, t] })
 (base : Nat) (e : TypeId) (i : TypeInfo) (z : Value) (size bytes : Nat) (ht : P.underlying t = some (.slice e)) (hi : P.info? e = some i) (hz : i.zero = some z)
 (hsize : i.size = size) (hby : i.bytes = bytes) (hzs : z.cells.size = size) (hsz : 0 < size)
 (g : Nat) (hs : a.eval s = .slice (some ⟨g, 0, none⟩) 0 0) (hg : w.heap[g]? = some (.cells #[] e (0, 0))) (hgb : base ≤ g)
 (Q : Nat → Prop) (A : Option Addr) (m c : Nat) (news : List Value) (hx : a.eval x = .slice A m c) (hr : Rd w Q A m size news) (h1 : ∀ u ∈ news, u.oneCell' = true)
 (hm : 0 < m) (h63 : m ≤ maxLen) (hbytes : m * bytes ≤ 140737488355328) (hbase : base ≤ w.heap.size)
 (h : ∀ v' w', w'.ownsRow base e size v' m news → Below w.heap.size w w' → K (a.put o.dst v') w') : o.wp P a w K Q' := by
 have hown : w.ownsRow base e size (.slice (some ⟨g, 0, none⟩) 0 0) 0 [] := ⟨by simp, .inr ⟨g, 0, #[], rfl, hgb, hg, Nat.le_refl _, by simp [maxLen], by simp, by simp⟩⟩
 obtain ⟨v', w', hrun, h2, _, _⟩ := run_app (P := P) w base t o.type e i z size bytes ht hi hz hsize hby hzs hsz _ 0 [] hown Q A m c news hr h1 (by omega) (by simpa using hbytes) hbase
 obtain ⟨ad, hA, hc⟩ := hr.2 hm
 subst hA
 have hgrow := run_append_grow (P := P) w t o.type e i z ht hi hz ⟨g, 0, none⟩ 0 0 [] (by simp) (by simp) ad m c news (by rw [hsize]; exact hr.1) (fun j u hu => (hc.2 j u hu).1) (by omega) (by unfold maxLen at h63; omega) (by rw [hby]; exact growslice_fits (by omega) (by simpa using hbytes))
 obtain ⟨ob, hw⟩ : ∃ ob, w' = w.drew.alloc ob := by
  have := hrun.symm.trans hgrow
  simp only [Result.ok.injEq] at this
  exact ⟨_, this.2⟩
 have hb : Below w.heap.size w w' := by rw [hw]; exact ((Below.refl _ _).drew).alloc (Nat.le_refl _) _
 unfold Oper.wp execOp
 simp only [ho, resolve, invoke, builtin, Sem.run_bind, Sem.run_pure, Result.andThen_ok, List.map_toArray, List.map_cons, List.map_nil, hs, hx, hrun]
 exact h v' w' (by simpa using h2) hb
end
def IsMade (W : World) (v : Value) (w : World) : Prop := ∃ g, v = .slice (some ⟨g, 0, none⟩) 0 0 ∧ W.heap.size ≤ g ∧ w.heap[g]? = some (.cells #[] 49 (0, 0))
theorem IsMade.keep (W : World) : ∀ v w w', Below w.heap.size w w' → IsMade W v w → IsMade W v w' := fun v w w' hb ⟨g, e, h1, h2⟩ => ⟨g, e, h1, (hb.block g (blk_lt h2)).trans h2⟩
theorem IsMade.made {W w : World} (h : W.heap.size ≤ w.heap.size) : IsMade W (.slice (some ⟨w.heap.size, 0, none⟩) 0 0) (w.alloc (.cells #[] 49)) := ⟨_, rfl, h, heap_alloc_new _ _⟩
def IsOwn (W : World) (n : Nat) (xs : List Value) (v : Value) (w : World) : Prop := w.ownsRow W.heap.size 49 3 v n xs
theorem IsOwn.keep (W : World) (n : Nat) (xs : List Value) : ∀ v w w', Below w.heap.size w w' → IsOwn W n xs v w → IsOwn W n xs v w' := fun v w w' hb h => own_below h hb
end Go.Proofs.Ytekelchdbkjjjaa
namespace Go.Proofs.Ytekelchdbkjjjaa
open Go Go.ChangeShapes Go.WideShapes Go.ChangeAt Go.RowKit
theorem triple_list {l : List Value} {a b d : Int} {c : Nat} (hc : c = 1) (hl : l.length = 3) (h0 : (l.drop (0 * c)).take c = [.int .i64 a]) (h1 : (l.drop (1 * c)).take c = [.int .i64 b]) (h2 : (l.drop (2 * c)).take c = [.int .i64 d]) : l = [.int .i64 a, .int .i64 b, .int .i64 d] := by
 subst hc
 match l, hl with
 | [u, v, t], _ =>
  simp at h0 h1 h2
  rw [h0, h1, h2]
set_option maxRecDepth 100000 in
theorem triple_open {H : Type} {enc : TypeId × Value → H} {W : World} {base : Nat} {spare : Nat → Bool} {held : Bool} {fuel : Nat} {cs : Array Value} {x : DataW H × List MemPlace}
 (h : DataW.trod enc Try.prog W base spare held fuel 31 cs.toList = some x) : ∃ a b d : Int, cs = #[.int .i64 a, .int .i64 b, .int .i64 d] ∧ intBd a ∧ intBd b ∧ intBd d := by
 obtain ⟨xs, n, _, hx, hcl, hxl, hel⟩ := DataW.trod_array Try.underlying31 h
 have e0 := (hel 0 (by decide)).trans (List.getElem?_eq_getElem (show 0 < xs.length by rw [hxl]; decide))
 have e1 := (hel 1 (by decide)).trans (List.getElem?_eq_getElem (show 1 < xs.length by rw [hxl]; decide))
 have e2 := (hel 2 (by decide)).trans (List.getElem?_eq_getElem (show 2 < xs.length by rw [hxl]; decide))
 have c1 : Try.prog.cellsOf 3 = 1 := by kernel_rfl
 obtain ⟨za, q1, _, w1⟩ := DataW.trod_int Try.underlying3 e0
 obtain ⟨zb, q2, _, w2⟩ := DataW.trod_int Try.underlying3 e1
 obtain ⟨zd, q3, _, w3⟩ := DataW.trod_int Try.underlying3 e2
 have hcl2 : cs.toList.length = 3 := hcl.trans (by kernel_rfl)
 have hp := triple_list c1 hcl2 q1 q2 q3
 clear c1 e0 e1 e2 hx hel hcl hcl2 q1 q2 q3
 simp only [Lit.wf, IntKind.min, IntKind.max, Bool.and_eq_true, decide_eq_true_eq] at w1 w2 w3
 simp [IntKind.signed, IntKind.bits] at w1 w2 w3
 exact ⟨za, zb, zd, Array.ext' hp, by unfold intBd; omega, by unfold intBd; omega, by unfold intBd; omega⟩
end Go.Proofs.Ytekelchdbkjjjaa
namespace Go.Proofs.Ytekelchdbkjjjaa
open Go Go.RowKit
def idxE (es : List XEntry) (id : Int) : Option Nat := es.findIdx? (fun x => x.id == id)
def revId : List XEntry → Int → Int
 | [], _ => 0
 | x :: es, id => if x.kind = 3 ∧ x.of_ = id then x.id else revId es id
def rvsE (es : List XEntry) (x : XEntry) : Int :=
 match idxE es x.of_ with
 | none => 8
 | some k => if (es.getD k {}).kind = 3 ∨ revId es x.of_ ≠ 0 then 7 else if (es.getD k {}).entity ≠ x.entity ∨ x.date < (es.getD k {}).date ∨ oppB x.lines (es.getD k {}).lines = false then 18 else 0
def postE (g : XGroup) (es : List XEntry) (x : XEntry) : Int :=
 if checkE g x ≠ 0 then checkE g x
 else if (idxE es x.id).isSome then 9
 else if x.kind = 3 ∧ rvsE es x ≠ 0 then rvsE es x
 else if 2000 ≤ es.length then 6 else 0
def okJ (g : XGroup) (es : List XEntry) : Prop := ∀ k (h : k < es.length), postE g (es.take k) es[k] = 0
theorem okJ_nil (g : XGroup) : okJ g [] := fun k h => absurd h (by simp)
theorem okJ_snoc {g : XGroup} {es : List XEntry} {x : XEntry} (h : okJ g es) (hx : postE g es x = 0) : okJ g (es ++ [x]) := fun k hk => by
 rcases Nat.lt_or_ge k es.length with h1 | h1
 · rw [List.getElem_append_left h1, List.take_append_of_le_length (by omega)]
   exact h k h1
 · have hk2 : k = es.length := by simp at hk; omega
   subst hk2
   simp [hx]
theorem okJ_take {g : XGroup} {es : List XEntry} (h : okJ g es) (n : Nat) : okJ g (es.take n) := fun k hk => by
 have h1 : k < n ∧ k < es.length := by simp at hk; omega
 have := h k h1.2
 rw [List.getElem_take, List.take_take, Nat.min_eq_left (by omega)]
 exact this
theorem okJ_snoc_inv {g : XGroup} {es : List XEntry} {x : XEntry} (h : okJ g (es ++ [x])) : okJ g es ∧ postE g es x = 0 := by
 refine ⟨?_, ?_⟩
 · have := okJ_take h es.length
   rwa [List.take_left] at this
 · have := h es.length (by simp)
   simpa using this
theorem postE_ok {g : XGroup} {es : List XEntry} {x : XEntry} (h : postE g es x = 0) : checkE g x = 0 ∧ idxE es x.id = none ∧ (x.kind = 3 → rvsE es x = 0) ∧ es.length < 2000 := by
 unfold postE at h
 split at h
 · exact absurd h ‹_›
 · rename_i h1
   split at h
   · exact absurd h (by decide)
   · rename_i h2
     split at h
     · rename_i h3
       exact absurd h h3.2
     · rename_i h3
       split at h
       · exact absurd h (by decide)
       · rename_i h4
         refine ⟨by omega, ?_, fun hk => ?_, by omega⟩
         · cases hi : idxE es x.id with
           | none => rfl
           | some k => rw [hi] at h2; exact absurd rfl h2
         · by_cases hr : rvsE es x = 0
           · exact hr
           · exact absurd ⟨hk, hr⟩ h3
theorem okJ_check {g : XGroup} {es : List XEntry} (h : okJ g es) {x : XEntry} (hx : x ∈ es) : checkE g x = 0 := by
 obtain ⟨k, hk, rfl⟩ := List.getElem_of_mem hx
 exact (postE_ok (h k hk)).1
theorem checkE_form {g : XGroup} {x : XEntry} (h : checkE g x = 0) : formB (groupB g) g.entities.length x = true := by
 cases hf : formB (groupB g) g.entities.length x with
 | true => rfl
 | false => rw [checkE_1 hf] at h; exact absurd h (by decide)
theorem checkE_id {g : XGroup} {x : XEntry} (h : checkE g x = 0) : 1 ≤ x.id := ((formB_iff _ _ _).1 (checkE_form h)).2.1
theorem checkE_mid {g : XGroup} {x : XEntry} (h : checkE g x = 0) : ∀ y ∈ x.lines, midL y := fun y hy => by
 have h1 := ((formB_iff _ _ _).1 (checkE_form h)).2.2.2.2.2.2.2.2.2.2.2 y hy
 have h2 := ((lineB_iff _ _ _).1 h1).2.1
 unfold monB at h2
 simp only [Bool.and_eq_true, decide_eq_true_eq] at h2
 unfold midL
 omega
theorem idxE_snoc (es : List XEntry) (x : XEntry) (id : Int) : idxE (es ++ [x]) id = match idxE es id with | some k => some k | none => if x.id = id then some es.length else none := by
 unfold idxE
 rw [List.findIdx?_append]
 cases h : es.findIdx? (fun x => x.id == id) with
 | some k => simp
 | none =>
  by_cases hx : x.id = id
  · simp [hx, List.findIdx?_cons]
  · simp [hx, List.findIdx?_cons]
theorem idxE_snoc_new {es : List XEntry} {x : XEntry} (h : idxE es x.id = none) (id : Int) : idxE (es ++ [x]) id = if id = x.id then some es.length else idxE es id := by
 rw [idxE_snoc]
 by_cases hx : id = x.id
 · subst hx; simp [h]
 · rw [if_neg hx, if_neg (fun e => hx e.symm)]
   cases idxE es id <;> rfl
theorem idxE_some {es : List XEntry} {id : Int} {k : Nat} (h : idxE es id = some k) : ∃ hk : k < es.length, es[k].id = id := by
 unfold idxE at h
 rw [List.findIdx?_eq_some_iff_getElem] at h
 obtain ⟨hk, h1, _⟩ := h
 exact ⟨hk, by simpa using h1⟩
theorem revId_snoc (es : List XEntry) (x : XEntry) (id : Int) (hp : ∀ y ∈ es, 1 ≤ y.id) : revId (es ++ [x]) id = if revId es id = 0 then (if x.kind = 3 ∧ x.of_ = id then x.id else 0) else revId es id := by
 induction es with
 | nil => rfl
 | cons y es ih =>
  have h1 := hp y (by simp)
  have ih := ih (fun z hz => hp z (by simp [hz]))
  have e1 : revId (y :: es ++ [x]) id = if y.kind = 3 ∧ y.of_ = id then y.id else revId (es ++ [x]) id := rfl
  have e2 : revId (y :: es) id = if y.kind = 3 ∧ y.of_ = id then y.id else revId es id := rfl
  by_cases hy : y.kind = 3 ∧ y.of_ = id
  · rw [if_pos hy] at e1 e2
    rw [e1, e2, if_neg (by omega)]
  · rw [if_neg hy] at e1 e2
    rw [e1, e2, ih]
def revO (es : List XEntry) (id : Int) : Option Int := if revId es id = 0 then none else some (revId es id)
theorem rvsE_k {es : List XEntry} {x : XEntry} (h : rvsE es x = 0) : revId es x.of_ = 0 := by
 unfold rvsE at h
 split at h
 · exact absurd h (by decide)
 · split at h
   · exact absurd h (by decide)
   · rename_i h1
     exact Decidable.byContradiction (fun h2 => h1 (.inr h2))
theorem revO_snoc {g : XGroup} {es : List XEntry} {x : XEntry} (hj : okJ g es) (h : postE g es x = 0) (id : Int) : revO (es ++ [x]) id = if x.kind = 3 ∧ id = x.of_ then some x.id else revO es id := by
 have hp : ∀ y ∈ es, 1 ≤ y.id := fun y hy => checkE_id (okJ_check hj hy)
 obtain ⟨h1, h2, h3, h4⟩ := postE_ok h
 have hid := checkE_id h1
 unfold revO
 rw [revId_snoc es x id hp]
 by_cases hk : x.kind = 3 ∧ id = x.of_
 · obtain ⟨hk1, rfl⟩ := hk
   have h0 := rvsE_k (h3 hk1)
   rw [if_pos h0, if_pos (show x.kind = 3 ∧ x.of_ = x.of_ from ⟨hk1, rfl⟩), if_pos (show x.kind = 3 ∧ x.of_ = x.of_ from ⟨hk1, rfl⟩), if_neg (by omega)]
 · rw [if_neg hk, if_neg (show ¬ (x.kind = 3 ∧ x.of_ = id) from fun hh => hk ⟨hh.1, hh.2.symm⟩)]
   by_cases h0 : revId es id = 0
   · simp [h0]
   · simp [h0]
theorem revO_kind {g : XGroup} {es : List XEntry} {x : XEntry} (hj : okJ g es) (h : postE g es x = 0) (hk : x.kind ≠ 3) (id : Int) : revO (es ++ [x]) id = revO es id := by
 rw [revO_snoc hj h, if_neg (fun hh => hk hh.1)]
end Go.Proofs.Ytekelchdbkjjjaa
namespace Go.Proofs.Ytekelchdbkjjjaa
open Go Go.RowKit Go.ChangeMaps
open Go.Maps (Keyed)
theorem iimap_uty : Try.prog.underlying 55 = some (.map 3 3) := by kernel_rfl
def MapO (w : World) (b n : Nat) (f : Int → Option Int) : Prop :=
 ∃ D : UD, w.ownsMap Try.prog 3 (plainElem Try.prog 3) b n D ∧ ∀ c : Int, Maps.has D (iKey c) = (f c).isSome ∧ D.atKey (iKey c) (.lit (.int .i64 0)) = .lit (.int .i64 ((f c).getD 0))
section
variable {w w' : World} {b n : Nat} {f : Int → Option Int}
theorem MapO.made (w : World) : MapO (w.alloc (.map #[] 0)) w.heap.size 0 (fun _ => none) := ⟨_, World.ownsMap_made w Try.prog 3 _, fun _ => ⟨rfl, rfl⟩⟩
theorem MapO.lt (h : MapO w b n f) : b < w.heap.size := by
 obtain ⟨D, h1, h2⟩ := h
 exact h1.lt
theorem MapO.same (h : MapO w b n f) (hb : w'.heap[b]? = w.heap[b]?) : MapO w' b n f := by
 obtain ⟨D, ⟨es, clock, h1, h3, h4, h5⟩, h2⟩ := h
 exact ⟨D, ⟨es, clock, hb.trans h1, h3, h4, h5⟩, h2⟩
theorem MapO.fr {Q : Nat → Prop} (h : MapO w b n f) (hf : Fr Q w w') (hb : Q b) : MapO w' b n f := h.same (hf.block b hb)
theorem MapO.below (h : MapO w b n f) (hb : Below w.heap.size w w') : MapO w' b n f := h.fr (Fr.ofBelow hb) h.lt
theorem MapO.mono (h : MapO w b n f) {n' : Nat} (hn : n ≤ n') : MapO w b n' f := by
 obtain ⟨D, h1, h2⟩ := h
 exact ⟨D, h1.mono hn, h2⟩
theorem MapO.eqv {g : Int → Option Int} (h : MapO w b n f) (hg : ∀ c, f c = g c) : MapO w b n g := by
 obtain ⟨D, h1, h2⟩ := h
 exact ⟨D, h1, fun c => by rw [← hg c]; exact h2 c⟩
theorem MapO.look (h : MapO w b n f) {c : Int} (hc : intBd c) : (Instr.lookup 55 (.map (some b)) (.int .i64 c) true).run Try.prog w = .ok (.tuple #[.int .i64 ((f c).getD 0), .bool (f c).isSome]) w := by
 obtain ⟨D, h1, h2⟩ := h
 obtain ⟨v, ps, hrun, hv⟩ := h1.look_ok int_keyed3 iimap_uty (int_zero w) (plainElem_int int_uty (by decide)) (iKey_of hc)
 obtain ⟨a, rfl, ha, _⟩ := plainElem_int_inv int_uty hv
 rw [(h2 c).2] at ha
 simp only [Prod.mk.injEq, DataW.lit.injEq, Lit.int.injEq, true_and] at ha
 rw [hrun, ← ha.1, (h2 c).1]
theorem MapO.store (h : MapO w b n f) (hn : n < maxLen) {c x : Int} (hc : intBd c) (hx : intBd x) :
 ∃ w', (Instr.mapUpdate 55 (.map (some b)) (.int .i64 c) (.int .i64 x)).run Try.prog w = .ok () w' ∧ MapO w' b (n + 1) (fun d => if d = c then some x else f d) ∧ Fr (fun q => q ≠ b) w w' := by
 obtain ⟨D, h1, h2⟩ := h
 obtain ⟨w2, hrun, h3, h4⟩ := h1.store int_keyed3 iimap_uty hn (iKey_of hc) (plainElem_int int_uty (WalkArith.wf_i64 hx))
 have hm : Maps.IsMap D := h1.isMap
 refine ⟨w2, hrun, ⟨_, h3, fun d => ?_⟩, ?_⟩
 · by_cases hd : d = c
   · subst hd
     rw [Maps.atKey_put_same hm (iKey_lit d), Maps.has_put_same hm (iKey_lit d)]; simp
   · have hne : iKey d ≠ iKey c := fun e => hd (iKey_inj _ _ e)
     rw [Maps.atKey_put_other hne, Maps.has_put_other hne]; simp only [if_neg hd]; exact h2 d
 · obtain ⟨es, clock, es', clock', hb, rfl⟩ := h4
   exact ⟨rfl, rfl, rfl, by simp [setBlock], fun i hi => heap_setBlock_other hb _ hi⟩
end
theorem wpList_store_o {ops : Array Oper} {rest : List Oper} {o : Oper} {a : Act} {w : World} {Q : Exit → Act → World → Prop} (hg : o.guard = none) (m x v : Operand) (hop : o.op = Op.mapUpdate 55 m x v)
 (b n : Nat) (f : Int → Option Int) (hm : a.eval m = .map (some b)) (h : MapO w b n f) (hn : n < maxLen) (c : Int) (hx : a.eval x = .int .i64 c) (hc : intBd c) (xv : Int) (hv : a.eval v = .int .i64 xv) (hxv : intBd xv)
 (hK : ∀ w', MapO w' b (n + 1) (fun d => if d = c then some xv else f d) → Fr (fun q => q ≠ b) w w' → wpList Try.prog ops Q rest (a.put o.dst undef) w') : wpList Try.prog ops Q (o :: rest) a w := by
 refine wpList_plain hg fun K' hK' => ?_
 obtain ⟨w', hrun, r1, r2⟩ := h.store hn hc hxv
 unfold Oper.wp
 simp [execOp, hop, hm, hx, hv, hrun, Result.andThen]
 exact hK' _ _ (hK w' r1 r2)
end Go.Proofs.Ytekelchdbkjjjaa
namespace Go.Proofs.Ytekelchdbkjjjaa
open Go Go.RowKit
theorem flat_len {size : Nat} {css : List (List Value)} (h : ∀ cs ∈ css, cs.length = size) : css.flatten.length = css.length * size := by
 induction css with
 | nil => simp
 | cons c css ih => rw [List.flatten_cons, List.length_append, ih (fun x hx => h x (by simp [hx])), h c (by simp), List.length_cons, Nat.succ_mul]; omega
theorem At.flat {w : World} {Q : Nat → Prop} {b size : Nat} : ∀ {css : List (List Value)} (h : ∀ cs ∈ css, cs.length = size) (o : Nat), At w Q ⟨b, o, none⟩ css.flatten → ∀ (i : Nat) cs, css[i]? = some cs → At w Q ⟨b, o + i * size, none⟩ cs
 | [], _, _, _, i, cs, hi => by simp at hi
 | c :: css, h, o, ha, 0, cs, hi => by
  rw [List.flatten_cons] at ha
  have := (ha.split).1
  simp at hi
  subst hi
  simpa using this
 | c :: css, h, o, ha, i + 1, cs, hi => by
  rw [List.flatten_cons] at ha
  have h2 := (ha.split).2
  rw [h c (by simp)] at h2
  simp only [List.getElem?_cons_succ] at hi
  have := At.flat (fun x hx => h x (by simp [hx])) (o + size) h2 i cs hi
  have e : o + (i + 1) * size = o + size + i * size := by rw [Nat.add_mul]; omega
  rw [e]
  exact this
theorem own_at {w : World} {base : Nat} {e : TypeId} {size g n c : Nat} {xs : List Value} (h : w.ownsRow base e size (.slice (some ⟨g, 0, none⟩) n c) n xs) {Q : Nat → Prop} (hQ : Q g) : At w Q ⟨g, 0, none⟩ xs :=
 ⟨hQ, fun j u hu => ⟨h.cells (g := g) rfl j u hu, own_unfrozen h (g := g) rfl j⟩⟩
theorem own_list {α : Type} {El : World → (Nat → Prop) → List Value → α → Prop} {size : Nat} {w : World} {Q : Nat → Prop} {base : Nat} {e : TypeId} {v : Value} {xs : List α} {css : List (List Value)} (hl : ∀ cs ∈ css, cs.length = size)
 (h : w.ownsRow base e size v xs.length css.flatten) (hE : ∀ (i : Nat) x, xs[i]? = some x → ∃ cs, css[i]? = some cs ∧ El w Q cs x) (hQ : ∀ g, v.ownBlock = some g → Q g) : ListC El size w Q [v] xs := by
 rcases h.2 with ⟨rfl, h0⟩ | ⟨g, cap, cur, rfl, _, _, h3, h4, _⟩
 · exact ⟨none, 0, by rw [h0], by omega, by simp [maxLen], fun hp => by omega⟩
 · refine ⟨_, cap, rfl, h3, h4, fun _ => ⟨g, 0, rfl, hQ g rfl, fun i x hx => ?_⟩⟩
   obtain ⟨cs, h1, h2⟩ := hE i x hx
   exact ⟨cs, h2, At.flat hl 0 (own_at h (hQ g rfl)) i cs h1⟩
structure JAt (w : World) (D O : Nat → Prop) (J : Nat) (g : XGroup) (es : List XEntry) (gl : List Value) (css : List (List Value)) (v : Value) (bi br : Nat) : Prop where
 blk : w.heap[J]? = some (.cells (gl ++ [v, .map (some bi), .map (some br)]).toArray 95 (0, 0))
 grp : GroupC w D gl g
 len : css.length = es.length
 row : w.ownsRow 0 36 7 v es.length css.flatten
 ent : ∀ (i : Nat) x, es[i]? = some x → ∃ cs, css[i]? = some cs ∧ EntryC w D cs x
 idx : MapO w bi es.length (fun id => Option.map (fun k : Nat => (k : Int)) (idxE es id))
 rev : MapO w br es.length (revO es)
 oj : O J
 oi : O bi
 orr : O br
 ov : ∀ q, v.ownBlock = some q → O q
 ne1 : J ≠ bi
 ne2 : J ≠ br
 ne3 : bi ≠ br
 ne4 : ∀ q, v.ownBlock = some q → q ≠ J ∧ q ≠ bi ∧ q ≠ br
 dis : ∀ q, D q → ¬ O q
 ltD : ∀ q, D q → q < w.heap.size
 ltO : ∀ q, O q → q < w.heap.size
 ok : okJ g es
def JC (w : World) (D O : Nat → Prop) (J : Nat) (g : XGroup) (es : List XEntry) : Prop := ∃ gl css v bi br, JAt w D O J g es gl css v bi br
section
variable {w w' : World} {D O : Nat → Prop} {J : Nat} {g : XGroup} {es : List XEntry} {gl : List Value} {css : List (List Value)} {v : Value} {bi br : Nat}
theorem JAt.fr (h : JAt w D O J g es gl css v bi br) (hf : Fr (fun q => D q ∨ O q) w w') : JAt w' D O J g es gl css v bi br where
 blk := (hf.block J (.inr h.oj)).trans h.blk
 grp := GroupC.fr h.grp (hf.mono fun q hq => .inl hq)
 len := h.len
 row := own_same h.row fun q hq => hf.block q (.inr (h.ov q hq))
 ent := fun i x hx => by
  obtain ⟨cs, h1, h2⟩ := h.ent i x hx
  exact ⟨cs, h1, EntryC.fr h2 (hf.mono fun q hq => .inl hq)⟩
 idx := h.idx.fr hf (.inr h.oi)
 rev := h.rev.fr hf (.inr h.orr)
 oj := h.oj
 oi := h.oi
 orr := h.orr
 ov := h.ov
 ne1 := h.ne1
 ne2 := h.ne2
 ne3 := h.ne3
 ne4 := h.ne4
 dis := h.dis
 ltD := fun q hq => Nat.lt_of_lt_of_le (h.ltD q hq) hf.size
 ltO := fun q hq => Nat.lt_of_lt_of_le (h.ltO q hq) hf.size
 ok := h.ok
theorem JC.fr (h : JC w D O J g es) (hf : Fr (fun q => D q ∨ O q) w w') : JC w' D O J g es := by
 obtain ⟨gl, css, v, bi, br, h⟩ := h
 exact ⟨gl, css, v, bi, br, h.fr hf⟩
theorem JC.below (h : JC w D O J g es) (hb : Below w.heap.size w w') : JC w' D O J g es := by
 obtain ⟨gl, css, v, bi, br, h⟩ := h
 exact ⟨gl, css, v, bi, br, h.fr ((Fr.ofBelow hb).mono fun q hq => hq.elim (h.ltD q) (h.ltO q))⟩
theorem JC.ok (h : JC w D O J g es) : okJ g es := by
 obtain ⟨gl, css, v, bi, br, h⟩ := h
 exact h.ok
theorem JC.lt (h : JC w D O J g es) : J < w.heap.size := by
 obtain ⟨gl, css, v, bi, br, h⟩ := h
 exact blk_lt h.blk
theorem JAt.glen (h : JAt w D O J g es gl css v bi br) : gl.length = 21 := h.grp.len
theorem JAt.clen (h : JAt w D O J g es gl css v bi br) : ∀ cs ∈ css, cs.length = 7 := fun cs hc => by
 obtain ⟨i, hi, rfl⟩ := List.getElem_of_mem hc
 have hi2 : i < es.length := by rw [← h.len]; exact hi
 obtain ⟨cs, h1, h2⟩ := h.ent i _ (List.getElem?_eq_getElem hi2)
 rw [List.getElem?_eq_getElem hi] at h1
 obtain rfl := Option.some.inj h1
 exact h2.len
theorem JAt.list (h : JAt w D O J g es gl css v bi br) : ListC EntryC 7 w (fun q => D q ∨ O q) [v] es :=
 own_list h.clen h.row (fun i x hx => by
  obtain ⟨cs, h1, h2⟩ := h.ent i x hx
  exact ⟨cs, h1, EntryC.mono h2 (fun q hq => .inl hq)⟩) (fun q hq => .inr (h.ov q hq))
end
def JPost (D O : Nat → Prop) (J : Nat) (g : XGroup) (es es' : List XEntry) (w w' : World) : Prop :=
 ∃ m, w.heap.size ≤ m ∧ m ≤ w'.heap.size ∧ JC w' (fun q => D q ∨ (w.heap.size ≤ q ∧ q < m)) (fun q => O q ∨ (m ≤ q ∧ q < w'.heap.size)) J g es' ∧ Fr (fun q => q < w.heap.size ∧ ¬ O q) w w'
theorem info_entA : (Try.prog.info? 65).map (fun i => (i.zero, i.size, i.bytes)) = some (some (.agg #[.string ⟨#[]⟩, .string ⟨#[]⟩, .slice none 0 0, .slice none 0 0, .bool false]), 5, 88) := by kernel_rfl
theorem info_entryA : (Try.prog.info? 36).map (fun i => (i.zero, i.size, i.bytes)) = some (some (.agg #[.int .i64 0, .int .i64 0, .int .i64 0, .int .i64 0, .int .i64 0, .string ⟨#[]⟩, .slice none 0 0]), 7, 80) := by kernel_rfl
theorem ents_uty : Try.prog.underlying 27 = some (.slice 65) := by kernel_rfl
theorem entries_uty : Try.prog.underlying 30 = some (.slice 36) := by kernel_rfl
def ClonePost (T : TypeId) (size n : Nat) (xs : List Value) (w : World) (e : Ending) (w' : World) : Prop := ∃ v, e = .returned v ∧ w'.ownsRow w.heap.size T size v n xs ∧ Below w.heap.size w w'
theorem own_empty {w : World} {base g size : Nat} {e : TypeId} (hb : base ≤ g) (hg : w.heap[g]? = some (.cells #[] e (0, 0))) : w.ownsRow base e size (.slice (some ⟨g, 0, none⟩) 0 0) 0 [] := ⟨by simp, .inr ⟨g, 0, #[], rfl, hb, hg, Nat.le_refl _, by simp [maxLen], by simp, by simp⟩⟩
set_option maxHeartbeats 1000000 in
theorem cloneL_c (A : Option Addr) (n c : Nat) (xs : List Value) (w : World) (hr : Rd w (· < w.heap.size) A n 3 xs) (h1 : ∀ u ∈ xs, u.oneCell' = true) (hn : n ≤ 100000) : Calls Try.prog 57 #[.slice A n c] w (ClonePost 49 3 n xs w) := by
 obtain ⟨ia, hia, hzia, hsia, hbia⟩ := info_parts info_lineA
 have heq : ∀ (w : World) (a : Option Addr) (n c n' c' : Nat), (binOp .eql 34 (.slice a n c) (.slice none n' c')).run Try.prog w = .ok (.bool a.isNone) w := fun w a n c n' c' => Lib.run_eql_slice_nil w _ _ a n c n' c' lines_uty
 cases A with
 | none =>
  have h0 : n = 0 := by
   rcases Nat.eq_zero_or_pos n with h | h
   · exact h
   · obtain ⟨a, e, _⟩ := hr.2 h
     cases e
  subst h0
  have hx : xs = [] := List.eq_nil_of_length_eq_zero (by simpa using hr.1)
  subst hx
  clear hr h1 hn
  go_enter Try.func57, Try.ntmps57
  go_wp2_with fail
  go_ret
  exact ⟨_, rfl, World.ownsRow_nil _ _ _ _, Below.refl _ _⟩
 | some ad =>
  have HR := Lib.hid hr
  have H1 := Lib.hid h1
  clear hr h1
  go_enter Try.func57, Try.ntmps57
  go_upto_region 3 with fail
  go_wp2_with (at_builtin; go_loud (refine wpList_app _ rfl (.tmp 5) (.tmp 6) 34 rfl w.heap.size 49 ia _ 3 24 lines_uty hia hzia hsia hbia rfl (by decide) (.slice (some ⟨w.heap.size, 0, none⟩) 0 0) 0 [] rfl (own_empty (Nat.le_refl _) (heap_alloc_new _ _)) (· < w.heap.size) (some ad) n c xs rfl (HR.out.fr (Fr.ofBelow (below1 w _))) H1.out (by simp only [maxLen]; omega) (by omega) (by simp) ?_); intro v9 w9 hown9 hg9 hat9)
  go_ret
  exact ⟨_, rfl, by simpa using hown9, below_grown (below1 w _) hg9 (fun q hq => by simp [Value.ownBlock] at hq; omega) (Nat.le_refl _)⟩
set_option maxHeartbeats 1000000 in
theorem cloneA_c (A : Option Addr) (n c : Nat) (xs : List Value) (w : World) (hr : Rd w (· < w.heap.size) A n 4 xs) (h1 : ∀ u ∈ xs, u.oneCell' = true) (hn : n ≤ 100000) : Calls Try.prog 49 #[.slice A n c] w (ClonePost 72 4 n xs w) := by
 obtain ⟨ia, hia, hzia, hsia, hbia⟩ := info_parts info_accA
 have heq : ∀ (w : World) (a : Option Addr) (n c n' c' : Nat), (binOp .eql 24 (.slice a n c) (.slice none n' c')).run Try.prog w = .ok (.bool a.isNone) w := fun w a n c n' c' => Lib.run_eql_slice_nil w _ _ a n c n' c' accs_uty
 cases A with
 | none =>
  have h0 : n = 0 := by
   rcases Nat.eq_zero_or_pos n with h | h
   · exact h
   · obtain ⟨a, e, _⟩ := hr.2 h
     cases e
  subst h0
  have hx : xs = [] := List.eq_nil_of_length_eq_zero (by simpa using hr.1)
  subst hx
  clear hr h1 hn
  go_enter Try.func49, Try.ntmps49
  go_wp2_with fail
  go_ret
  exact ⟨_, rfl, World.ownsRow_nil _ _ _ _, Below.refl _ _⟩
 | some ad =>
  have HR := Lib.hid hr
  have H1 := Lib.hid h1
  clear hr h1
  go_enter Try.func49, Try.ntmps49
  go_upto_region 3 with fail
  go_wp2_with (at_builtin; go_loud (refine wpList_app _ rfl (.tmp 5) (.tmp 6) 24 rfl w.heap.size 72 ia _ 4 32 accs_uty hia hzia hsia hbia rfl (by decide) (.slice (some ⟨w.heap.size, 0, none⟩) 0 0) 0 [] rfl (own_empty (Nat.le_refl _) (heap_alloc_new _ _)) (· < w.heap.size) (some ad) n c xs rfl (HR.out.fr (Fr.ofBelow (below1 w _))) H1.out (by simp only [maxLen]; omega) (by omega) (by simp) ?_); intro v9 w9 hown9 hg9 hat9)
  go_ret
  exact ⟨_, rfl, by simpa using hown9, below_grown (below1 w _) hg9 (fun q hq => by simp [Value.ownBlock] at hq; omega) (Nat.le_refl _)⟩
set_option maxHeartbeats 1000000 in
theorem cloneK_c (A : Option Addr) (n c : Nat) (xs : List Value) (w : World) (hr : Rd w (· < w.heap.size) A n 3 xs) (h1 : ∀ u ∈ xs, u.oneCell' = true) (hn : n ≤ 100000) : Calls Try.prog 51 #[.slice A n c] w (ClonePost 81 3 n xs w) := by
 obtain ⟨ia, hia, hzia, hsia, hbia⟩ := info_parts info_linkA
 have heq : ∀ (w : World) (a : Option Addr) (n c n' c' : Nat), (binOp .eql 63 (.slice a n c) (.slice none n' c')).run Try.prog w = .ok (.bool a.isNone) w := fun w a n c n' c' => Lib.run_eql_slice_nil w _ _ a n c n' c' links_uty
 cases A with
 | none =>
  have h0 : n = 0 := by
   rcases Nat.eq_zero_or_pos n with h | h
   · exact h
   · obtain ⟨a, e, _⟩ := hr.2 h
     cases e
  subst h0
  have hx : xs = [] := List.eq_nil_of_length_eq_zero (by simpa using hr.1)
  subst hx
  clear hr h1 hn
  go_enter Try.func51, Try.ntmps51
  go_wp2_with fail
  go_ret
  exact ⟨_, rfl, World.ownsRow_nil _ _ _ _, Below.refl _ _⟩
 | some ad =>
  have HR := Lib.hid hr
  have H1 := Lib.hid h1
  clear hr h1
  go_enter Try.func51, Try.ntmps51
  go_upto_region 3 with fail
  go_wp2_with (at_builtin; go_loud (refine wpList_app _ rfl (.tmp 5) (.tmp 6) 63 rfl w.heap.size 81 ia _ 3 24 links_uty hia hzia hsia hbia rfl (by decide) (.slice (some ⟨w.heap.size, 0, none⟩) 0 0) 0 [] rfl (own_empty (Nat.le_refl _) (heap_alloc_new _ _)) (· < w.heap.size) (some ad) n c xs rfl (HR.out.fr (Fr.ofBelow (below1 w _))) H1.out (by simp only [maxLen]; omega) (by omega) (by simp) ?_); intro v9 w9 hown9 hg9 hat9)
  go_ret
  exact ⟨_, rfl, by simpa using hown9, below_grown (below1 w _) hg9 (fun q hq => by simp [Value.ownBlock] at hq; omega) (Nat.le_refl _)⟩
set_option maxHeartbeats 1000000 in
theorem cloneE_c (A : Option Addr) (n c : Nat) (xs : List Value) (w : World) (hr : Rd w (· < w.heap.size) A n 5 xs) (h1 : ∀ u ∈ xs, u.oneCell' = true) (hn : n ≤ 100000) : Calls Try.prog 50 #[.slice A n c] w (ClonePost 65 5 n xs w) := by
 obtain ⟨ia, hia, hzia, hsia, hbia⟩ := info_parts info_entA
 have heq : ∀ (w : World) (a : Option Addr) (n c n' c' : Nat), (binOp .eql 27 (.slice a n c) (.slice none n' c')).run Try.prog w = .ok (.bool a.isNone) w := fun w a n c n' c' => Lib.run_eql_slice_nil w _ _ a n c n' c' ents_uty
 cases A with
 | none =>
  have h0 : n = 0 := by
   rcases Nat.eq_zero_or_pos n with h | h
   · exact h
   · obtain ⟨a, e, _⟩ := hr.2 h
     cases e
  subst h0
  have hx : xs = [] := List.eq_nil_of_length_eq_zero (by simpa using hr.1)
  subst hx
  clear hr h1 hn
  go_enter Try.func50, Try.ntmps50
  go_wp2_with fail
  go_ret
  exact ⟨_, rfl, World.ownsRow_nil _ _ _ _, Below.refl _ _⟩
 | some ad =>
  have HR := Lib.hid hr
  have H1 := Lib.hid h1
  clear hr h1
  go_enter Try.func50, Try.ntmps50
  go_upto_region 3 with fail
  go_wp2_with (at_builtin; go_loud (refine wpList_app _ rfl (.tmp 5) (.tmp 6) 27 rfl w.heap.size 65 ia _ 5 88 ents_uty hia hzia hsia hbia rfl (by decide) (.slice (some ⟨w.heap.size, 0, none⟩) 0 0) 0 [] rfl (own_empty (Nat.le_refl _) (heap_alloc_new _ _)) (· < w.heap.size) (some ad) n c xs rfl (HR.out.fr (Fr.ofBelow (below1 w _))) H1.out (by simp only [maxLen]; omega) (by omega) (by simp) ?_); intro v9 w9 hown9 hg9 hat9)
  go_ret
  exact ⟨_, rfl, by simpa using hown9, below_grown (below1 w _) hg9 (fun q hq => by simp [Value.ownBlock] at hq; omega) (Nat.le_refl _)⟩
theorem flatten_get {size : Nat} (hs : 0 < size) : ∀ {css : List (List Value)} (h : ∀ cs ∈ css, cs.length = size) (j : Nat), j < css.length * size → ∃ cs, css[j / size]? = some cs ∧ css.flatten[j]? = cs[j % size]?
 | [], _, j, hj => by simp at hj
 | c :: css, h, j, hj => by
  have hc : c.length = size := h c (by simp)
  rcases Nat.lt_or_ge j size with h1 | h1
  · refine ⟨c, by rw [Nat.div_eq_of_lt h1]; rfl, ?_⟩
    rw [List.flatten_cons, List.getElem?_append_left (by omega), Nat.mod_eq_of_lt h1]
  · obtain ⟨q, rfl⟩ : ∃ q, j = q + size := ⟨j - size, by omega⟩
    have hq : q < css.length * size := by
     rw [List.length_cons, Nat.succ_mul] at hj
     omega
    obtain ⟨cs, h2, h3⟩ := flatten_get hs (fun x hx => h x (by simp [hx])) q hq
    refine ⟨cs, ?_, ?_⟩
    · rw [Nat.add_div_right _ hs, List.getElem?_cons_succ]; exact h2
    · rw [List.flatten_cons, List.getElem?_append_right (by omega), hc, Nat.add_sub_cancel, Nat.add_mod_right]; exact h3
theorem rd_css {α : Type} {El : World → (Nat → Prop) → List Value → α → Prop} {size : Nat} {w : World} {Q : Nat → Prop} {A : Option Addr} {n c : Nat} {l : List α} (hlen : ∀ cs x, El w Q cs x → cs.length = size) (hs : 0 < size) (h : ListC El size w Q [.slice A n c] l) :
 ∃ css : List (List Value), css.length = l.length ∧ (∀ cs ∈ css, cs.length = size) ∧ (∀ (i : Nat) x, l[i]? = some x → ∃ cs, css[i]? = some cs ∧ El w Q cs x) ∧ Rd w Q A n size css.flatten := by
 obtain ⟨rfl, _, _⟩ := h.cap
 rcases Nat.eq_zero_or_pos l.length with h0 | h0
 · have hl : l = [] := List.eq_nil_of_length_eq_zero h0
   subst hl
   exact ⟨[], rfl, by simp, by simp, by simp, fun hn => absurd hn (by simp)⟩
 obtain ⟨b, o, rfl, hb, hx⟩ := h.base h0
 have hch : ∀ i (hi : i < l.length), ∃ es, El w Q es l[i] ∧ At w Q ⟨b, o + i * size, none⟩ es := hx
 obtain ⟨f, hf⟩ : ∃ f : Nat → List Value, ∀ i (hi : i < l.length), El w Q (f i) l[i] ∧ At w Q ⟨b, o + i * size, none⟩ (f i) :=
  ⟨fun i => if hi : i < l.length then (hch i hi).choose else [], fun i hi => by simp only [dif_pos hi]; exact (hch i hi).choose_spec⟩
 have hcl : ((List.range l.length).map f).length = l.length := by simp
 have hall : ∀ cs ∈ (List.range l.length).map f, cs.length = size := fun cs hc => by
  obtain ⟨i, hi, rfl⟩ := List.mem_map.1 hc
  exact hlen _ _ (hf i (List.mem_range.1 hi)).1
 refine ⟨(List.range l.length).map f, hcl, hall, fun i x hi => ?_, ?_, fun _ => ⟨_, rfl, hb, fun j u hj => ?_⟩⟩
 · obtain ⟨h1, h2⟩ := List.getElem?_eq_some_iff.1 hi
   exact ⟨f i, by simp [h1], h2 ▸ (hf i h1).1⟩
 · rw [flat_len hall, hcl]
 · have hjl : j < ((List.range l.length).map f).length * size := by
    have := (List.getElem?_eq_some_iff.1 hj).1
    rwa [flat_len hall] at this
   obtain ⟨cs, h1, h2⟩ := flatten_get hs hall j hjl
   rw [h2] at hj
   have hi : j / size < l.length := by
    have := (List.getElem?_eq_some_iff.1 h1).1
    rwa [hcl] at this
   have hcs : cs = f (j / size) := by simpa [hi, eq_comm] using h1
   subst hcs
   have h3 := (hf _ hi).2.2 _ u hj
   rw [Addr.add_lit] at h3 ⊢
   have e3 : o + j / size * size + j % size = o + j := by rw [Nat.add_assoc, Nat.mul_comm, Nat.div_add_mod]
   rw [e3] at h3
   exact h3
theorem css_flat {α : Type} {El : World → (Nat → Prop) → List Value → α → Prop} {f : α → List Value} {w : World} {Q : Nat → Prop} (he : ∀ cs x, El w Q cs x → cs = f x) {css : List (List Value)} {l : List α} (hl : css.length = l.length) (h : ∀ (i : Nat) x, l[i]? = some x → ∃ cs, css[i]? = some cs ∧ El w Q cs x) : css.flatten = l.flatMap f := by
 have : css = l.map f := by
  refine List.ext_getElem? (fun i => ?_)
  rw [List.getElem?_map]
  cases hi : l[i]? with
  | none => simp at hi; simp [hl, hi]
  | some x =>
   obtain ⟨cs, h1, h2⟩ := h i x hi
   rw [h1, he cs x h2]; rfl
 rw [this, List.flatMap_def]
theorem rd_list {α : Type} {El : World → (Nat → Prop) → List Value → α → Prop} {f : α → List Value} {size : Nat} {w : World} {Q : Nat → Prop} {A : Option Addr} {n c : Nat} {l : List α} (he : ∀ cs x, El w Q cs x → cs = f x) (hf : ∀ x, (f x).length = size) (hs : 0 < size) (h : ListC El size w Q [.slice A n c] l) : Rd w Q A n size (l.flatMap f) := by
 obtain ⟨css, h1, _, h3, h4⟩ := rd_css (fun cs x hx => by rw [he cs x hx]; exact hf x) hs h
 rwa [css_flat he h1 h3] at h4
theorem ListC.elt {α : Type} {El : World → (Nat → Prop) → List Value → α → Prop} {size : Nat} {w : World} {Q : Nat → Prop} {A : Option Addr} {n c : Nat} {l : List α} (h : ListC El size w Q [.slice A n c] l) {x : α} (hx : x ∈ l) : ∃ cs, El w Q cs x := by
 obtain ⟨i, hi, rfl⟩ := List.getElem_of_mem hx
 obtain ⟨b, o, es, _, _, h1, _⟩ := ListC.get h i hi
 exact ⟨es, h1⟩
theorem acc_one (l : List XAccount) : ∀ u ∈ l.flatMap accL, u.oneCell' = true := fun u hu => by
 obtain ⟨x, _, hx⟩ := List.mem_flatMap.1 hu
 simp [accL] at hx
 rcases hx with rfl | rfl | rfl | rfl <;> rfl
theorem link_one (l : List XLink) : ∀ u ∈ l.flatMap linkL, u.oneCell' = true := fun u hu => by
 obtain ⟨x, _, hx⟩ := List.mem_flatMap.1 hu
 simp [linkL] at hx
 rcases hx with rfl | rfl | rfl <;> rfl
theorem css_one {α : Type} {El : World → (Nat → Prop) → List Value → α → Prop} {w : World} {Q : Nat → Prop} (he : ∀ cs x, El w Q cs x → ∀ u ∈ cs, u.oneCell' = true) {css : List (List Value)} {l : List α} (hl : css.length = l.length) (h : ∀ (i : Nat) x, l[i]? = some x → ∃ cs, css[i]? = some cs ∧ El w Q cs x) : ∀ u ∈ css.flatten, u.oneCell' = true := fun u hu => by
 obtain ⟨cs, hc, hu⟩ := List.mem_flatten.1 hu
 obtain ⟨i, hi, rfl⟩ := List.getElem_of_mem hc
 have hi2 : i < l.length := by omega
 obtain ⟨cs, h1, h2⟩ := h i _ (List.getElem?_eq_getElem hi2)
 rw [List.getElem?_eq_getElem hi] at h1
 obtain rfl := Option.some.inj h1
 exact he _ _ h2 u hu
theorem ent_one {w : World} {Q : Nat → Prop} {cs : List Value} {x : XEntity} (h : EntityC w Q cs x) : ∀ u ∈ cs, u.oneCell' = true := fun u hu => by
 obtain ⟨_, _, _, _, rfl, _⟩ := EntityC.lit h
 simp [entL] at hu
 rcases hu with rfl | rfl | rfl | rfl | rfl <;> rfl
theorem entry_one {w : World} {Q : Nat → Prop} {cs : List Value} {x : XEntry} (h : EntryC w Q cs x) : ∀ u ∈ cs, u.oneCell' = true := fun u hu => by
 obtain ⟨_, _, rfl, _⟩ := EntryC.lit h
 simp at hu
 rcases hu with rfl | rfl | rfl | rfl | rfl | rfl | rfl <;> rfl
theorem EntryC.mk {w : World} {Q : Nat → Prop} {x : XEntry} {A : Option Addr} {c : Nat} (hb : intBd x.id ∧ intBd x.entity ∧ intBd x.date ∧ intBd x.kind ∧ intBd x.of_) (hl : ListC LineC 3 w Q [.slice A x.lines.length c] x.lines) : EntryC w Q [.int .i64 x.id, .int .i64 x.entity, .int .i64 x.date, .int .i64 x.kind, .int .i64 x.of_, .string x.text, .slice A x.lines.length c] x :=
 ⟨[_], [_], [_], [_], [_], [_], [_], rfl, ⟨rfl, hb.1⟩, ⟨rfl, hb.2.1⟩, ⟨rfl, hb.2.2.1⟩, ⟨rfl, hb.2.2.2.1⟩, ⟨rfl, hb.2.2.2.2⟩, rfl, hl⟩
theorem EntityC.mk {w : World} {Q : Nat → Prop} {x : XEntity} {A B : Option Addr} {c d : Nat} (hc : ListC AccountC 4 w Q [.slice A x.chart.length c] x.chart) (hl : ListC LinkC 3 w Q [.slice B x.links.length d] x.links) : EntityC w Q (entL x.name x.currency A x.chart.length c B x.links.length d x.joint) x :=
 ⟨[_], [_], [_], [_], [_], rfl, rfl, rfl, hc, hl, rfl⟩
theorem GroupC.parts {w : World} {Q : Nat → Prop} {cs : List Value} {g : XGroup} (h : GroupC w Q cs g) : ∃ c0 c1 Ac cc c3 Ae ce, cs = c0 ++ c1 ++ [.slice Ac g.chart.length cc] ++ c3 ++ [.slice Ae g.entities.length ce] ∧ c0.length = 1 ∧ c1.length = 3 ∧ c3.length = 15 ∧
 ListC AccountC 4 w Q [.slice Ac g.chart.length cc] g.chart ∧ ListC EntityC 5 w Q [.slice Ae g.entities.length ce] g.entities ∧
 ∀ (w' : World) (Q' : Nat → Prop) A c B d, Below w.heap.size w w' → (∀ q, Q q → q < w.heap.size) → ListC AccountC 4 w' Q' [.slice A g.chart.length c] g.chart → ListC EntityC 5 w' Q' [.slice B g.entities.length d] g.entities → GroupC w' Q' (c0 ++ c1 ++ [.slice A g.chart.length c] ++ c3 ++ [.slice B g.entities.length d]) g := by
 obtain ⟨c0, c1, c2, c3, c4, rfl, h0, h1, h2, h3, h4⟩ := h
 have l0 := StrC.len h0
 have l1 := CalC.len h1
 have l3 := RolesC.len h3
 obtain ⟨Ac, cc, rfl, _⟩ := h2.form
 obtain ⟨Ae, ce, rfl, _⟩ := h4.form
 refine ⟨c0, c1, Ac, cc, c3, Ae, ce, rfl, l0, l1, l3, h2, h4, fun w' Q' A c B d hb hq k2 k4 => ⟨c0, c1, _, c3, _, rfl, h0, ?_, k2, ?_, k4⟩⟩
 · obtain ⟨a, b, c, e, k⟩ := h1
   exact ⟨a, b, c, e, k⟩
 · obtain ⟨d0, d1, d2, d3, d4, d5, d6, d7, d8, d9, d10, d11, d12, d13, d14, e, k⟩ := h3
   exact ⟨d0, d1, d2, d3, d4, d5, d6, d7, d8, d9, d10, d11, d12, d13, d14, e, k⟩
def CopyPost (x : XEntry) (w : World) (e : Ending) (w' : World) : Prop := ∃ A c, e = .returned (.agg #[.int .i64 x.id, .int .i64 x.entity, .int .i64 x.date, .int .i64 x.kind, .int .i64 x.of_, .string x.text, .slice A x.lines.length c]) ∧
 ListC LineC 3 w' (fun q => w.heap.size ≤ q ∧ q < w'.heap.size) [.slice A x.lines.length c] x.lines ∧ Below w.heap.size w w'
theorem own_listL {l : List XLine} {w : World} {Q : Nat → Prop} {base : Nat} {v : Value} (h : w.ownsRow base 49 3 v l.length (l.flatMap lineL)) (hb : ∀ x ∈ l, lineBd x) (hQ : ∀ g, v.ownBlock = some g → Q g) : ListC LineC 3 w Q [v] l :=
 own_list (css := l.map lineL) (fun cs hc => by obtain ⟨x, _, rfl⟩ := List.mem_map.1 hc; rfl) (by rw [← List.flatMap_def]; exact h)
  (fun i x hi => ⟨lineL x, by rw [List.getElem?_map, hi]; rfl, [_], [_], [_], rfl, ⟨rfl, (hb x (List.mem_of_getElem? hi)).1⟩, ⟨rfl, (hb x (List.mem_of_getElem? hi)).2.1⟩, ⟨rfl, (hb x (List.mem_of_getElem? hi)).2.2⟩⟩) hQ
theorem lines_bd {l : List XLine} {w : World} {Q : Nat → Prop} {A : Option Addr} {n c : Nat} (h : ListC LineC 3 w Q [.slice A n c] l) : ∀ x ∈ l, lineBd x := fun x hx => by
 obtain ⟨cs, h1⟩ := h.elt hx
 exact (LineC.lit h1).2
set_option maxHeartbeats 2000000 in
theorem copied_c (xi xe xd xk xo : Int) (xt : ByteArray) (ls : List XLine) (Al : Option Addr) (cl : Nat) (w : World) (hl : ListC LineC 3 w (· < w.heap.size) [.slice Al ls.length cl] ls) (hn : ls.length ≤ 100000) : Calls Try.prog 42 #[.agg #[.int .i64 xi, .int .i64 xe, .int .i64 xd, .int .i64 xk, .int .i64 xo, .string xt, .slice Al ls.length cl]] w (CopyPost ⟨xi, xe, xd, xk, xo, xt, ls⟩ w) := by
 have HL := Lib.hid hl
 obtain ⟨nl, hnl⟩ : ∃ n, ls.length = n := ⟨_, rfl⟩
 have HN := Lib.hid hnl
 rw [hnl] at hn ⊢
 have HRD := Lib.hid (show Rd w (· < w.heap.size) Al nl 3 (ls.flatMap lineL) by rw [← hnl]; exact rd_list (fun cs x h => (LineC.lit h).1) (fun _ => rfl) (by omega) hl)
 obtain ⟨fl, hfl⟩ : ∃ f, ls.flatMap lineL = f := ⟨_, rfl⟩
 have HFL := Lib.hid hfl
 rw [hfl] at HRD
 have HONE := Lib.hid (show ∀ u ∈ fl, u.oneCell' = true from hfl ▸ flat_one ls)
 clear hl hnl hfl
 go_enter Try.func42, Try.ntmps42
 go_upto_region 1 with fail
 have H := heap_alloc_new w (.cells #[.int .i64 xi, .int .i64 xe, .int .i64 xd, .int .i64 xk, .int .i64 xo, .string xt, .slice Al nl cl] 36)
 have HB := below1 w (.cells #[.int .i64 xi, .int .i64 xe, .int .i64 xd, .int .i64 xk, .int .i64 xo, .string xt, .slice Al nl cl] 36)
 have HS := blk_lt H
 generalize hW : w.alloc (Obj.cells #[.int .i64 xi, .int .i64 xe, .int .i64 xd, .int .i64 xk, .int .i64 xo, .string xt, .slice Al nl cl] 36) = W at *
 have H2 := heap_alloc_new W (.cells #[.int .i64 0, .int .i64 0, .int .i64 0, .int .i64 0, .int .i64 0, .string ⟨#[]⟩, .slice none 0 0] 36)
 have HB2 := below1 W (.cells #[.int .i64 0, .int .i64 0, .int .i64 0, .int .i64 0, .int .i64 0, .string ⟨#[]⟩, .slice none 0 0] 36)
 have HS2 := blk_lt H2
 replace H := alloc_keep H (Obj.cells #[.int .i64 0, .int .i64 0, .int .i64 0, .int .i64 0, .int .i64 0, .string ⟨#[]⟩, .slice none 0 0] 36)
 generalize hW2 : W.alloc (Obj.cells #[.int .i64 0, .int .i64 0, .int .i64 0, .int .i64 0, .int .i64 0, .string ⟨#[]⟩, .slice none 0 0] 36) = W2 at *
 clear hW2
 have eW : W.heap.size = w.heap.size + 1 := by rw [← hW]; simp
 rw [eW] at H2
 clear hW
 have hb2 := HB.trans (HB2.mono HB.size)
 have hs2 := HB2.size
 have LT1 := blk_lt H2
 have LT0 : w.heap.size < W2.heap.size := by omega
 have HH := Lib.hid H
 have HZ := Lib.hid H2
 have EW := Lib.hid eW
 clear H H2 eW
 have c6 := blk_cell HH.out 6
 go_wp2_with fail
 refine (cloneL_c Al nl cl fl W2 ((HRD.out.fr (Fr.ofBelow hb2)).mono (fun q (hq : q < w.heap.size) => Nat.lt_of_lt_of_le hq hb2.size)) HONE.out hn).mono ?_
 rintro e w3 ⟨v, rfl, hown, hb3⟩
 have hb02 := hb2
 have LT02 := LT0
 have LT12 := LT1
 have HH2 := HH
 have HZ2 := HZ
 have hb03 := hb02.trans (hb3.mono hb02.size)
 have hs3 := hb3.size
 have LT03 := Nat.lt_of_lt_of_le LT02 hs3
 have LT13 := Nat.lt_of_lt_of_le LT12 hs3
 have HH3 := Lib.hid ((hb3.block _ LT02).trans HH2.out)
 have HZ3 := Lib.hid ((hb3.block _ LT12).trans HZ2.out)
 obtain ⟨A9, n9, c9, rfl⟩ := own_shape hown
 have HOWN := Lib.hid hown
 have s6 := blk_cell HH3.out 6
 have s7 := blk_frozen HH3.out 6
 clear hown c6
 go_upto_region 2 with fail
 have H4 := heap_setCell_same HH3.out 6 (.slice A9 n9 c9)
 have HB4 := (Below.refl W2.heap.size w3)
 have hb4 : Below w.heap.size w (w3.setCell ⟨w.heap.size, 6, none⟩ (.slice A9 n9 c9)) := hb03.setCell (p := ⟨w.heap.size, 6, none⟩) (Nat.le_refl _) _
 have HZ4 := (Below.heap_setCell w3 ⟨w.heap.size, 6, none⟩ (.slice A9 n9 c9) (w.heap.size + 1) (by show w.heap.size + 1 ≠ w.heap.size; omega)).trans HZ3.out
 have HO4 := own_same (w' := w3.setCell ⟨w.heap.size, 6, none⟩ (.slice A9 n9 c9)) HOWN.out (fun g hg => Below.heap_setCell w3 ⟨w.heap.size, 6, none⟩ _ g (by show g ≠ w.heap.size; have := (HOWN.out.lt _ hg).1; omega))
 generalize w3.setCell ⟨w.heap.size, 6, none⟩ (.slice A9 n9 c9) = W4 at *
 have HK4 := Lib.hid (show W4.heap[w.heap.size]? = some (.cells #[.int .i64 xi, .int .i64 xe, .int .i64 xd, .int .i64 xk, .int .i64 xo, .string xt, .slice A9 n9 c9] 36 (0, 0)) from H4)
 have HZR := Lib.hid HZ4
 have HOW4 := Lib.hid HO4
 have HBW := Lib.hid hb4
 clear H4 HZ4 HO4 hb4 s6 s7 HB4
 go_wp2_with (first | (show wpList _ _ _ (Oper.mk (some 7) _ _ _ _ _ :: _) _ _; refine wpList_load_row_g rfl 36 (.tmp 1) rfl w.heap.size rfl _ _ _ _ HK4.out Try.underlying36 rfl info_entry ?_) | (show wpList _ _ _ (Oper.mk none (Op.store _ (Operand.tmp 2) _) _ _ _ _ :: _) _ _; refine wpList_store_row rfl 36 (.tmp 2) (.tmp 7) rfl (w.heap.size + 1) #[.int .i64 xi, .int .i64 xe, .int .i64 xd, .int .i64 xk, .int .i64 xo, .string xt, .slice A9 n9 c9] rfl rfl 36 #[.int .i64 0, .int .i64 0, .int .i64 0, .int .i64 0, .int .i64 0, .string ⟨#[]⟩, .slice none 0 0] HZR.out (by rw [info_entry]; rfl) rfl (by simp [Value.oneCell']) ?_))
 refine bodyPost_ret (v := _) (results_cell rfl _ _ (w.heap.size + 1) 36 _ (0, 0) _ rfl (heap_setRow HZR.out _) Try.underlying36 rfl info_entry) rfl ?_
 have hfr2 := fr_setRow W4 (w.heap.size + 1) #[.int .i64 xi, .int .i64 xe, .int .i64 xd, .int .i64 xk, .int .i64 xo, .string xt, .slice A9 n9 c9]
 have hss : (W4.setRow (w.heap.size + 1) #[.int .i64 xi, .int .i64 xe, .int .i64 xd, .int .i64 xk, .int .i64 xo, .string xt, .slice A9 n9 c9]).heap.size = W4.heap.size := by simp
 have hk3 := own_same (w' := W4.setRow (w.heap.size + 1) #[.int .i64 xi, .int .i64 xe, .int .i64 xd, .int .i64 xk, .int .i64 xo, .string xt, .slice A9 n9 c9]) HOW4.out (fun g hg => hfr2.block g (by show g ≠ w.heap.size + 1; have := (HOWN.out.lt _ hg).1; omega))
 rw [← HFL.out, ← HN.out] at hk3
 have hL := own_listL (Q := fun q => w.heap.size ≤ q ∧ q < (W4.setRow (w.heap.size + 1) #[.int .i64 xi, .int .i64 xe, .int .i64 xd, .int .i64 xk, .int .i64 xo, .string xt, .slice A9 n9 c9]).heap.size) hk3 (lines_bd HL.out) (fun g hg => ⟨by have := (HOWN.out.lt _ hg).1; omega, (hk3.lt _ hg).2⟩)
 obtain rfl : n9 = ls.length := by
  obtain ⟨_, _, e, _⟩ := hL
  simp only [List.cons.injEq, and_true, Value.slice.injEq] at e
  exact e.2.1
 exact ⟨A9, c9, rfl, hL, below_setRow HBW.out (by omega) _⟩
def GCopyPost (g : XGroup) (w : World) (e : Ending) (w' : World) : Prop := ∃ gl : List Value, e = .returned (.agg gl.toArray) ∧ GroupC w' (fun q => w.heap.size ≤ q ∧ q < w'.heap.size) gl g ∧ Below w.heap.size w w'
def IsRow (W : World) (T : TypeId) (size n : Nat) (xs : List Value) (v : Value) (w : World) : Prop := w.ownsRow W.heap.size T size v n xs
theorem IsRow.keep (W : World) (T : TypeId) (size n : Nat) (xs : List Value) : ∀ v w w', Below w.heap.size w w' → IsRow W T size n xs v w → IsRow W T size n xs v w' := fun v w w' hb h => own_below h hb
def QE (B gE n i k q : Nat) : Prop := (i < k ∧ gE < q ∧ q < n) ∨ (¬ i < k ∧ q < B)
def EntsAt (es : List XEntity) (B gE k : Nat) (w : World) : Prop := ∀ i (h : i < es.length), ∃ cs, EntityC w (QE B gE w.heap.size i k) cs es[i] ∧ At w (fun q => q = gE) ⟨gE, i * 5, none⟩ cs
theorem EntsAt.fr {es : List XEntity} {B gE k : Nat} {w w' : World} (h : EntsAt es B gE k w) (hg : B ≤ gE) (hgw : gE < w.heap.size) (hb : Below w.heap.size w w') : EntsAt es B gE k w' := fun i hi => by
 obtain ⟨cs, h1, h2⟩ := h i hi
 refine ⟨cs, ?_, h2.fr ((Fr.ofBelow hb).mono (fun q hq => by subst hq; exact hgw))⟩
 have hsz := hb.size
 exact EntityC.mono (EntityC.fr h1 ((Fr.ofBelow hb).mono (fun q hq => by unfold QE at hq; omega))) (fun q hq => by unfold QE at hq ⊢; omega)
theorem set_other (w : World) (b p o : Nat) (u : Value) (h : p ≠ o) : (w.setCell ⟨b, p, none⟩ u).cell? ⟨b, o, none⟩ = w.cell? ⟨b, o, none⟩ := World.cell?_setCell_other _ _ _ _ (fun e => h (by injection e))
theorem set_same {w : World} {b o : Nat} {u v : Value} (h : w.cell? ⟨b, o, none⟩ = some v) : (w.setCell ⟨b, o, none⟩ u).cell? ⟨b, o, none⟩ = some u := World.cell?_setCell_same _ _ _ h
theorem at_set {w : World} {b o p : Nat} {cs : List Value} {u : Value} (h : At w (fun q => q = b) ⟨b, o, none⟩ cs) (hp : p < o ∨ o + cs.length ≤ p) : At (w.setCell ⟨b, p, none⟩ u) (fun q => q = b) ⟨b, o, none⟩ cs :=
 ⟨rfl, fun j x hj => by
  have hl := (List.getElem?_eq_some_iff.1 hj).1
  obtain ⟨h1, h2⟩ := h.2 j x hj
  rw [Addr.add_lit] at h1 h2 ⊢
  refine ⟨?_, ?_⟩
  · rw [← h1]; exact World.cell?_setCell_other _ _ _ _ (fun e => by injection e; omega)
  · rw [← h2]; exact World.frozen?_setCell _ _ _ _⟩
theorem own_listF {α : Type} {El : World → (Nat → Prop) → List Value → α → Prop} {f : α → List Value} {size : Nat} {l : List α} {w : World} {Q : Nat → Prop} {base : Nat} {T : TypeId} {v : Value} (hf : ∀ x, (f x).length = size) (h : w.ownsRow base T size v l.length (l.flatMap f)) (hE : ∀ x ∈ l, El w Q (f x) x) (hQ : ∀ g, v.ownBlock = some g → Q g) : ListC El size w Q [v] l :=
 own_list (css := l.map f) (fun cs hc => by obtain ⟨x, _, rfl⟩ := List.mem_map.1 hc; exact hf x) (by rw [← List.flatMap_def]; exact h)
  (fun i x hi => ⟨f x, by rw [List.getElem?_map, hi]; rfl, hE x (List.mem_of_getElem? hi)⟩) hQ
theorem accs_bd {l : List XAccount} {w : World} {Q : Nat → Prop} {A : Option Addr} {n c : Nat} (h : ListC AccountC 4 w Q [.slice A n c] l) : ∀ x ∈ l, accB x := fun x hx => by
 obtain ⟨cs, h1⟩ := h.elt hx
 exact (AccountC.lit h1).2
theorem links_bd {l : List XLink} {w : World} {Q : Nat → Prop} {A : Option Addr} {n c : Nat} (h : ListC LinkC 3 w Q [.slice A n c] l) : ∀ x ∈ l, linkBd x := fun x hx => by
 obtain ⟨cs, h1⟩ := h.elt hx
 exact (LinkC.lit h1).2
theorem own_val {w : World} {base : Nat} {T : TypeId} {size n m c : Nat} {A : Option Addr} {xs : List Value} (h : w.ownsRow base T size (.slice A m c) n xs) : m = n := by
 rcases h.2 with ⟨e, h0⟩ | ⟨g, cap, cur, e, _⟩
 · injection e with _ e2 _; omega
 · injection e with _ e2 _
theorem EntsAt.step {es : List XEntity} {B gE k : Nat} {w : World} (h : EntsAt es B gE k w) (hg : B ≤ gE) (hgw : gE < w.heap.size) (hk : k < es.length) {A1 A2 : Option Addr} {c1 c2 : Nat}
 (h1 : w.ownsRow (gE + 1) 72 4 (.slice A1 es[k].chart.length c1) es[k].chart.length (es[k].chart.flatMap accL)) (b1 : ∀ x ∈ es[k].chart, accB x)
 (h2 : w.ownsRow (gE + 1) 81 3 (.slice A2 es[k].links.length c2) es[k].links.length (es[k].links.flatMap linkL)) (b2 : ∀ x ∈ es[k].links, linkBd x) :
 EntsAt es B gE (k + 1) ((w.setCell ⟨gE, k * 5 + 2, none⟩ (.slice A1 es[k].chart.length c1)).setCell ⟨gE, k * 5 + 3, none⟩ (.slice A2 es[k].links.length c2)) := by
 have hf : Fr (fun q => q ≠ gE) w ((w.setCell ⟨gE, k * 5 + 2, none⟩ (.slice A1 es[k].chart.length c1)).setCell ⟨gE, k * 5 + 3, none⟩ (.slice A2 es[k].links.length c2)) :=
  ((Fr.refl _ _).setCell (p := ⟨gE, k * 5 + 2, none⟩) (by simp) _).setCell (p := ⟨gE, k * 5 + 3, none⟩) (by simp) _
 intro i hi
 obtain ⟨cs, k1, k2⟩ := h i hi
 have hl := k1.len
 rcases Nat.lt_trichotomy i k with hik | rfl | hik
 · refine ⟨cs, ?_, at_set (at_set k2 (.inr (by rw [hl]; omega))) (.inr (by rw [hl]; omega))⟩
   have hsz := hf.size
   exact EntityC.mono (EntityC.fr k1 (hf.mono fun q hq => by unfold QE at hq; omega)) (fun q hq => by unfold QE at hq ⊢; omega)
 · obtain ⟨Ec, c3, Al, cl, rfl, _, _⟩ := EntityC.lit k1
   have hsz := hf.size
   have q1 : ∀ g, Value.ownBlock (.slice A1 es[i].chart.length c1) = some g → g ≠ gE ∧ g < w.heap.size ∧ gE < g := fun g hg' => by have := h1.lt _ hg'; omega
   have q2 : ∀ g, Value.ownBlock (.slice A2 es[i].links.length c2) = some g → g ≠ gE ∧ g < w.heap.size ∧ gE < g := fun g hg' => by have := h2.lt _ hg'; omega
   refine ⟨entL es[i].name es[i].currency A1 es[i].chart.length c1 A2 es[i].links.length c2 es[i].joint, ?_, rfl, fun j u hj => ?_⟩
   · refine EntityC.mk ?_ ?_
     · exact own_listF (fun _ => rfl) (own_same h1 (fun g hg' => hf.block g (q1 g hg').1)) (fun x hx => accC_of (b1 x hx)) (fun g hg' => by have := q1 g hg'; unfold QE; omega)
     · exact own_listF (fun _ => rfl) (own_same h2 (fun g hg' => hf.block g (q2 g hg').1)) (fun x hx => linkC_of (b2 x hx)) (fun g hg' => by have := q2 g hg'; unfold QE; omega)
   · rw [Addr.add_lit]
     have hj5 : j < 5 := (List.getElem?_eq_some_iff.1 hj).1
     have hold := fun (j : Nat) (u : Value) (hj : (entL es[i].name es[i].currency Ec es[i].chart.length c3 Al es[i].links.length cl es[i].joint)[j]? = some u) => k2.2 j u hj
     simp only [Addr.add_lit] at hold
     have hfz : ∀ p : Addr, ((w.setCell ⟨gE, i * 5 + 2, none⟩ (.slice A1 es[i].chart.length c1)).setCell ⟨gE, i * 5 + 3, none⟩ (.slice A2 es[i].links.length c2)).frozen? p = w.frozen? p := fun p => by simp
     have hj' : j = 0 ∨ j = 1 ∨ j = 2 ∨ j = 3 ∨ j = 4 := by omega
     rcases hj' with rfl | rfl | rfl | rfl | rfl
     · obtain rfl := Option.some.inj hj
       obtain ⟨h3, h4⟩ := hold 0 _ rfl
       exact ⟨(set_other _ _ _ _ _ (by omega)).trans ((set_other _ _ _ _ _ (by omega)).trans h3), by rw [hfz]; exact h4⟩
     · obtain rfl := Option.some.inj hj
       obtain ⟨h3, h4⟩ := hold 1 _ rfl
       exact ⟨(set_other _ _ _ _ _ (by omega)).trans ((set_other _ _ _ _ _ (by omega)).trans h3), by rw [hfz]; exact h4⟩
     · obtain rfl := Option.some.inj hj
       obtain ⟨h3, h4⟩ := hold 2 _ rfl
       exact ⟨(set_other _ _ _ _ _ (by omega)).trans (set_same h3), by rw [hfz]; exact h4⟩
     · obtain rfl := Option.some.inj hj
       obtain ⟨h3, h4⟩ := hold 3 _ rfl
       exact ⟨set_same ((set_other _ _ _ _ _ (by omega)).trans h3), by rw [hfz]; exact h4⟩
     · obtain rfl := Option.some.inj hj
       obtain ⟨h3, h4⟩ := hold 4 _ rfl
       exact ⟨(set_other _ _ _ _ _ (by omega)).trans ((set_other _ _ _ _ _ (by omega)).trans h3), by rw [hfz]; exact h4⟩
 · refine ⟨cs, ?_, at_set (at_set k2 (.inl (by omega))) (.inl (by omega))⟩
   exact EntityC.mono (EntityC.fr k1 (hf.mono fun q hq => by unfold QE at hq; omega)) (fun q hq => by unfold QE at hq ⊢; omega)
end Go.Proofs.Ytekelchdbkjjjaa
