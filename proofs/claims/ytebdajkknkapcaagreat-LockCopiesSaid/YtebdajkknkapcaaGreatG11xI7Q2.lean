/- A copy of a group; a new journal. Written by gen_i7.py. -/
import Derived.Test.YtebdajkknkapcaaGreatG11xB0B2
import Derived.Test.YtebdajkknkapcaaGreatG11xB3B8
import Derived.Test.YtebdajkknkapcaaGreatG11xB9B13
import Derived.Test.YtebdajkknkapcaaGreatG11xB14
import Derived.Test.YtebdajkknkapcaaGreatG11xB16
import Derived.Test.YtebdajkknkapcaaGreatG11xB17B24
import Derived.Test.YtebdajkknkapcaaGreatG11xB33C3
import Derived.Test.YtebdajkknkapcaaGreatG11xC4I5
import Derived.Test.YtebdajkknkapcaaGreatProg
set_option linter.unusedVariables false
set_option linter.unusedSimpArgs false
set_option maxRecDepth 4000
attribute [local go_sem ↓] Go.wp_at_zero Go.wp_at_succ
namespace Go.Proofs.YtebdajkknkapcaaGreat
open Go Go.RowKit
def IsRow (W : World) (T : TypeId) (size n : Nat) (xs : List Value) (v : Value) (w : World) : Prop := w.ownsRow W.heap.size T size v n xs
theorem IsRow.keep (W : World) (T : TypeId) (size n : Nat) (xs : List Value) : ∀ v w w', Below w.heap.size w w' → IsRow W T size n xs v w → IsRow W T size n xs v w' := fun v w w' hb h => own_below h hb
def QE (B gE n i k q : Nat) : Prop := (i < k ∧ gE < q ∧ q < n) ∨ (¬ i < k ∧ q < B)
def EntsAt (es : List XEntity) (B gE k : Nat) (w : World) : Prop := ∀ i (h : i < es.length), ∃ cs, EntityC w (QE B gE w.heap.size i k) cs es[i] ∧ At w (fun q => q = gE) ⟨gE, i * 5, none⟩ cs
theorem EntsAt.fr {es : List XEntity} {B gE k : Nat} {w w' : World} (h : EntsAt es B gE k w) (hg : B ≤ gE) (hgw : gE < w.heap.size) (hb : Below w.heap.size w w') : EntsAt es B gE k w' := fun i hi => by
 obtain ⟨cs, h1, h2⟩ := h i hi
 refine ⟨cs, ?_, h2.fr ((Fr.ofBelow hb).mono (fun q hq => by subst hq; exact hgw))⟩
 have hsz := hb.size
 exact EntityC.mono (EntityC.fr h1 ((Fr.ofBelow hb).mono (fun q hq => by unfold QE at hq; omega))) (fun q hq => by unfold QE at hq ⊢; omega)
theorem set_other (w : World) (b p o : Nat) (u : Value) (h : p ≠ o) : (w.setCell ⟨b, p, none⟩ u).cell? ⟨b, o, none⟩ = w.cell? ⟨b, o, none⟩ := World.cell?_setCell_other _ _ _ _ (fun e => h (by injection e))
theorem set_same {w : World} {b o : Nat} {u v : Value} (h : w.cell? ⟨b, o, none⟩ = some v) : (w.setCell ⟨b, o, none⟩ u).cell? ⟨b, o, none⟩ = some u := World.cell?_setCell_same _ _ _ h
theorem at_set {w : World} {b o p : Nat} {cs : List Value} {u : Value} (h : At w (fun q => q = b) ⟨b, o, none⟩ cs) (hp : p < o ∨ o + cs.length ≤ p) : At (w.setCell ⟨b, p, none⟩ u) (fun q => q = b) ⟨b, o, none⟩ cs :=
 ⟨rfl, fun j x hj => by
  have hl := (List.getElem?_eq_some_iff.1 hj).1
  obtain ⟨h1, h2⟩ := h.2 j x hj
  rw [Addr.add_lit] at h1 h2 ⊢
  refine ⟨?_, ?_⟩
  · rw [← h1]; exact World.cell?_setCell_other _ _ _ _ (fun e => by injection e; omega)
  · rw [← h2]; exact World.frozen?_setCell _ _ _ _⟩
theorem own_listF {α : Type} {El : World → (Nat → Prop) → List Value → α → Prop} {f : α → List Value} {size : Nat} {l : List α} {w : World} {Q : Nat → Prop} {base : Nat} {T : TypeId} {v : Value} (hf : ∀ x, (f x).length = size) (h : w.ownsRow base T size v l.length (l.flatMap f)) (hE : ∀ x ∈ l, El w Q (f x) x) (hQ : ∀ g, v.ownBlock = some g → Q g) : ListC El size w Q [v] l :=
 own_list (css := l.map f) (fun cs hc => by obtain ⟨x, _, rfl⟩ := List.mem_map.1 hc; exact hf x) (by rw [← List.flatMap_def]; exact h)
  (fun i x hi => ⟨f x, by rw [List.getElem?_map, hi]; rfl, hE x (List.mem_of_getElem? hi)⟩) hQ
theorem own_val {w : World} {base : Nat} {T : TypeId} {size n m c : Nat} {A : Option Addr} {xs : List Value} (h : w.ownsRow base T size (.slice A m c) n xs) : m = n := by
 rcases h.2 with ⟨e, h0⟩ | ⟨g, cap, cur, e, _⟩
 · injection e with _ e2 _; omega
 · injection e with _ e2 _
theorem EntsAt.step {es : List XEntity} {B gE k : Nat} {w : World} (h : EntsAt es B gE k w) (hg : B ≤ gE) (hgw : gE < w.heap.size) (hk : k < es.length) {A1 A2 : Option Addr} {c1 c2 : Nat}
 (h1 : w.ownsRow (gE + 1) 130 4 (.slice A1 es[k].chart.length c1) es[k].chart.length (es[k].chart.flatMap accL)) (b1 : ∀ x ∈ es[k].chart, accB x)
 (h2 : w.ownsRow (gE + 1) 187 3 (.slice A2 es[k].links.length c2) es[k].links.length (es[k].links.flatMap linkL)) (b2 : ∀ x ∈ es[k].links, linkBd x) :
 EntsAt es B gE (k + 1) ((w.setCell ⟨gE, k * 5 + 2, none⟩ (.slice A1 es[k].chart.length c1)).setCell ⟨gE, k * 5 + 3, none⟩ (.slice A2 es[k].links.length c2)) := by
 have hf : Fr (fun q => q ≠ gE) w ((w.setCell ⟨gE, k * 5 + 2, none⟩ (.slice A1 es[k].chart.length c1)).setCell ⟨gE, k * 5 + 3, none⟩ (.slice A2 es[k].links.length c2)) :=
  ((Fr.refl _ _).setCell (p := ⟨gE, k * 5 + 2, none⟩) (by simp) _).setCell (p := ⟨gE, k * 5 + 3, none⟩) (by simp) _
 intro i hi
 obtain ⟨cs, k1, k2⟩ := h i hi
 have hl := k1.len
 rcases Nat.lt_trichotomy i k with hik | rfl | hik
 · refine ⟨cs, ?_, at_set (at_set k2 (.inr (by rw [hl]; omega))) (.inr (by rw [hl]; omega))⟩
   have hsz := hf.size
   exact EntityC.mono (EntityC.fr k1 (hf.mono fun q hq => by unfold QE at hq; omega)) (fun q hq => by unfold QE at hq ⊢; omega)
 · obtain ⟨Ec, c3, Al, cl, rfl, _, _⟩ := EntityC.lit k1
   have hsz := hf.size
   have q1 : ∀ g, Value.ownBlock (.slice A1 es[i].chart.length c1) = some g → g ≠ gE ∧ g < w.heap.size ∧ gE < g := fun g hg' => by have := h1.lt _ hg'; omega
   have q2 : ∀ g, Value.ownBlock (.slice A2 es[i].links.length c2) = some g → g ≠ gE ∧ g < w.heap.size ∧ gE < g := fun g hg' => by have := h2.lt _ hg'; omega
   refine ⟨entL es[i].name es[i].currency A1 es[i].chart.length c1 A2 es[i].links.length c2 es[i].joint, ?_, rfl, fun j u hj => ?_⟩
   · refine EntityC.mk ?_ ?_
     · exact own_listF (fun _ => rfl) (own_same h1 (fun g hg' => hf.block g (q1 g hg').1)) (fun x hx => accC_of (b1 x hx)) (fun g hg' => by have := q1 g hg'; unfold QE; omega)
     · exact own_listF (fun _ => rfl) (own_same h2 (fun g hg' => hf.block g (q2 g hg').1)) (fun x hx => linkC_of (b2 x hx)) (fun g hg' => by have := q2 g hg'; unfold QE; omega)
   · rw [Addr.add_lit]
     have hj5 : j < 5 := (List.getElem?_eq_some_iff.1 hj).1
     have hold := fun (j : Nat) (u : Value) (hj : (entL es[i].name es[i].currency Ec es[i].chart.length c3 Al es[i].links.length cl es[i].joint)[j]? = some u) => k2.2 j u hj
     simp only [Addr.add_lit] at hold
     have hfz : ∀ p : Addr, ((w.setCell ⟨gE, i * 5 + 2, none⟩ (.slice A1 es[i].chart.length c1)).setCell ⟨gE, i * 5 + 3, none⟩ (.slice A2 es[i].links.length c2)).frozen? p = w.frozen? p := fun p => by simp
     have hj' : j = 0 ∨ j = 1 ∨ j = 2 ∨ j = 3 ∨ j = 4 := by omega
     rcases hj' with rfl | rfl | rfl | rfl | rfl
     · obtain rfl := Option.some.inj hj
       obtain ⟨h3, h4⟩ := hold 0 _ rfl
       exact ⟨(set_other _ _ _ _ _ (by omega)).trans ((set_other _ _ _ _ _ (by omega)).trans h3), by rw [hfz]; exact h4⟩
     · obtain rfl := Option.some.inj hj
       obtain ⟨h3, h4⟩ := hold 1 _ rfl
       exact ⟨(set_other _ _ _ _ _ (by omega)).trans ((set_other _ _ _ _ _ (by omega)).trans h3), by rw [hfz]; exact h4⟩
     · obtain rfl := Option.some.inj hj
       obtain ⟨h3, h4⟩ := hold 2 _ rfl
       exact ⟨(set_other _ _ _ _ _ (by omega)).trans (set_same h3), by rw [hfz]; exact h4⟩
     · obtain rfl := Option.some.inj hj
       obtain ⟨h3, h4⟩ := hold 3 _ rfl
       exact ⟨set_same ((set_other _ _ _ _ _ (by omega)).trans h3), by rw [hfz]; exact h4⟩
     · obtain rfl := Option.some.inj hj
       obtain ⟨h3, h4⟩ := hold 4 _ rfl
       exact ⟨(set_other _ _ _ _ _ (by omega)).trans ((set_other _ _ _ _ _ (by omega)).trans h3), by rw [hfz]; exact h4⟩
 · refine ⟨cs, ?_, at_set (at_set k2 (.inl (by omega))) (.inl (by omega))⟩
   exact EntityC.mono (EntityC.fr k1 (hf.mono fun q hq => by unfold QE at hq; omega)) (fun q hq => by unfold QE at hq ⊢; omega)
theorem Ks.cells {W w w' : World} {ks : List Kind} {b : Nat} (hb : b < W.heap.size) (hw : ∀ q, q ≠ b → w'.heap[q]? = w.heap[q]?) (hks : ∀ k ∈ ks, (∃ u, k = .val u) ∨ ∃ T size n xs, k = .own (IsRow W T size n xs) (IsRow.keep W T size n xs)) (i : Nat) (v : Value) (h : Ks W ks i v w) : Ks W ks i v w' := fun k hk => by
 have h1 := h k hk
 rcases hks k (List.mem_of_getElem? hk) with ⟨u, rfl⟩ | ⟨T, size, n, xs, rfl⟩
 · exact h1
 · exact own_same (show w.ownsRow W.heap.size T size v n xs from h1) (fun g hg => hw g (by have := ((show w.ownsRow W.heap.size T size v n xs from h1).lt _ hg).1; omega))
theorem JC.made {w w1 W : World} {g : XGroup} {gl : List Value} {cs : Array Value} (hg : GroupC w1 (fun q => w.heap.size ≤ q ∧ q < w1.heap.size) gl g) (hb : Below w.heap.size w w1)
 (hcs : cs = (gl ++ [Value.slice none 0 0, Value.map (some w1.heap.size), Value.map (some (w1.heap.size + 1))]).toArray)
 (hW : W = ((w1.alloc (.map #[] 0)).alloc (.map #[] 0)).alloc (.cells cs 111)) :
 ∃ (D O : Nat → Prop), JC W D O (w1.heap.size + 2) g [] ∧ Below w.heap.size w W ∧ ∀ q, D q ∨ O q → w.heap.size ≤ q := by
 subst hcs
 have e1 : (w1.alloc (.map #[] 0)).heap.size = w1.heap.size + 1 := by simp
 have e2 : ((w1.alloc (.map #[] 0)).alloc (.map #[] 0)).heap.size = w1.heap.size + 2 := by simp
 have b1 := below1 w1 (.map #[] 0)
 have b2 := below1 (w1.alloc (.map #[] 0)) (.map #[] 0)
 have b3 := below1 ((w1.alloc (.map #[] 0)).alloc (.map #[] 0)) (.cells (gl ++ [Value.slice none 0 0, Value.map (some w1.heap.size), Value.map (some (w1.heap.size + 1))]).toArray 111)
 rw [← hW] at b3
 have m1 := MapO.made w1
 have m2 := MapO.made (w1.alloc (.map #[] 0))
 rw [e1] at m2
 have hb1 : Below w1.heap.size w1 W := b1.trans ((b2.trans (b3.mono (by omega))).mono (by omega))
 have hsz := hb.size
 have esz : W.heap.size = w1.heap.size + 3 := by rw [hW]; simp
 have hlt1 := m1.lt
 have hlt2 := m2.lt
 refine ⟨fun q => w.heap.size ≤ q ∧ q < w1.heap.size, fun q => w1.heap.size ≤ q ∧ q < W.heap.size, ⟨gl, [], .slice none 0 0, w1.heap.size, w1.heap.size + 1, ?_⟩, hb.trans (hb1.mono hsz), fun q hq => by rcases hq with hq | hq <;> omega⟩
 exact {
  blk := by
   have := heap_alloc_new ((w1.alloc (.map #[] 0)).alloc (.map #[] 0)) (.cells (gl ++ [Value.slice none 0 0, Value.map (some w1.heap.size), Value.map (some (w1.heap.size + 1))]).toArray 111)
   rw [← hW, e2] at this
   exact this
  grp := GroupC.fr hg ((Fr.ofBelow hb1).mono (fun q hq => hq.2))
  len := rfl
  row := World.ownsRow_nil _ _ _ _
  ent := fun i x hx => by simp at hx
  idx := ((m1.below (b2.mono (by omega))).below (b3.mono (by omega))).eqv (fun c => rfl)
  rev := (m2.below (b3.mono (by omega))).eqv (fun c => rfl)
  oj := ⟨by omega, by omega⟩
  oi := ⟨by omega, by omega⟩
  orr := ⟨by omega, by omega⟩
  ov := fun q hq => by simp [Value.ownBlock] at hq
  ne1 := by omega
  ne2 := by omega
  ne3 := by omega
  ne4 := fun q hq => by simp [Value.ownBlock] at hq
  dis := fun q h1 h2 => by omega
  ltD := fun q h1 => by omega
  ltO := fun q h1 => h1.2
  ok := okJ_nil g }
theorem JAt.below {w w' : World} {D O : Nat → Prop} {J : Nat} {g : XGroup} {es : List XEntry} {gl : List Value} {css : List (List Value)} {v : Value} {bi br : Nat} (h : JAt w D O J g es gl css v bi br) (hb : Below w.heap.size w w') : JAt w' D O J g es gl css v bi br :=
 h.fr ((Fr.ofBelow hb).mono fun q hq => hq.elim (h.ltD q) (h.ltO q))
theorem JAt.cell {w : World} {D O : Nat → Prop} {J : Nat} {g : XGroup} {es : List XEntry} {gl : List Value} {css : List (List Value)} {v : Value} {bi br : Nat} (h : JAt w D O J g es gl css v bi br) : w.cell? ⟨J, 21, none⟩ = some v ∧ w.cell? ⟨J, 22, none⟩ = some (.map (some bi)) ∧ w.cell? ⟨J, 23, none⟩ = some (.map (some br)) := by
 have hl := h.glen
 refine ⟨(blk_cell h.blk 21).trans ?_, (blk_cell h.blk 22).trans ?_, (blk_cell h.blk 23).trans ?_⟩ <;> simp [List.getElem?_append, hl]
section
variable {P : Program} (w : World)
end
theorem JAt.mono {w : World} {D O D' O' : Nat → Prop} {J : Nat} {g : XGroup} {es : List XEntry} {gl : List Value} {css : List (List Value)} {v : Value} {bi br : Nat} (h : JAt w D O J g es gl css v bi br) (hD : ∀ q, D q → D' q) (hO : ∀ q, O q → O' q) (hdis : ∀ q, D' q → ¬ O' q) (hD2 : ∀ q, D' q → q < w.heap.size) (hO2 : ∀ q, O' q → q < w.heap.size) : JAt w D' O' J g es gl css v bi br where
 blk := h.blk
 grp := GroupC.mono h.grp hD
 len := h.len
 row := h.row
 ent := fun i x hx => by
  obtain ⟨cs, h1, h2⟩ := h.ent i x hx
  exact ⟨cs, h1, EntryC.mono h2 hD⟩
 idx := h.idx
 rev := h.rev
 oj := hO _ h.oj
 oi := hO _ h.oi
 orr := hO _ h.orr
 ov := fun q hq => hO _ (h.ov q hq)
 ne1 := h.ne1
 ne2 := h.ne2
 ne3 := h.ne3
 ne4 := h.ne4
 dis := hdis
 ltD := hD2
 ltO := hO2
 ok := h.ok
theorem JAt.same {w w' : World} {D O : Nat → Prop} {J : Nat} {g : XGroup} {es : List XEntry} {gl : List Value} {css : List (List Value)} {v : Value} {bi br : Nat} (h : JAt w D O J g es gl css v bi br) (hb : Below w.heap.size w w') : JPost D O J g es es w w' := by
 have h2 := h.below hb
 refine ⟨w'.heap.size, hb.size, Nat.le_refl _, ⟨gl, css, v, bi, br, h2.mono (fun q hq => .inl hq) (fun q hq => .inl hq) (fun q hq => ?_) (fun q hq => ?_) (fun q hq => ?_)⟩, (Fr.ofBelow hb).mono (fun q hq => hq.1)⟩
 · rintro (ho | ho)
   · rcases hq with hq | hq
     · exact h.dis q hq ho
     · have := h.ltO q ho; omega
   · omega
 · rcases hq with hq | hq
   · exact h2.ltD q hq
   · exact hq.2
 · rcases hq with hq | hq
   · exact h2.ltO q hq
   · exact hq.2
def entA (x : XEntry) (A : Option Addr) (c : Nat) : List Value := [.int .i64 x.id, .int .i64 x.entity, .int .i64 x.date, .int .i64 x.kind, .int .i64 x.of_, .string x.text, .slice A x.lines.length c]
def PC (B : Nat) (x : XEntry) (v : Value) (w : World) : Prop := ∃ A c, v = .agg (entA x A c).toArray ∧ ListC LineC 3 w (fun q => B ≤ q ∧ q < w.heap.size) [.slice A x.lines.length c] x.lines
def PS (B : Nat) (x : XEntry) (v : Value) (w : World) : Prop := ∃ gq A c, v = .slice (some ⟨gq, 0, none⟩) 1 1 ∧ B ≤ gq ∧ w.heap[gq]? = some (.cells (entA x A c).toArray 42 (0, 0)) ∧ ListC LineC 3 w (fun q => B ≤ q ∧ q < w.heap.size) [.slice A x.lines.length c] x.lines
def PA (V : World) (v0 : Value) (n : Nat) (cf : List Value) (x : XEntry) (v : Value) (w : World) : Prop := ∃ W3 A c, Fr (fun q => q < V.heap.size ∧ v0.ownBlock ≠ some q) V W3 ∧ ListC LineC 3 W3 (fun q => V.heap.size ≤ q ∧ q < W3.heap.size) [.slice A x.lines.length c] x.lines ∧ w.ownsRow 0 42 7 v (n + 1) (cf ++ entA x A c) ∧ W3.grownBy w v0.ownBlock ∧ (v.ownBlock = v0.ownBlock ∨ v.ownBlock = some W3.heap.size)
theorem lines_fr2 {w w' : World} {B : Nat} {cs : List Value} {l : List XLine} (h : ListC LineC 3 w (fun q => B ≤ q ∧ q < w.heap.size) cs l) (hf : Fr (fun q => B ≤ q ∧ q < w.heap.size) w w') : ListC LineC 3 w' (fun q => B ≤ q ∧ q < w'.heap.size) cs l :=
 (h.fr (fun h => LineC.fr h hf) hf).mono (fun h => LineC.mono h (fun q hq => ⟨hq.1, Nat.lt_of_lt_of_le hq.2 hf.size⟩)) (fun q hq => ⟨hq.1, Nat.lt_of_lt_of_le hq.2 hf.size⟩)
theorem lines_up {w w' : World} {B : Nat} {cs : List Value} {l : List XLine} (h : ListC LineC 3 w (fun q => B ≤ q ∧ q < w.heap.size) cs l) (hb : Below w.heap.size w w') : ListC LineC 3 w' (fun q => B ≤ q ∧ q < w'.heap.size) cs l := lines_fr2 h ((Fr.ofBelow hb).mono (fun q hq => hq.2))
theorem PC.keep (B : Nat) (x : XEntry) : ∀ v w w', Below w.heap.size w w' → PC B x v w → PC B x v w' := fun v w w' hb ⟨A, c, e, h⟩ => ⟨A, c, e, lines_up h hb⟩
theorem PS.keep (B : Nat) (x : XEntry) : ∀ v w w', Below w.heap.size w w' → PS B x v w → PS B x v w' := fun v w w' hb ⟨gq, A, c, e, h1, h2, h⟩ => ⟨gq, A, c, e, h1, (hb.block gq (blk_lt h2)).trans h2, lines_up h hb⟩
theorem PA.keep (V : World) (v0 : Value) (n : Nat) (cf : List Value) (x : XEntry) : ∀ v w w', Below w.heap.size w w' → PA V v0 n cf x v w → PA V v0 n cf x v w' := fun v w w' hb ⟨W3, A, c, h1, h2, h3, h4, h5⟩ => ⟨W3, A, c, h1, h2, own_below h3 hb, h4.andThen ((grown_of_below hb).but _) (fun j hj => .inr hj), h5⟩
theorem PC.grow {B : Nat} {x : XEntry} {v : Value} {w w' : World} {row : Option Nat} (h : PC B x v w) (hg : w.grownBy w' row) (hr : ∀ q, row = some q → q < B) : PC B x v w' := by
 obtain ⟨A, c, e, h⟩ := h
 exact ⟨A, c, e, lines_fr2 h ⟨hg.os, hg.tape, hg.output, hg.size, fun q hq => hg.block q hq.2 (fun e => by have := hr q e.symm; omega)⟩⟩
theorem PS.grow {B : Nat} {x : XEntry} {v : Value} {w w' : World} {row : Option Nat} (h : PS B x v w) (hg : w.grownBy w' row) (hr : ∀ q, row = some q → q < B) : PS B x v w' := by
 obtain ⟨gq, A, c, e, h1, h2, h⟩ := h
 exact ⟨gq, A, c, e, h1, (hg.block gq (blk_lt h2) (fun e => by have := hr gq e.symm; omega)).trans h2, lines_fr2 h ⟨hg.os, hg.tape, hg.output, hg.size, fun q hq => hg.block q hq.2 (fun e => by have := hr q e.symm; omega)⟩⟩
theorem JPost.of {w V W3 W5 : World} {D O : Nat → Prop} {J : Nat} {g : XGroup} {es es' : List XEntry} {gl : List Value} {css : List (List Value)} {v : Value} {bi br : Nat} (hb : Below w.heap.size w V) (h : JAt W5 (fun q => D q ∨ (V.heap.size ≤ q ∧ q < W3.heap.size)) (fun q => O q ∨ (W3.heap.size ≤ q ∧ q < W5.heap.size)) J g es' gl css v bi br)
 (hf : Fr (fun q => q < V.heap.size ∧ ¬ O q) V W5) (h1 : V.heap.size ≤ W3.heap.size) (h2 : W3.heap.size ≤ W5.heap.size) (hO : ∀ q, O q → q < w.heap.size) : JPost D O J g es es' w W5 := by
 have hs := hb.size
 refine ⟨W3.heap.size, by omega, h2, ⟨gl, css, v, bi, br, h.mono (fun q hq => hq.elim .inl (fun hq => .inr ⟨by omega, hq.2⟩)) (fun q hq => hq) (fun q hq ho => ?_) (fun q hq => ?_) h.ltO⟩, ((Fr.ofBelow hb).mono (fun q hq => hq.1)).trans (hf.mono (fun q hq => ⟨by omega, hq.2⟩))⟩
 · rcases hq with hq | hq
   · exact h.dis q (.inl hq) ho
   · rcases ho with ho | ho
     · have := hO q ho; omega
     · omega
 · rcases hq with hq | hq
   · exact h.ltD q (.inl hq)
   · omega
def OutAt (B : Nat) (es : List XEntry) (v : Value) (w : World) : Prop := ∃ css : List (List Value), css.length = es.length ∧ w.ownsRow B 42 7 v es.length css.flatten ∧ (∀ cs ∈ css, cs.length = 7) ∧ ∀ (i : Nat) x, es[i]? = some x → ∃ cs, css[i]? = some cs ∧ EntryC w (fun q => q < B) cs x
theorem OutAt.same {B : Nat} {es : List XEntry} {v : Value} {w w' : World} (h : OutAt B es v w) (hf : Fr (fun q => q < B) w w') (hb : ∀ q, v.ownBlock = some q → w'.heap[q]? = w.heap[q]?) : OutAt B es v w' := by
 obtain ⟨css, h1, h2, h3, h4⟩ := h
 refine ⟨css, h1, own_same h2 hb, h3, fun i x hx => ?_⟩
 obtain ⟨cs, k1, k2⟩ := h4 i x hx
 exact ⟨cs, k1, EntryC.fr k2 hf⟩
def IsLn (W : World) (cells : List Value) (v : Value) (w : World) : Prop := ∃ g, v = .slice (some ⟨g, 0, none⟩) 1 1 ∧ W.heap.size ≤ g ∧ w.heap[g]? = some (.cells cells.toArray 52 (0, 0))
theorem IsLn.keep (W : World) (cells : List Value) : ∀ v w w', Below w.heap.size w w' → IsLn W cells v w → IsLn W cells v w' := fun v w w' hb ⟨g, e, h1, h2⟩ => ⟨g, e, h1, (hb.block g (blk_lt h2)).trans h2⟩
theorem IsLn.grow {W w w' : World} {cells : List Value} {v : Value} {row : Option Nat} (h : IsLn W cells v w) (hg : w.grownBy w' row) (hr : ∀ q, row = some q → q < W.heap.size) : IsLn W cells v w' := by
 obtain ⟨g, e, h1, h2⟩ := h
 exact ⟨g, e, h1, (hg.block g (blk_lt h2) (fun e => by have := hr g e.symm; omega)).trans h2⟩
def PL (V : World) (base : Nat) (v0 : Value) (n : Nat) (cf : List Value) (v : Value) (w : World) : Prop := ∃ W3, Fr (fun q => q < V.heap.size ∧ v0.ownBlock ≠ some q) V W3 ∧ w.ownsRow base 52 3 v n cf ∧ W3.grownBy w v0.ownBlock ∧ (v.ownBlock = v0.ownBlock ∨ v.ownBlock = some W3.heap.size)
theorem PL.keep (V : World) (base : Nat) (v0 : Value) (n : Nat) (cf : List Value) : ∀ v w w', Below w.heap.size w w' → PL V base v0 n cf v w → PL V base v0 n cf v w' := fun v w w' hb ⟨W3, h1, h3, h4, h5⟩ => ⟨W3, h1, own_below h3 hb, h4.andThen ((grown_of_below hb).but _) (fun j hj => .inr hj), h5⟩
end Go.Proofs.YtebdajkknkapcaaGreat
