/- What a journal holds in memory. -/
import Derived.Test.YtekelchdbkjjjaaGreatG20xB0B2
import Derived.Test.YtekelchdbkjjjaaGreatG20xB3B8
import Derived.Test.YtekelchdbkjjjaaGreatG20xB9B13
import Derived.Test.YtekelchdbkjjjaaGreatG20xB14
import Derived.Test.YtekelchdbkjjjaaGreatG20xB16
import Derived.Test.YtekelchdbkjjjaaGreatG20xB17B24
import Derived.Test.YtekelchdbkjjjaaGreatG20xB29B32
import Derived.Test.YtekelchdbkjjjaaGreatG20xB33C3
import Derived.Test.YtekelchdbkjjjaaGreatG20xC4I2
import Derived.Test.YtekelchdbkjjjaaGreatProg
set_option linter.unusedVariables false
set_option linter.unusedSimpArgs false
set_option maxRecDepth 4000
attribute [local go_sem ↓] Go.wp_at_zero Go.wp_at_succ
namespace Go.Proofs.YtekelchdbkjjjaaGreat
open Go Go.RowKit
theorem flat_len {size : Nat} {css : List (List Value)} (h : ∀ cs ∈ css, cs.length = size) : css.flatten.length = css.length * size := by
 induction css with
 | nil => simp
 | cons c css ih => rw [List.flatten_cons, List.length_append, ih (fun x hx => h x (by simp [hx])), h c (by simp), List.length_cons, Nat.succ_mul]; omega
theorem At.flat {w : World} {Q : Nat → Prop} {b size : Nat} : ∀ {css : List (List Value)} (h : ∀ cs ∈ css, cs.length = size) (o : Nat), At w Q ⟨b, o, none⟩ css.flatten → ∀ (i : Nat) cs, css[i]? = some cs → At w Q ⟨b, o + i * size, none⟩ cs
 | [], _, _, _, i, cs, hi => by simp at hi
 | c :: css, h, o, ha, 0, cs, hi => by
  rw [List.flatten_cons] at ha
  have := (ha.split).1
  simp at hi
  subst hi
  simpa using this
 | c :: css, h, o, ha, i + 1, cs, hi => by
  rw [List.flatten_cons] at ha
  have h2 := (ha.split).2
  rw [h c (by simp)] at h2
  simp only [List.getElem?_cons_succ] at hi
  have := At.flat (fun x hx => h x (by simp [hx])) (o + size) h2 i cs hi
  have e : o + (i + 1) * size = o + size + i * size := by rw [Nat.add_mul]; omega
  rw [e]
  exact this
theorem own_at {w : World} {base : Nat} {e : TypeId} {size g n c : Nat} {xs : List Value} (h : w.ownsRow base e size (.slice (some ⟨g, 0, none⟩) n c) n xs) {Q : Nat → Prop} (hQ : Q g) : At w Q ⟨g, 0, none⟩ xs :=
 ⟨hQ, fun j u hu => ⟨h.cells (g := g) rfl j u hu, own_unfrozen h (g := g) rfl j⟩⟩
theorem own_list {α : Type} {El : World → (Nat → Prop) → List Value → α → Prop} {size : Nat} {w : World} {Q : Nat → Prop} {base : Nat} {e : TypeId} {v : Value} {xs : List α} {css : List (List Value)} (hl : ∀ cs ∈ css, cs.length = size)
 (h : w.ownsRow base e size v xs.length css.flatten) (hE : ∀ (i : Nat) x, xs[i]? = some x → ∃ cs, css[i]? = some cs ∧ El w Q cs x) (hQ : ∀ g, v.ownBlock = some g → Q g) : ListC El size w Q [v] xs := by
 rcases h.2 with ⟨rfl, h0⟩ | ⟨g, cap, cur, rfl, _, _, h3, h4, _⟩
 · exact ⟨none, 0, by rw [h0], by omega, by simp [maxLen], fun hp => by omega⟩
 · refine ⟨_, cap, rfl, h3, h4, fun _ => ⟨g, 0, rfl, hQ g rfl, fun i x hx => ?_⟩⟩
   obtain ⟨cs, h1, h2⟩ := hE i x hx
   exact ⟨cs, h2, At.flat hl 0 (own_at h (hQ g rfl)) i cs h1⟩
structure JAt (w : World) (D O : Nat → Prop) (J : Nat) (g : XGroup) (es : List XEntry) (gl : List Value) (css : List (List Value)) (v : Value) (bi br : Nat) : Prop where
 blk : w.heap[J]? = some (.cells (gl ++ [v, .map (some bi), .map (some br)]).toArray 168 (0, 0))
 grp : GroupC w D gl g
 len : css.length = es.length
 row : w.ownsRow 0 46 7 v es.length css.flatten
 ent : ∀ (i : Nat) x, es[i]? = some x → ∃ cs, css[i]? = some cs ∧ EntryC w D cs x
 idx : MapO w bi es.length (fun id => Option.map (fun k : Nat => (k : Int)) (idxE es id))
 rev : MapO w br es.length (revO es)
 oj : O J
 oi : O bi
 orr : O br
 ov : ∀ q, v.ownBlock = some q → O q
 ne1 : J ≠ bi
 ne2 : J ≠ br
 ne3 : bi ≠ br
 ne4 : ∀ q, v.ownBlock = some q → q ≠ J ∧ q ≠ bi ∧ q ≠ br
 dis : ∀ q, D q → ¬ O q
 ltD : ∀ q, D q → q < w.heap.size
 ltO : ∀ q, O q → q < w.heap.size
 ok : okJ g es
def JC (w : World) (D O : Nat → Prop) (J : Nat) (g : XGroup) (es : List XEntry) : Prop := ∃ gl css v bi br, JAt w D O J g es gl css v bi br
section
variable {w w' : World} {D O : Nat → Prop} {J : Nat} {g : XGroup} {es : List XEntry} {gl : List Value} {css : List (List Value)} {v : Value} {bi br : Nat}
theorem JAt.fr (h : JAt w D O J g es gl css v bi br) (hf : Fr (fun q => D q ∨ O q) w w') : JAt w' D O J g es gl css v bi br where
 blk := (hf.block J (.inr h.oj)).trans h.blk
 grp := GroupC.fr h.grp (hf.mono fun q hq => .inl hq)
 len := h.len
 row := own_same h.row fun q hq => hf.block q (.inr (h.ov q hq))
 ent := fun i x hx => by
  obtain ⟨cs, h1, h2⟩ := h.ent i x hx
  exact ⟨cs, h1, EntryC.fr h2 (hf.mono fun q hq => .inl hq)⟩
 idx := h.idx.fr hf (.inr h.oi)
 rev := h.rev.fr hf (.inr h.orr)
 oj := h.oj
 oi := h.oi
 orr := h.orr
 ov := h.ov
 ne1 := h.ne1
 ne2 := h.ne2
 ne3 := h.ne3
 ne4 := h.ne4
 dis := h.dis
 ltD := fun q hq => Nat.lt_of_lt_of_le (h.ltD q hq) hf.size
 ltO := fun q hq => Nat.lt_of_lt_of_le (h.ltO q hq) hf.size
 ok := h.ok
theorem JC.fr (h : JC w D O J g es) (hf : Fr (fun q => D q ∨ O q) w w') : JC w' D O J g es := by
 obtain ⟨gl, css, v, bi, br, h⟩ := h
 exact ⟨gl, css, v, bi, br, h.fr hf⟩
theorem JC.below (h : JC w D O J g es) (hb : Below w.heap.size w w') : JC w' D O J g es := by
 obtain ⟨gl, css, v, bi, br, h⟩ := h
 exact ⟨gl, css, v, bi, br, h.fr ((Fr.ofBelow hb).mono fun q hq => hq.elim (h.ltD q) (h.ltO q))⟩
theorem JC.ok (h : JC w D O J g es) : okJ g es := by
 obtain ⟨gl, css, v, bi, br, h⟩ := h
 exact h.ok
theorem JC.lt (h : JC w D O J g es) : J < w.heap.size := by
 obtain ⟨gl, css, v, bi, br, h⟩ := h
 exact blk_lt h.blk
theorem JAt.glen (h : JAt w D O J g es gl css v bi br) : gl.length = 21 := h.grp.len
theorem JAt.clen (h : JAt w D O J g es gl css v bi br) : ∀ cs ∈ css, cs.length = 7 := fun cs hc => by
 obtain ⟨i, hi, rfl⟩ := List.getElem_of_mem hc
 have hi2 : i < es.length := by rw [← h.len]; exact hi
 obtain ⟨cs, h1, h2⟩ := h.ent i _ (List.getElem?_eq_getElem hi2)
 rw [List.getElem?_eq_getElem hi] at h1
 obtain rfl := Option.some.inj h1
 exact h2.len
theorem JAt.list (h : JAt w D O J g es gl css v bi br) : ListC EntryC 7 w (fun q => D q ∨ O q) [v] es :=
 own_list h.clen h.row (fun i x hx => by
  obtain ⟨cs, h1, h2⟩ := h.ent i x hx
  exact ⟨cs, h1, EntryC.mono h2 (fun q hq => .inl hq)⟩) (fun q hq => .inr (h.ov q hq))
end
def JPost (D O : Nat → Prop) (J : Nat) (g : XGroup) (es es' : List XEntry) (w w' : World) : Prop :=
 ∃ m, w.heap.size ≤ m ∧ m ≤ w'.heap.size ∧ JC w' (fun q => D q ∨ (w.heap.size ≤ q ∧ q < m)) (fun q => O q ∨ (m ≤ q ∧ q < w'.heap.size)) J g es' ∧ Fr (fun q => q < w.heap.size ∧ ¬ O q) w w'
theorem own_empty {w : World} {base g size : Nat} {e : TypeId} (hb : base ≤ g) (hg : w.heap[g]? = some (.cells #[] e (0, 0))) : w.ownsRow base e size (.slice (some ⟨g, 0, none⟩) 0 0) 0 [] := ⟨by simp, .inr ⟨g, 0, #[], rfl, hb, hg, Nat.le_refl _, by simp [maxLen], by simp, by simp⟩⟩
theorem flatten_get {size : Nat} (hs : 0 < size) : ∀ {css : List (List Value)} (h : ∀ cs ∈ css, cs.length = size) (j : Nat), j < css.length * size → ∃ cs, css[j / size]? = some cs ∧ css.flatten[j]? = cs[j % size]?
 | [], _, j, hj => by simp at hj
 | c :: css, h, j, hj => by
  have hc : c.length = size := h c (by simp)
  rcases Nat.lt_or_ge j size with h1 | h1
  · refine ⟨c, by rw [Nat.div_eq_of_lt h1]; rfl, ?_⟩
    rw [List.flatten_cons, List.getElem?_append_left (by omega), Nat.mod_eq_of_lt h1]
  · obtain ⟨q, rfl⟩ : ∃ q, j = q + size := ⟨j - size, by omega⟩
    have hq : q < css.length * size := by
     rw [List.length_cons, Nat.succ_mul] at hj
     omega
    obtain ⟨cs, h2, h3⟩ := flatten_get hs (fun x hx => h x (by simp [hx])) q hq
    refine ⟨cs, ?_, ?_⟩
    · rw [Nat.add_div_right _ hs, List.getElem?_cons_succ]; exact h2
    · rw [List.flatten_cons, List.getElem?_append_right (by omega), hc, Nat.add_sub_cancel, Nat.add_mod_right]; exact h3
theorem rd_css {α : Type} {El : World → (Nat → Prop) → List Value → α → Prop} {size : Nat} {w : World} {Q : Nat → Prop} {A : Option Addr} {n c : Nat} {l : List α} (hlen : ∀ cs x, El w Q cs x → cs.length = size) (hs : 0 < size) (h : ListC El size w Q [.slice A n c] l) :
 ∃ css : List (List Value), css.length = l.length ∧ (∀ cs ∈ css, cs.length = size) ∧ (∀ (i : Nat) x, l[i]? = some x → ∃ cs, css[i]? = some cs ∧ El w Q cs x) ∧ Rd w Q A n size css.flatten := by
 obtain ⟨rfl, _, _⟩ := h.cap
 rcases Nat.eq_zero_or_pos l.length with h0 | h0
 · have hl : l = [] := List.eq_nil_of_length_eq_zero h0
   subst hl
   exact ⟨[], rfl, by simp, by simp, by simp, fun hn => absurd hn (by simp)⟩
 obtain ⟨b, o, rfl, hb, hx⟩ := h.base h0
 have hch : ∀ i (hi : i < l.length), ∃ es, El w Q es l[i] ∧ At w Q ⟨b, o + i * size, none⟩ es := hx
 obtain ⟨f, hf⟩ : ∃ f : Nat → List Value, ∀ i (hi : i < l.length), El w Q (f i) l[i] ∧ At w Q ⟨b, o + i * size, none⟩ (f i) :=
  ⟨fun i => if hi : i < l.length then (hch i hi).choose else [], fun i hi => by simp only [dif_pos hi]; exact (hch i hi).choose_spec⟩
 have hcl : ((List.range l.length).map f).length = l.length := by simp
 have hall : ∀ cs ∈ (List.range l.length).map f, cs.length = size := fun cs hc => by
  obtain ⟨i, hi, rfl⟩ := List.mem_map.1 hc
  exact hlen _ _ (hf i (List.mem_range.1 hi)).1
 refine ⟨(List.range l.length).map f, hcl, hall, fun i x hi => ?_, ?_, fun _ => ⟨_, rfl, hb, fun j u hj => ?_⟩⟩
 · obtain ⟨h1, h2⟩ := List.getElem?_eq_some_iff.1 hi
   exact ⟨f i, by simp [h1], h2 ▸ (hf i h1).1⟩
 · rw [flat_len hall, hcl]
 · have hjl : j < ((List.range l.length).map f).length * size := by
    have := (List.getElem?_eq_some_iff.1 hj).1
    rwa [flat_len hall] at this
   obtain ⟨cs, h1, h2⟩ := flatten_get hs hall j hjl
   rw [h2] at hj
   have hi : j / size < l.length := by
    have := (List.getElem?_eq_some_iff.1 h1).1
    rwa [hcl] at this
   have hcs : cs = f (j / size) := by simpa [hi, eq_comm] using h1
   subst hcs
   have h3 := (hf _ hi).2.2 _ u hj
   rw [Addr.add_lit] at h3 ⊢
   have e3 : o + j / size * size + j % size = o + j := by rw [Nat.add_assoc, Nat.mul_comm, Nat.div_add_mod]
   rw [e3] at h3
   exact h3
theorem css_flat {α : Type} {El : World → (Nat → Prop) → List Value → α → Prop} {f : α → List Value} {w : World} {Q : Nat → Prop} (he : ∀ cs x, El w Q cs x → cs = f x) {css : List (List Value)} {l : List α} (hl : css.length = l.length) (h : ∀ (i : Nat) x, l[i]? = some x → ∃ cs, css[i]? = some cs ∧ El w Q cs x) : css.flatten = l.flatMap f := by
 have : css = l.map f := by
  refine List.ext_getElem? (fun i => ?_)
  rw [List.getElem?_map]
  cases hi : l[i]? with
  | none => simp at hi; simp [hl, hi]
  | some x =>
   obtain ⟨cs, h1, h2⟩ := h i x hi
   rw [h1, he cs x h2]; rfl
 rw [this, List.flatMap_def]
theorem rd_list {α : Type} {El : World → (Nat → Prop) → List Value → α → Prop} {f : α → List Value} {size : Nat} {w : World} {Q : Nat → Prop} {A : Option Addr} {n c : Nat} {l : List α} (he : ∀ cs x, El w Q cs x → cs = f x) (hf : ∀ x, (f x).length = size) (hs : 0 < size) (h : ListC El size w Q [.slice A n c] l) : Rd w Q A n size (l.flatMap f) := by
 obtain ⟨css, h1, _, h3, h4⟩ := rd_css (fun cs x hx => by rw [he cs x hx]; exact hf x) hs h
 rwa [css_flat he h1 h3] at h4
theorem EntryC.mk {w : World} {Q : Nat → Prop} {x : XEntry} {A : Option Addr} {c : Nat} (hb : intBd x.id ∧ intBd x.entity ∧ intBd x.date ∧ intBd x.kind ∧ intBd x.of_) (hl : ListC LineC 3 w Q [.slice A x.lines.length c] x.lines) : EntryC w Q [.int .i64 x.id, .int .i64 x.entity, .int .i64 x.date, .int .i64 x.kind, .int .i64 x.of_, .string x.text, .slice A x.lines.length c] x :=
 ⟨[_], [_], [_], [_], [_], [_], [_], rfl, ⟨rfl, hb.1⟩, ⟨rfl, hb.2.1⟩, ⟨rfl, hb.2.2.1⟩, ⟨rfl, hb.2.2.2.1⟩, ⟨rfl, hb.2.2.2.2⟩, rfl, hl⟩
theorem EntityC.mk {w : World} {Q : Nat → Prop} {x : XEntity} {A B : Option Addr} {c d : Nat} (hc : ListC AccountC 4 w Q [.slice A x.chart.length c] x.chart) (hl : ListC LinkC 3 w Q [.slice B x.links.length d] x.links) : EntityC w Q (entL x.name x.currency A x.chart.length c B x.links.length d x.joint) x :=
 ⟨[_], [_], [_], [_], [_], rfl, rfl, rfl, hc, hl, rfl⟩
theorem GroupC.parts {w : World} {Q : Nat → Prop} {cs : List Value} {g : XGroup} (h : GroupC w Q cs g) : ∃ c0 c1 Ac cc c3 Ae ce, cs = c0 ++ c1 ++ [.slice Ac g.chart.length cc] ++ c3 ++ [.slice Ae g.entities.length ce] ∧ c0.length = 1 ∧ c1.length = 3 ∧ c3.length = 15 ∧
 ListC AccountC 4 w Q [.slice Ac g.chart.length cc] g.chart ∧ ListC EntityC 5 w Q [.slice Ae g.entities.length ce] g.entities ∧
 ∀ (w' : World) (Q' : Nat → Prop) A c B d, Below w.heap.size w w' → (∀ q, Q q → q < w.heap.size) → ListC AccountC 4 w' Q' [.slice A g.chart.length c] g.chart → ListC EntityC 5 w' Q' [.slice B g.entities.length d] g.entities → GroupC w' Q' (c0 ++ c1 ++ [.slice A g.chart.length c] ++ c3 ++ [.slice B g.entities.length d]) g := by
 obtain ⟨c0, c1, c2, c3, c4, rfl, h0, h1, h2, h3, h4⟩ := h
 have l0 := StrC.len h0
 have l1 := CalC.len h1
 have l3 := RolesC.len h3
 obtain ⟨Ac, cc, rfl, _⟩ := h2.form
 obtain ⟨Ae, ce, rfl, _⟩ := h4.form
 refine ⟨c0, c1, Ac, cc, c3, Ae, ce, rfl, l0, l1, l3, h2, h4, fun w' Q' A c B d hb hq k2 k4 => ⟨c0, c1, _, c3, _, rfl, h0, ?_, k2, ?_, k4⟩⟩
 · obtain ⟨a, b, c, e, k⟩ := h1
   exact ⟨a, b, c, e, k⟩
 · obtain ⟨d0, d1, d2, d3, d4, d5, d6, d7, d8, d9, d10, d11, d12, d13, d14, e, k⟩ := h3
   exact ⟨d0, d1, d2, d3, d4, d5, d6, d7, d8, d9, d10, d11, d12, d13, d14, e, k⟩
def IsRow (W : World) (T : TypeId) (size n : Nat) (xs : List Value) (v : Value) (w : World) : Prop := w.ownsRow W.heap.size T size v n xs
theorem IsRow.keep (W : World) (T : TypeId) (size n : Nat) (xs : List Value) : ∀ v w w', Below w.heap.size w w' → IsRow W T size n xs v w → IsRow W T size n xs v w' := fun v w w' hb h => own_below h hb
def QE (B gE n i k q : Nat) : Prop := (i < k ∧ gE < q ∧ q < n) ∨ (¬ i < k ∧ q < B)
def EntsAt (es : List XEntity) (B gE k : Nat) (w : World) : Prop := ∀ i (h : i < es.length), ∃ cs, EntityC w (QE B gE w.heap.size i k) cs es[i] ∧ At w (fun q => q = gE) ⟨gE, i * 5, none⟩ cs
theorem EntsAt.fr {es : List XEntity} {B gE k : Nat} {w w' : World} (h : EntsAt es B gE k w) (hg : B ≤ gE) (hgw : gE < w.heap.size) (hb : Below w.heap.size w w') : EntsAt es B gE k w' := fun i hi => by
 obtain ⟨cs, h1, h2⟩ := h i hi
 refine ⟨cs, ?_, h2.fr ((Fr.ofBelow hb).mono (fun q hq => by subst hq; exact hgw))⟩
 have hsz := hb.size
 exact EntityC.mono (EntityC.fr h1 ((Fr.ofBelow hb).mono (fun q hq => by unfold QE at hq; omega))) (fun q hq => by unfold QE at hq ⊢; omega)
theorem set_other (w : World) (b p o : Nat) (u : Value) (h : p ≠ o) : (w.setCell ⟨b, p, none⟩ u).cell? ⟨b, o, none⟩ = w.cell? ⟨b, o, none⟩ := World.cell?_setCell_other _ _ _ _ (fun e => h (by injection e))
theorem set_same {w : World} {b o : Nat} {u v : Value} (h : w.cell? ⟨b, o, none⟩ = some v) : (w.setCell ⟨b, o, none⟩ u).cell? ⟨b, o, none⟩ = some u := World.cell?_setCell_same _ _ _ h
theorem at_set {w : World} {b o p : Nat} {cs : List Value} {u : Value} (h : At w (fun q => q = b) ⟨b, o, none⟩ cs) (hp : p < o ∨ o + cs.length ≤ p) : At (w.setCell ⟨b, p, none⟩ u) (fun q => q = b) ⟨b, o, none⟩ cs :=
 ⟨rfl, fun j x hj => by
  have hl := (List.getElem?_eq_some_iff.1 hj).1
  obtain ⟨h1, h2⟩ := h.2 j x hj
  rw [Addr.add_lit] at h1 h2 ⊢
  refine ⟨?_, ?_⟩
  · rw [← h1]; exact World.cell?_setCell_other _ _ _ _ (fun e => by injection e; omega)
  · rw [← h2]; exact World.frozen?_setCell _ _ _ _⟩
theorem own_listF {α : Type} {El : World → (Nat → Prop) → List Value → α → Prop} {f : α → List Value} {size : Nat} {l : List α} {w : World} {Q : Nat → Prop} {base : Nat} {T : TypeId} {v : Value} (hf : ∀ x, (f x).length = size) (h : w.ownsRow base T size v l.length (l.flatMap f)) (hE : ∀ x ∈ l, El w Q (f x) x) (hQ : ∀ g, v.ownBlock = some g → Q g) : ListC El size w Q [v] l :=
 own_list (css := l.map f) (fun cs hc => by obtain ⟨x, _, rfl⟩ := List.mem_map.1 hc; exact hf x) (by rw [← List.flatMap_def]; exact h)
  (fun i x hi => ⟨f x, by rw [List.getElem?_map, hi]; rfl, hE x (List.mem_of_getElem? hi)⟩) hQ
theorem own_val {w : World} {base : Nat} {T : TypeId} {size n m c : Nat} {A : Option Addr} {xs : List Value} (h : w.ownsRow base T size (.slice A m c) n xs) : m = n := by
 rcases h.2 with ⟨e, h0⟩ | ⟨g, cap, cur, e, _⟩
 · injection e with _ e2 _; omega
 · injection e with _ e2 _
theorem EntsAt.step {es : List XEntity} {B gE k : Nat} {w : World} (h : EntsAt es B gE k w) (hg : B ≤ gE) (hgw : gE < w.heap.size) (hk : k < es.length) {A1 A2 : Option Addr} {c1 c2 : Nat}
 (h1 : w.ownsRow (gE + 1) 87 4 (.slice A1 es[k].chart.length c1) es[k].chart.length (es[k].chart.flatMap accL)) (b1 : ∀ x ∈ es[k].chart, accB x)
 (h2 : w.ownsRow (gE + 1) 135 3 (.slice A2 es[k].links.length c2) es[k].links.length (es[k].links.flatMap linkL)) (b2 : ∀ x ∈ es[k].links, linkBd x) :
 EntsAt es B gE (k + 1) ((w.setCell ⟨gE, k * 5 + 2, none⟩ (.slice A1 es[k].chart.length c1)).setCell ⟨gE, k * 5 + 3, none⟩ (.slice A2 es[k].links.length c2)) := by
 have hf : Fr (fun q => q ≠ gE) w ((w.setCell ⟨gE, k * 5 + 2, none⟩ (.slice A1 es[k].chart.length c1)).setCell ⟨gE, k * 5 + 3, none⟩ (.slice A2 es[k].links.length c2)) :=
  ((Fr.refl _ _).setCell (p := ⟨gE, k * 5 + 2, none⟩) (by simp) _).setCell (p := ⟨gE, k * 5 + 3, none⟩) (by simp) _
 intro i hi
 obtain ⟨cs, k1, k2⟩ := h i hi
 have hl := k1.len
 rcases Nat.lt_trichotomy i k with hik | rfl | hik
 · refine ⟨cs, ?_, at_set (at_set k2 (.inr (by rw [hl]; omega))) (.inr (by rw [hl]; omega))⟩
   have hsz := hf.size
   exact EntityC.mono (EntityC.fr k1 (hf.mono fun q hq => by unfold QE at hq; omega)) (fun q hq => by unfold QE at hq ⊢; omega)
 · obtain ⟨Ec, c3, Al, cl, rfl, _, _⟩ := EntityC.lit k1
   have hsz := hf.size
   have q1 : ∀ g, Value.ownBlock (.slice A1 es[i].chart.length c1) = some g → g ≠ gE ∧ g < w.heap.size ∧ gE < g := fun g hg' => by have := h1.lt _ hg'; omega
   have q2 : ∀ g, Value.ownBlock (.slice A2 es[i].links.length c2) = some g → g ≠ gE ∧ g < w.heap.size ∧ gE < g := fun g hg' => by have := h2.lt _ hg'; omega
   refine ⟨entL es[i].name es[i].currency A1 es[i].chart.length c1 A2 es[i].links.length c2 es[i].joint, ?_, rfl, fun j u hj => ?_⟩
   · refine EntityC.mk ?_ ?_
     · exact own_listF (fun _ => rfl) (own_same h1 (fun g hg' => hf.block g (q1 g hg').1)) (fun x hx => accC_of (b1 x hx)) (fun g hg' => by have := q1 g hg'; unfold QE; omega)
     · exact own_listF (fun _ => rfl) (own_same h2 (fun g hg' => hf.block g (q2 g hg').1)) (fun x hx => linkC_of (b2 x hx)) (fun g hg' => by have := q2 g hg'; unfold QE; omega)
   · rw [Addr.add_lit]
     have hj5 : j < 5 := (List.getElem?_eq_some_iff.1 hj).1
     have hold := fun (j : Nat) (u : Value) (hj : (entL es[i].name es[i].currency Ec es[i].chart.length c3 Al es[i].links.length cl es[i].joint)[j]? = some u) => k2.2 j u hj
     simp only [Addr.add_lit] at hold
     have hfz : ∀ p : Addr, ((w.setCell ⟨gE, i * 5 + 2, none⟩ (.slice A1 es[i].chart.length c1)).setCell ⟨gE, i * 5 + 3, none⟩ (.slice A2 es[i].links.length c2)).frozen? p = w.frozen? p := fun p => by simp
     have hj' : j = 0 ∨ j = 1 ∨ j = 2 ∨ j = 3 ∨ j = 4 := by omega
     rcases hj' with rfl | rfl | rfl | rfl | rfl
     · obtain rfl := Option.some.inj hj
       obtain ⟨h3, h4⟩ := hold 0 _ rfl
       exact ⟨(set_other _ _ _ _ _ (by omega)).trans ((set_other _ _ _ _ _ (by omega)).trans h3), by rw [hfz]; exact h4⟩
     · obtain rfl := Option.some.inj hj
       obtain ⟨h3, h4⟩ := hold 1 _ rfl
       exact ⟨(set_other _ _ _ _ _ (by omega)).trans ((set_other _ _ _ _ _ (by omega)).trans h3), by rw [hfz]; exact h4⟩
     · obtain rfl := Option.some.inj hj
       obtain ⟨h3, h4⟩ := hold 2 _ rfl
       exact ⟨(set_other _ _ _ _ _ (by omega)).trans (set_same h3), by rw [hfz]; exact h4⟩
     · obtain rfl := Option.some.inj hj
       obtain ⟨h3, h4⟩ := hold 3 _ rfl
       exact ⟨set_same ((set_other _ _ _ _ _ (by omega)).trans h3), by rw [hfz]; exact h4⟩
     · obtain rfl := Option.some.inj hj
       obtain ⟨h3, h4⟩ := hold 4 _ rfl
       exact ⟨(set_other _ _ _ _ _ (by omega)).trans ((set_other _ _ _ _ _ (by omega)).trans h3), by rw [hfz]; exact h4⟩
 · refine ⟨cs, ?_, at_set (at_set k2 (.inl (by omega))) (.inl (by omega))⟩
   exact EntityC.mono (EntityC.fr k1 (hf.mono fun q hq => by unfold QE at hq; omega)) (fun q hq => by unfold QE at hq ⊢; omega)
theorem Ks.cells {W w w' : World} {ks : List Kind} {b : Nat} (hb : b < W.heap.size) (hw : ∀ q, q ≠ b → w'.heap[q]? = w.heap[q]?) (hks : ∀ k ∈ ks, (∃ u, k = .val u) ∨ ∃ T size n xs, k = .own (IsRow W T size n xs) (IsRow.keep W T size n xs)) (i : Nat) (v : Value) (h : Ks W ks i v w) : Ks W ks i v w' := fun k hk => by
 have h1 := h k hk
 rcases hks k (List.mem_of_getElem? hk) with ⟨u, rfl⟩ | ⟨T, size, n, xs, rfl⟩
 · exact h1
 · exact own_same (show w.ownsRow W.heap.size T size v n xs from h1) (fun g hg => hw g (by have := ((show w.ownsRow W.heap.size T size v n xs from h1).lt _ hg).1; omega))
theorem JC.made {w w1 W : World} {g : XGroup} {gl : List Value} {cs : Array Value} (hg : GroupC w1 (fun q => w.heap.size ≤ q ∧ q < w1.heap.size) gl g) (hb : Below w.heap.size w w1)
 (hcs : cs = (gl ++ [Value.slice none 0 0, Value.map (some w1.heap.size), Value.map (some (w1.heap.size + 1))]).toArray)
 (hW : W = ((w1.alloc (.map #[] 0)).alloc (.map #[] 0)).alloc (.cells cs 168)) :
 ∃ (D O : Nat → Prop), JC W D O (w1.heap.size + 2) g [] ∧ Below w.heap.size w W ∧ ∀ q, D q ∨ O q → w.heap.size ≤ q := by
 subst hcs
 have e1 : (w1.alloc (.map #[] 0)).heap.size = w1.heap.size + 1 := by simp
 have e2 : ((w1.alloc (.map #[] 0)).alloc (.map #[] 0)).heap.size = w1.heap.size + 2 := by simp
 have b1 := below1 w1 (.map #[] 0)
 have b2 := below1 (w1.alloc (.map #[] 0)) (.map #[] 0)
 have b3 := below1 ((w1.alloc (.map #[] 0)).alloc (.map #[] 0)) (.cells (gl ++ [Value.slice none 0 0, Value.map (some w1.heap.size), Value.map (some (w1.heap.size + 1))]).toArray 168)
 rw [← hW] at b3
 have m1 := MapO.made w1
 have m2 := MapO.made (w1.alloc (.map #[] 0))
 rw [e1] at m2
 have hb1 : Below w1.heap.size w1 W := b1.trans ((b2.trans (b3.mono (by omega))).mono (by omega))
 have hsz := hb.size
 have esz : W.heap.size = w1.heap.size + 3 := by rw [hW]; simp
 have hlt1 := m1.lt
 have hlt2 := m2.lt
 refine ⟨fun q => w.heap.size ≤ q ∧ q < w1.heap.size, fun q => w1.heap.size ≤ q ∧ q < W.heap.size, ⟨gl, [], .slice none 0 0, w1.heap.size, w1.heap.size + 1, ?_⟩, hb.trans (hb1.mono hsz), fun q hq => by rcases hq with hq | hq <;> omega⟩
 exact {
  blk := by
   have := heap_alloc_new ((w1.alloc (.map #[] 0)).alloc (.map #[] 0)) (.cells (gl ++ [Value.slice none 0 0, Value.map (some w1.heap.size), Value.map (some (w1.heap.size + 1))]).toArray 168)
   rw [← hW, e2] at this
   exact this
  grp := GroupC.fr hg ((Fr.ofBelow hb1).mono (fun q hq => hq.2))
  len := rfl
  row := World.ownsRow_nil _ _ _ _
  ent := fun i x hx => by simp at hx
  idx := ((m1.below (b2.mono (by omega))).below (b3.mono (by omega))).eqv (fun c => rfl)
  rev := (m2.below (b3.mono (by omega))).eqv (fun c => rfl)
  oj := ⟨by omega, by omega⟩
  oi := ⟨by omega, by omega⟩
  orr := ⟨by omega, by omega⟩
  ov := fun q hq => by simp [Value.ownBlock] at hq
  ne1 := by omega
  ne2 := by omega
  ne3 := by omega
  ne4 := fun q hq => by simp [Value.ownBlock] at hq
  dis := fun q h1 h2 => by omega
  ltD := fun q h1 => by omega
  ltO := fun q h1 => h1.2
  ok := okJ_nil g }
theorem JAt.below {w w' : World} {D O : Nat → Prop} {J : Nat} {g : XGroup} {es : List XEntry} {gl : List Value} {css : List (List Value)} {v : Value} {bi br : Nat} (h : JAt w D O J g es gl css v bi br) (hb : Below w.heap.size w w') : JAt w' D O J g es gl css v bi br :=
 h.fr ((Fr.ofBelow hb).mono fun q hq => hq.elim (h.ltD q) (h.ltO q))
theorem JAt.cell {w : World} {D O : Nat → Prop} {J : Nat} {g : XGroup} {es : List XEntry} {gl : List Value} {css : List (List Value)} {v : Value} {bi br : Nat} (h : JAt w D O J g es gl css v bi br) : w.cell? ⟨J, 21, none⟩ = some v ∧ w.cell? ⟨J, 22, none⟩ = some (.map (some bi)) ∧ w.cell? ⟨J, 23, none⟩ = some (.map (some br)) := by
 have hl := h.glen
 refine ⟨(blk_cell h.blk 21).trans ?_, (blk_cell h.blk 22).trans ?_, (blk_cell h.blk 23).trans ?_⟩ <;> simp [List.getElem?_append, hl]
theorem Inv.stepW {md : Region.Mode} {ops : Array Oper} {V : Nat → Value → World → Prop} {S : World → Prop} {a0 : Act} {listed : Array Bool} {a : Act} {w w' : World} {i : Nat} {o : Oper} {v : Value} (hI : Inv md ops V S a0 listed a w)
 (hdst : ∀ (i j : Nat) (oi oj : Oper) (d : Nat), ops[i]? = some oi → ops[j]? = some oj → oi.dst = some d → oj.dst = some d → i = j)
 (hlt : ∀ (i : Nat) (o : Oper) (d : Nat), ops[i]? = some o → o.dst = some d → d < a0.tmps.size)
 (h2 : ops[i]? = some o) (h3 : ∀ e ∈ o.after, Region.binds md e = true → Done listed e.on) (hS : S w') (hv : V i v w') (hst : ∀ j u, j ≠ i → V j u w → V j u w') :
 Inv md ops V S a0 (listed.setIfInBounds i true) (a.put o.dst v) w' := by
 have hsz : i < ops.size := (Array.getElem?_eq_some_iff.1 h2).1
 refine ⟨by simpa using hI.lsize, hS, ?_, ?_, ?_, ?_, ?_⟩
 · cases o.dst <;> exact hI.defers
 · cases ho : o.dst <;> simp [Act.put, hI.size]
 · intro j oj hj hd e he hb
   rcases hd.inv with rfl | hd
   · rw [h2] at hj
     cases hj
     exact Done.set (h3 e he hb)
   · exact Done.set (hI.closed j oj hj hd e he hb)
 · intro j oj d hj hjd hd
   by_cases hji : j = i
   · subst hji
     rw [h2] at hj
     cases hj
     refine ⟨v, ?_, hv⟩
     have := hlt j o d h2 hjd
     simp [Act.put, hjd, hI.size, this]
   · rcases hd.inv with h | hd
     · exact absurd h hji
     · obtain ⟨u, hu, hV⟩ := hI.got j oj d hj hjd hd
       refine ⟨u, ?_, hst j u hji hV⟩
       cases ho : o.dst with
       | none => simpa [Act.put, ho] using hu
       | some d' =>
        have hne : d' ≠ d := fun e => hji (hdst j i oj o d hj h2 hjd (by rw [ho, e]))
        simpa [Act.put, Array.getElem?_setIfInBounds, hne] using hu
 · intro j hj
   have h4 := hI.old j (fun k ok hk hkd hd => hj k ok hk hkd hd.set)
   cases ho : o.dst with
   | none => simpa [Act.put] using h4
   | some d' =>
    have hne : d' ≠ j := fun e => hj i o h2 (by rw [ho, e]) (Done.new (by rw [hI.lsize]; exact hsz))
    simpa [Act.put, Array.getElem?_setIfInBounds, hne] using h4
def OpStepW (P : Program) (md : Region.Mode) (ops : Array Oper) (Q : Exit → Act → World → Prop) (V : Nat → Value → World → Prop) (S : World → Prop) (a0 : Act) (i : Nat) (o : Oper) : Prop :=
 ∀ listed a w, Inv md ops V S a0 listed a w → (∀ e ∈ o.after, Region.binds md e = true → Done listed e.on) → ¬ Done listed i →
  ∀ K : Act → World → Prop, Shut (∀ v w', S w' → V i v w' → (∀ j u, j ≠ i → V j u w → V j u w') → K (a.put o.dst v) w') → if Region.wanted o (yielded ops a.tmps) = true then o.wp P a w K Q else K (a.put o.dst undef) w
theorem wpAny_invW {P : Program} {md : Region.Mode} {ops : Array Oper} {Q : Exit → Act → World → Prop} {V : Nat → Value → World → Prop} {S : World → Prop} {a0 : Act} {m : Nat}
 (hord : ∀ (i : Nat) (o : Oper), ops[i]? = some o → ∀ e ∈ o.after, Region.binds md e = true → e.on < i)
 (hdst : ∀ (i j : Nat) (oi oj : Oper) (d : Nat), ops[i]? = some oi → ops[j]? = some oj → oi.dst = some d → oj.dst = some d → i = j)
 (hlt : ∀ (i : Nat) (o : Oper) (d : Nat), ops[i]? = some o → o.dst = some d → d < a0.tmps.size)
 (hmn : m < ops.size) (hwait : waitsB md ops m = true) (hbeh : behindB md ops m = true)
 (hstep : ∀ i o, i < m → ops[i]? = some o → ∀ listed a w, Inv md ops V S a0 listed a w → (∀ e ∈ o.after, Region.binds md e = true → Done listed e.on) → ¬ Done listed i →
  ∀ K : Act → World → Prop, (∀ v w', S w' → V i v w' → (∀ j u, j ≠ i → V j u w → V j u w') → K (a.put o.dst v) w') → if Region.wanted o (yielded ops a.tmps) = true then o.wp P a w K Q else K (a.put o.dst undef) w)
 (hmid : ∀ f a w, Inv md ops V S a0 (headDone m ops.size) a w → wpAny P md ops Q (f + (ops.size - m)) (headDone m ops.size) a w) :
 ∀ fuel listed a w, Inv md ops V S a0 listed a w → (∀ i, m ≤ i → i < ops.size → ¬ Done listed i) → left ops.size listed ≤ fuel → wpAny P md ops Q fuel listed a w := by
 intro fuel
 induction fuel with
 | zero =>
  intro listed a w hI hno hf
  have hr : Region.ready md ops listed = [] := by
   rw [List.eq_nil_iff_forall_not_mem]
   intro i hi
   obtain ⟨h1, o, h2, _⟩ := mem_ready.1 hi
   have := left_set hI.lsize (Array.getElem?_eq_some_iff.1 h2).1 h1
   omega
  exact absurd (all_done' hI.lsize hord hr (m + 1) m (by omega) hmn) (hno m (by omega) hmn)
 | succ fuel ih =>
  intro listed a w hI hno hf
  by_cases hall : ∀ i, i < m → Done listed i
  · have hl := eq_headDone hI.lsize (fun i hi _ => hall i hi) hno
    subst hl
    have h1 := left_head m ops.size ops.size (Nat.le_refl _)
    unfold left at hf
    have h2 := hmid (fuel + 1 - (ops.size - m)) a w hI
    rwa [show fuel + 1 - (ops.size - m) + (ops.size - m) = fuel + 1 from by omega] at h2
  · refine ⟨fun hr => absurd (all_done' hI.lsize hord hr (m + 1) m (by omega) hmn) (hno m (by omega) hmn), fun i hi => ?_⟩
    obtain ⟨h1, o, h2, h3⟩ := mem_ready.1 hi
    have hsz : i < ops.size := (Array.getElem?_eq_some_iff.1 h2).1
    have him : i < m := by
     refine Nat.lt_of_not_le fun hle => ?_
     by_cases he : i = m
     · subst he
       exact hall fun j hj => waits_spec hI hwait h2 h3 (i - j) j hj (Nat.le_refl _)
     · simp only [behindB, List.all_eq_true] at hbeh
       have h4 := hbeh i (by rw [List.mem_drop_iff_getElem]; exact ⟨i - (m + 1), by simp; omega, by simp; omega⟩)
       rw [h2] at h4
       simp only [List.any_eq_true, Bool.and_eq_true, decide_eq_true_eq] at h4
       obtain ⟨e, hem, ⟨hb, hme⟩, hei⟩ := h4
       exact hno e.on hme (by omega) (h3 e (by simpa using hem) hb)
    have hnd : ¬ Done listed i := by
     unfold Done
     rw [← getD_tf (by rw [hI.lsize]; exact hsz), h1]
     simp
    refine wpOp_step h2 (fun K hK => hstep i o him h2 listed a w hI h3 hnd K (fun v w' hS hv hst => hK _ _ ?_))
    refine ih _ _ _ (hI.stepW hdst hlt h2 h3 hS hv hst) (fun j hj hjs hdj => ?_) ?_
    · rcases hdj.inv with rfl | hdj
      · omega
      · exact hno j hj hjs hdj
    · have := left_set hI.lsize hsz h1
      omega
theorem wp_region_invW2 {P : Program} {ops : Array Oper} {Q : Exit → Act → World → Prop} (m : Nat) (V : Nat → Value → World → Prop) (S : World → Prop) {id : Nat} {a : Act} {w : World}
 (hm : P.follows .mixedOrders = true) (ho : ordB' .any ops = true) (hd : dstB ops a.tmps.size = true) (hmn : m < ops.size) (hwait : waitsB .any ops m = true) (hbeh : behindB .any ops m = true) (hS : S w.drew)
 (hstep : AllOps (OpStepW P .any ops Q V S a) 0 (ops.toList.take m))
 (hmid : ∀ f a' w', Inv .any ops V S a (headDone m ops.size) a' w' → wpAny P .any ops Q (f + (ops.size - m)) (headDone m ops.size) a' w') : (Code.region id ops true).wp P Q a w := by
 have hno : ∀ i, ¬ Done (Array.replicate ops.size false) i := fun i h => by
  unfold Done at h
  by_cases hi : i < ops.size <;> simp [Array.getD_eq_getD_getElem?, hi] at h
 refine wp_region_any hm (wpAny_invW (V := V) (S := S) (a0 := a) (m := m) (ordB_spec' ho) (fun i j oi oj d hi hj hid hjd => (dstB_spec hd i oi d hi hid).2 j oj hj hjd) (fun i o d hi hid => (dstB_spec hd i o d hi hid).1) hmn hwait hbeh
  (fun i o him hi listed a' w' hI hdn hnd K hK => ?_) hmid _ _ _ _ ?_ (fun i _ _ => hno i) ?_)
 · have := AllOps.get hstep (i := i) (o := o) (by rw [List.getElem?_take_of_lt him]; simpa using hi)
   rw [Nat.zero_add] at this
   exact this listed a' w' hI hdn hnd K hK
 · exact ⟨by simp, hS, rfl, rfl, fun i _ _ h => absurd h (hno i), fun i _ _ _ _ h => absurd h (hno i), fun _ _ => rfl⟩
 · unfold left
   exact Nat.le_trans (List.length_filter_le _ _) (by simp)
theorem Ks.keepW {W w w' : World} {ks : List Kind} {i : Nat} (hb : Below w.heap.size w w') (j : Nat) (v : Value) (_ : j ≠ i) (h : Ks W ks j v w) : Ks W ks j v w' := Ks.keep hb j v h
section
variable {P : Program} (w : World)
theorem run_app_old (base : Nat) (t ty e : TypeId) (i : TypeInfo) (z : Value) (size bytes : Nat) (ht : P.underlying t = some (.slice e)) (hi : P.info? e = some i) (hz : i.zero = some z)
 (hsize : i.size = size) (hby : i.bytes = bytes) (hzs : z.cells.size = size) (hsz : 0 < size)
 (v : Value) (n : Nat) (xs : List Value) (hown : w.ownsRow base e size v n xs)
 (Q : Nat → Prop) (A : Option Addr) (m c : Nat) (news : List Value) (hr : Rd w Q A m size news) (h1 : ∀ u ∈ news, u.oneCell' = true)
 (h63 : n + m ≤ maxLen) (hbytes : (n + m) * bytes ≤ 140737488355328) (hbase : base ≤ w.heap.size) (hm : 0 < m) {v' : Value} {w' : World} (hrun : (Builtin.append_ #[t, t] ty #[v, .slice A m c]).run P w = .ok v' w') : w'.ownsRow base e size v n xs := by
 obtain ⟨ad, rfl, hc⟩ := hr.2 hm
 rcases hown.2 with ⟨rfl, rfl⟩ | ⟨g, cap, cur, rfl, hbg, hg, hnc, hcm, hcs, htk⟩
 · have hx : xs = [] := List.eq_nil_of_length_eq_zero (by simpa using hown.1)
   subst hx
   exact World.ownsRow_nil _ _ _ _
 · by_cases hroom : n + m ≤ cap
   · obtain ⟨w2, hrun2, h2, _⟩ := run_append_fits (P := P) w base t ty e i size ht hi hsize g n cap xs hown ad m c news hr.1 (fun j u hu => (hc.2 j u hu).1) h1 hroom
     rw [hrun] at hrun2
     simp only [Result.ok.injEq] at hrun2
     obtain ⟨rfl, rfl⟩ := hrun2
     rcases h2.2 with ⟨h3, _⟩ | ⟨g', cap', cur', h3, _, hg', _, _, hcs', htk'⟩
     · simp at h3
     · simp only [Value.slice.injEq, Option.some.injEq, Addr.mk.injEq, and_true, true_and] at h3
       obtain ⟨rfl, rfl⟩ := h3
       refine ⟨hown.1, .inr ⟨g, cap, cur', rfl, hbg, hg', hnc, hcm, hcs', ?_⟩⟩
       have hxl := hown.1
       have : cur'.toList.take (n * size) = (cur'.toList.take ((n + m) * size)).take (n * size) := by
        rw [List.take_take, Nat.min_eq_left (Nat.mul_le_mul_right _ (by omega))]
       rw [this, htk', ← hxl, List.take_left]
   · have hgrow := run_append_grow (P := P) w t ty e i z ht hi hz ⟨g, 0, none⟩ n cap xs (by rw [hsize]; exact hown.1) (fun j u hu => hown.cells (g := g) rfl j u hu) ad m c news (by rw [hsize]; exact hr.1) (fun j u hu => (hc.2 j u hu).1) (by omega) (by unfold maxLen at h63; omega) (by rw [hby]; exact growslice_fits (by omega) (by simpa using hbytes))
     obtain ⟨ob, hw⟩ : ∃ ob, w' = w.drew.alloc ob := by
      have := hrun.symm.trans hgrow
      simp only [Result.ok.injEq] at this
      exact ⟨_, this.2⟩
     have hb : Below w.heap.size w w' := by rw [hw]; exact ((Below.refl _ _).drew).alloc (Nat.le_refl _) _
     exact own_below hown hb
end
theorem JAt.mono {w : World} {D O D' O' : Nat → Prop} {J : Nat} {g : XGroup} {es : List XEntry} {gl : List Value} {css : List (List Value)} {v : Value} {bi br : Nat} (h : JAt w D O J g es gl css v bi br) (hD : ∀ q, D q → D' q) (hO : ∀ q, O q → O' q) (hdis : ∀ q, D' q → ¬ O' q) (hD2 : ∀ q, D' q → q < w.heap.size) (hO2 : ∀ q, O' q → q < w.heap.size) : JAt w D' O' J g es gl css v bi br where
 blk := h.blk
 grp := GroupC.mono h.grp hD
 len := h.len
 row := h.row
 ent := fun i x hx => by
  obtain ⟨cs, h1, h2⟩ := h.ent i x hx
  exact ⟨cs, h1, EntryC.mono h2 hD⟩
 idx := h.idx
 rev := h.rev
 oj := hO _ h.oj
 oi := hO _ h.oi
 orr := hO _ h.orr
 ov := fun q hq => hO _ (h.ov q hq)
 ne1 := h.ne1
 ne2 := h.ne2
 ne3 := h.ne3
 ne4 := h.ne4
 dis := hdis
 ltD := hD2
 ltO := hO2
 ok := h.ok
theorem JAt.same {w w' : World} {D O : Nat → Prop} {J : Nat} {g : XGroup} {es : List XEntry} {gl : List Value} {css : List (List Value)} {v : Value} {bi br : Nat} (h : JAt w D O J g es gl css v bi br) (hb : Below w.heap.size w w') : JPost D O J g es es w w' := by
 have h2 := h.below hb
 refine ⟨w'.heap.size, hb.size, Nat.le_refl _, ⟨gl, css, v, bi, br, h2.mono (fun q hq => .inl hq) (fun q hq => .inl hq) (fun q hq => ?_) (fun q hq => ?_) (fun q hq => ?_)⟩, (Fr.ofBelow hb).mono (fun q hq => hq.1)⟩
 · rintro (ho | ho)
   · rcases hq with hq | hq
     · exact h.dis q hq ho
     · have := h.ltO q ho; omega
   · omega
 · rcases hq with hq | hq
   · exact h2.ltD q hq
   · exact hq.2
 · rcases hq with hq | hq
   · exact h2.ltO q hq
   · exact hq.2
def entA (x : XEntry) (A : Option Addr) (c : Nat) : List Value := [.int .i64 x.id, .int .i64 x.entity, .int .i64 x.date, .int .i64 x.kind, .int .i64 x.of_, .string x.text, .slice A x.lines.length c]
def PC (B : Nat) (x : XEntry) (v : Value) (w : World) : Prop := ∃ A c, v = .agg (entA x A c).toArray ∧ ListC LineC 3 w (fun q => B ≤ q ∧ q < w.heap.size) [.slice A x.lines.length c] x.lines
def PS (B : Nat) (x : XEntry) (v : Value) (w : World) : Prop := ∃ gq A c, v = .slice (some ⟨gq, 0, none⟩) 1 1 ∧ B ≤ gq ∧ w.heap[gq]? = some (.cells (entA x A c).toArray 46 (0, 0)) ∧ ListC LineC 3 w (fun q => B ≤ q ∧ q < w.heap.size) [.slice A x.lines.length c] x.lines
def PA (V : World) (v0 : Value) (n : Nat) (cf : List Value) (x : XEntry) (v : Value) (w : World) : Prop := ∃ W3 A c, Fr (fun q => q < V.heap.size ∧ v0.ownBlock ≠ some q) V W3 ∧ ListC LineC 3 W3 (fun q => V.heap.size ≤ q ∧ q < W3.heap.size) [.slice A x.lines.length c] x.lines ∧ w.ownsRow 0 46 7 v (n + 1) (cf ++ entA x A c) ∧ W3.grownBy w v0.ownBlock ∧ (v.ownBlock = v0.ownBlock ∨ v.ownBlock = some W3.heap.size)
theorem lines_fr2 {w w' : World} {B : Nat} {cs : List Value} {l : List XLine} (h : ListC LineC 3 w (fun q => B ≤ q ∧ q < w.heap.size) cs l) (hf : Fr (fun q => B ≤ q ∧ q < w.heap.size) w w') : ListC LineC 3 w' (fun q => B ≤ q ∧ q < w'.heap.size) cs l :=
 (h.fr (fun h => LineC.fr h hf) hf).mono (fun h => LineC.mono h (fun q hq => ⟨hq.1, Nat.lt_of_lt_of_le hq.2 hf.size⟩)) (fun q hq => ⟨hq.1, Nat.lt_of_lt_of_le hq.2 hf.size⟩)
theorem lines_up {w w' : World} {B : Nat} {cs : List Value} {l : List XLine} (h : ListC LineC 3 w (fun q => B ≤ q ∧ q < w.heap.size) cs l) (hb : Below w.heap.size w w') : ListC LineC 3 w' (fun q => B ≤ q ∧ q < w'.heap.size) cs l := lines_fr2 h ((Fr.ofBelow hb).mono (fun q hq => hq.2))
theorem PC.keep (B : Nat) (x : XEntry) : ∀ v w w', Below w.heap.size w w' → PC B x v w → PC B x v w' := fun v w w' hb ⟨A, c, e, h⟩ => ⟨A, c, e, lines_up h hb⟩
theorem PS.keep (B : Nat) (x : XEntry) : ∀ v w w', Below w.heap.size w w' → PS B x v w → PS B x v w' := fun v w w' hb ⟨gq, A, c, e, h1, h2, h⟩ => ⟨gq, A, c, e, h1, (hb.block gq (blk_lt h2)).trans h2, lines_up h hb⟩
theorem PA.keep (V : World) (v0 : Value) (n : Nat) (cf : List Value) (x : XEntry) : ∀ v w w', Below w.heap.size w w' → PA V v0 n cf x v w → PA V v0 n cf x v w' := fun v w w' hb ⟨W3, A, c, h1, h2, h3, h4, h5⟩ => ⟨W3, A, c, h1, h2, own_below h3 hb, h4.andThen ((grown_of_below hb).but _) (fun j hj => .inr hj), h5⟩
theorem PC.grow {B : Nat} {x : XEntry} {v : Value} {w w' : World} {row : Option Nat} (h : PC B x v w) (hg : w.grownBy w' row) (hr : ∀ q, row = some q → q < B) : PC B x v w' := by
 obtain ⟨A, c, e, h⟩ := h
 exact ⟨A, c, e, lines_fr2 h ⟨hg.os, hg.tape, hg.output, hg.size, fun q hq => hg.block q hq.2 (fun e => by have := hr q e.symm; omega)⟩⟩
theorem PS.grow {B : Nat} {x : XEntry} {v : Value} {w w' : World} {row : Option Nat} (h : PS B x v w) (hg : w.grownBy w' row) (hr : ∀ q, row = some q → q < B) : PS B x v w' := by
 obtain ⟨gq, A, c, e, h1, h2, h⟩ := h
 exact ⟨gq, A, c, e, h1, (hg.block gq (blk_lt h2) (fun e => by have := hr gq e.symm; omega)).trans h2, lines_fr2 h ⟨hg.os, hg.tape, hg.output, hg.size, fun q hq => hg.block q hq.2 (fun e => by have := hr q e.symm; omega)⟩⟩
theorem JPost.of {w V W3 W5 : World} {D O : Nat → Prop} {J : Nat} {g : XGroup} {es es' : List XEntry} {gl : List Value} {css : List (List Value)} {v : Value} {bi br : Nat} (hb : Below w.heap.size w V) (h : JAt W5 (fun q => D q ∨ (V.heap.size ≤ q ∧ q < W3.heap.size)) (fun q => O q ∨ (W3.heap.size ≤ q ∧ q < W5.heap.size)) J g es' gl css v bi br)
 (hf : Fr (fun q => q < V.heap.size ∧ ¬ O q) V W5) (h1 : V.heap.size ≤ W3.heap.size) (h2 : W3.heap.size ≤ W5.heap.size) (hO : ∀ q, O q → q < w.heap.size) : JPost D O J g es es' w W5 := by
 have hs := hb.size
 refine ⟨W3.heap.size, by omega, h2, ⟨gl, css, v, bi, br, h.mono (fun q hq => hq.elim .inl (fun hq => .inr ⟨by omega, hq.2⟩)) (fun q hq => hq) (fun q hq ho => ?_) (fun q hq => ?_) h.ltO⟩, ((Fr.ofBelow hb).mono (fun q hq => hq.1)).trans (hf.mono (fun q hq => ⟨by omega, hq.2⟩))⟩
 · rcases hq with hq | hq
   · exact h.dis q (.inl hq) ho
   · rcases ho with ho | ho
     · have := hO q ho; omega
     · omega
 · rcases hq with hq | hq
   · exact h.ltD q (.inl hq)
   · omega
end Go.Proofs.YtekelchdbkjjjaaGreat
