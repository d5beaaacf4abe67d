/- A copy of an entry. Written by gen_i6.py. -/
import Derived.Test.YtebdajkknkapcaaG4xB0B6
import Derived.Test.YtebdajkknkapcaaG4xB7B13
import Derived.Test.YtebdajkknkapcaaG4xB14
import Derived.Test.YtebdajkknkapcaaG4xB15S0
import Derived.Test.YtebdajkknkapcaaG4xB21B27
import Derived.Test.YtebdajkknkapcaaG4xB28S2
import Derived.Test.YtebdajkknkapcaaG4xS3C3
import Derived.Test.YtebdajkknkapcaaG4xC4E5
import Derived.Test.YtebdajkknkapcaaG4xE6I5
import Derived.Test.YtebdajkknkapcaaProg
namespace Go.Proofs.Ytebdajkknkapcaa
open Go Go.RowKit
set_option linter.unusedVariables false
set_option linter.unusedSimpArgs false
set_option maxRecDepth 4000
attribute [local go_sem ↓] Go.wp_at_zero Go.wp_at_succ
/-- What a copy of an entry leaves: the lines are new. -/
def CopyPost (x : XEntry) (w : World) (e : Ending) (w' : World) : Prop := ∃ A c, e = .returned (.agg #[.int .i64 x.id, .int .i64 x.entity, .int .i64 x.date, .int .i64 x.kind, .int .i64 x.of_, .string x.text, .slice A x.lines.length c]) ∧
  ListC LineC 3 w' (fun q => w.heap.size ≤ q ∧ q < w'.heap.size) [.slice A x.lines.length c] x.lines ∧ Below w.heap.size w w'
theorem own_listL {l : List XLine} {w : World} {Q : Nat → Prop} {base : Nat} {v : Value} (h : w.ownsRow base 64 3 v l.length (l.flatMap lineL)) (hb : ∀ x ∈ l, lineBd x) (hQ : ∀ g, v.ownBlock = some g → Q g) : ListC LineC 3 w Q [v] l :=
  own_list (css := l.map lineL) (fun cs hc => by obtain ⟨x, _, rfl⟩ := List.mem_map.1 hc; rfl) (by rw [← List.flatMap_def]; exact h)
    (fun i x hi => ⟨lineL x, by rw [List.getElem?_map, hi]; rfl, [_], [_], [_], rfl, ⟨rfl, (hb x (List.mem_of_getElem? hi)).1⟩, ⟨rfl, (hb x (List.mem_of_getElem? hi)).2.1⟩, ⟨rfl, (hb x (List.mem_of_getElem? hi)).2.2⟩⟩) hQ
theorem lines_bd {l : List XLine} {w : World} {Q : Nat → Prop} {A : Option Addr} {n c : Nat} (h : ListC LineC 3 w Q [.slice A n c] l) : ∀ x ∈ l, lineBd x := fun x hx => by
  obtain ⟨cs, h1⟩ := h.elt hx
  exact (LineC.lit h1).2
set_option maxHeartbeats 2000000 in
theorem copied_c (xi xe xd xk xo : Int) (xt : ByteArray) (ls : List XLine) (Al : Option Addr) (cl : Nat) (w : World) (hl : ListC LineC 3 w (· < w.heap.size) [.slice Al ls.length cl] ls) (hn : ls.length ≤ 100000) : Calls Try.prog 65 #[.agg #[.int .i64 xi, .int .i64 xe, .int .i64 xd, .int .i64 xk, .int .i64 xo, .string xt, .slice Al ls.length cl]] w (CopyPost ⟨xi, xe, xd, xk, xo, xt, ls⟩ w) := by
  have HL := Lib.hid hl
  obtain ⟨nl, hnl⟩ : ∃ n, ls.length = n := ⟨_, rfl⟩
  have HN := Lib.hid hnl
  rw [hnl] at hn ⊢
  have HRD := Lib.hid (show Rd w (· < w.heap.size) Al nl 3 (ls.flatMap lineL) by rw [← hnl]; exact rd_list (fun cs x h => (LineC.lit h).1) (fun _ => rfl) (by omega) hl)
  obtain ⟨fl, hfl⟩ : ∃ f, ls.flatMap lineL = f := ⟨_, rfl⟩
  have HFL := Lib.hid hfl
  rw [hfl] at HRD
  have HONE := Lib.hid (show ∀ u ∈ fl, u.oneCell' = true from hfl ▸ flat_one ls)
  clear hl hnl hfl
  go_enter Try.func65, Try.ntmps65
  go_upto_region 1 with fail
  have H := heap_alloc_new w (.cells #[.int .i64 xi, .int .i64 xe, .int .i64 xd, .int .i64 xk, .int .i64 xo, .string xt, .slice Al nl cl] 42)
  have HB := below1 w (.cells #[.int .i64 xi, .int .i64 xe, .int .i64 xd, .int .i64 xk, .int .i64 xo, .string xt, .slice Al nl cl] 42)
  have HS : w.heap.size < (w.alloc (.cells #[.int .i64 xi, .int .i64 xe, .int .i64 xd, .int .i64 xk, .int .i64 xo, .string xt, .slice Al nl cl] 42)).heap.size := blk_lt H
  generalize hW : w.alloc (Obj.cells #[.int .i64 xi, .int .i64 xe, .int .i64 xd, .int .i64 xk, .int .i64 xo, .string xt, .slice Al nl cl] 42) = W at *
  have H2 := heap_alloc_new W (.cells #[.int .i64 0, .int .i64 0, .int .i64 0, .int .i64 0, .int .i64 0, .string ⟨#[]⟩, .slice none 0 0] 42)
  have HB2 := below1 W (.cells #[.int .i64 0, .int .i64 0, .int .i64 0, .int .i64 0, .int .i64 0, .string ⟨#[]⟩, .slice none 0 0] 42)
  have HS2 : W.heap.size < (W.alloc (.cells #[.int .i64 0, .int .i64 0, .int .i64 0, .int .i64 0, .int .i64 0, .string ⟨#[]⟩, .slice none 0 0] 42)).heap.size := blk_lt H2
  replace H := alloc_keep H (Obj.cells #[.int .i64 0, .int .i64 0, .int .i64 0, .int .i64 0, .int .i64 0, .string ⟨#[]⟩, .slice none 0 0] 42)
  generalize hW2 : W.alloc (Obj.cells #[.int .i64 0, .int .i64 0, .int .i64 0, .int .i64 0, .int .i64 0, .string ⟨#[]⟩, .slice none 0 0] 42) = W2 at *
  clear hW2
  have eW : W.heap.size = w.heap.size + 1 := by rw [← hW]; simp
  rw [eW] at H2
  clear hW
  have hb2 := HB.trans (HB2.mono HB.size)
  have hs2 := HB2.size
  have LT1 := blk_lt H2
  have LT0 : w.heap.size < W2.heap.size := by omega
  have HH := Lib.hid H
  have HZ := Lib.hid H2
  have EW := Lib.hid eW
  clear H H2 eW
  have c6 := blk_cell HH.out 6
  go_wp2_with fail
  refine (cloneL_c Al nl cl fl W2 ((HRD.out.fr (Fr.ofBelow hb2)).mono (fun q (hq : q < w.heap.size) => Nat.lt_of_lt_of_le hq hb2.size)) HONE.out hn).mono ?_
  rintro e w3 ⟨v, rfl, hown, hb3⟩
  have hb02 := hb2
  have LT02 := LT0
  have LT12 := LT1
  have HH2 := HH
  have HZ2 := HZ
  have hb03 := hb02.trans (hb3.mono hb02.size)
  have hs3 := hb3.size
  have LT03 := Nat.lt_of_lt_of_le LT02 hs3
  have LT13 := Nat.lt_of_lt_of_le LT12 hs3
  have HH3 := Lib.hid ((hb3.block _ LT02).trans HH2.out)
  have HZ3 := Lib.hid ((hb3.block _ LT12).trans HZ2.out)
  obtain ⟨A9, n9, c9, rfl⟩ := own_shape hown
  have HOWN := Lib.hid hown
  have s6 := blk_cell HH3.out 6
  have s7 := blk_frozen HH3.out 6
  clear hown c6
  go_upto_region 2 with fail
  have H4 := heap_setCell_same HH3.out 6 (.slice A9 n9 c9)
  have HB4 := (Below.refl W2.heap.size w3)
  have hb4 : Below w.heap.size w (w3.setCell ⟨w.heap.size, 6, none⟩ (.slice A9 n9 c9)) := hb03.setCell (p := ⟨w.heap.size, 6, none⟩) (Nat.le_refl _) _
  have HZ4 := (Below.heap_setCell w3 ⟨w.heap.size, 6, none⟩ (.slice A9 n9 c9) (w.heap.size + 1) (by show w.heap.size + 1 ≠ w.heap.size; omega)).trans HZ3.out
  have HO4 := own_same (w' := w3.setCell ⟨w.heap.size, 6, none⟩ (.slice A9 n9 c9)) HOWN.out (fun g hg => Below.heap_setCell w3 ⟨w.heap.size, 6, none⟩ _ g (by show g ≠ w.heap.size; have := (HOWN.out.lt _ hg).1; omega))
  generalize w3.setCell ⟨w.heap.size, 6, none⟩ (.slice A9 n9 c9) = W4 at *
  have HK4 := Lib.hid (show W4.heap[w.heap.size]? = some (.cells #[.int .i64 xi, .int .i64 xe, .int .i64 xd, .int .i64 xk, .int .i64 xo, .string xt, .slice A9 n9 c9] 42 (0, 0)) from H4)
  have HZR := Lib.hid HZ4
  have HOW4 := Lib.hid HO4
  have HBW := Lib.hid hb4
  clear H4 HZ4 HO4 hb4 s6 s7 HB4
  go_wp2_with (first | (show wpList _ _ _ (Oper.mk (some 7) _ _ _ _ _ :: _) _ _; refine wpList_load_row_g rfl 42 (.tmp 1) rfl w.heap.size rfl _ _ _ _ HK4.out Try.underlying42 rfl info_entry ?_) | (show wpList _ _ _ (Oper.mk none (Op.store _ (Operand.tmp 2) _) _ _ _ _ :: _) _ _; refine wpList_store_row rfl 42 (.tmp 2) (.tmp 7) rfl (w.heap.size + 1) #[.int .i64 xi, .int .i64 xe, .int .i64 xd, .int .i64 xk, .int .i64 xo, .string xt, .slice A9 n9 c9] rfl rfl 42 #[.int .i64 0, .int .i64 0, .int .i64 0, .int .i64 0, .int .i64 0, .string ⟨#[]⟩, .slice none 0 0] HZR.out (by rw [info_entry]; rfl) rfl (by simp [Value.oneCell']) ?_))
  refine bodyPost_ret (v := _) (results_cell rfl _ _ (w.heap.size + 1) 42 _ (0, 0) _ rfl (heap_setRow HZR.out _) Try.underlying42 rfl info_entry) rfl ?_
  have hfr2 := fr_setRow W4 (w.heap.size + 1) #[.int .i64 xi, .int .i64 xe, .int .i64 xd, .int .i64 xk, .int .i64 xo, .string xt, .slice A9 n9 c9]
  have hss : (W4.setRow (w.heap.size + 1) #[.int .i64 xi, .int .i64 xe, .int .i64 xd, .int .i64 xk, .int .i64 xo, .string xt, .slice A9 n9 c9]).heap.size = W4.heap.size := by simp
  have hk3 := own_same (w' := W4.setRow (w.heap.size + 1) #[.int .i64 xi, .int .i64 xe, .int .i64 xd, .int .i64 xk, .int .i64 xo, .string xt, .slice A9 n9 c9]) HOW4.out (fun g hg => hfr2.block g (by show g ≠ w.heap.size + 1; have := (HOWN.out.lt _ hg).1; omega))
  rw [← HFL.out, ← HN.out] at hk3
  have hL := own_listL (Q := fun q => w.heap.size ≤ q ∧ q < (W4.setRow (w.heap.size + 1) #[.int .i64 xi, .int .i64 xe, .int .i64 xd, .int .i64 xk, .int .i64 xo, .string xt, .slice A9 n9 c9]).heap.size) hk3 (lines_bd HL.out) (fun g hg => ⟨by have := (HOWN.out.lt _ hg).1; omega, (hk3.lt _ hg).2⟩)
  obtain rfl : n9 = ls.length := by
    obtain ⟨_, _, e, _⟩ := hL
    simp only [List.cons.injEq, and_true, Value.slice.injEq] at e
    exact e.2.1
  exact ⟨A9, c9, rfl, hL, below_setRow HBW.out (by omega) _⟩
end Go.Proofs.Ytebdajkknkapcaa
/- A copy of a group; a new journal. Written by gen_i7.py. -/
namespace Go.Proofs.Ytebdajkknkapcaa
open Go Go.RowKit
set_option linter.unusedVariables false
set_option linter.unusedSimpArgs false
set_option maxRecDepth 4000
attribute [local go_sem ↓] Go.wp_at_zero Go.wp_at_succ
def GCopyPost (g : XGroup) (w : World) (e : Ending) (w' : World) : Prop := ∃ gl : List Value, e = .returned (.agg gl.toArray) ∧ GroupC w' (fun q => w.heap.size ≤ q ∧ q < w'.heap.size) gl g ∧ Below w.heap.size w w'
/-- A row that a call has made. -/
def IsRow (W : World) (T : TypeId) (size n : Nat) (xs : List Value) (v : Value) (w : World) : Prop := w.ownsRow W.heap.size T size v n xs
theorem IsRow.keep (W : World) (T : TypeId) (size n : Nat) (xs : List Value) : ∀ v w w', Below w.heap.size w w' → IsRow W T size n xs v w → IsRow W T size n xs v w' := fun v w w' hb h => own_below h hb
def QE (B gE n i k q : Nat) : Prop := (i < k ∧ gE < q ∧ q < n) ∨ (¬ i < k ∧ q < B)
/-- The entities of a group that is being copied: the first k are new. -/
def EntsAt (es : List XEntity) (B gE k : Nat) (w : World) : Prop := ∀ i (h : i < es.length), ∃ cs, EntityC w (QE B gE w.heap.size i k) cs es[i] ∧ At w (fun q => q = gE) ⟨gE, i * 5, none⟩ cs
theorem EntsAt.fr {es : List XEntity} {B gE k : Nat} {w w' : World} (h : EntsAt es B gE k w) (hg : B ≤ gE) (hgw : gE < w.heap.size) (hb : Below w.heap.size w w') : EntsAt es B gE k w' := fun i hi => by
  obtain ⟨cs, h1, h2⟩ := h i hi
  refine ⟨cs, ?_, h2.fr ((Fr.ofBelow hb).mono (fun q hq => by subst hq; exact hgw))⟩
  have hsz := hb.size
  exact EntityC.mono (EntityC.fr h1 ((Fr.ofBelow hb).mono (fun q hq => by unfold QE at hq; omega))) (fun q hq => by unfold QE at hq ⊢; omega)
theorem set_other (w : World) (b p o : Nat) (u : Value) (h : p ≠ o) : (w.setCell ⟨b, p, none⟩ u).cell? ⟨b, o, none⟩ = w.cell? ⟨b, o, none⟩ := World.cell?_setCell_other _ _ _ _ (fun e => h (by injection e))
theorem set_same {w : World} {b o : Nat} {u v : Value} (h : w.cell? ⟨b, o, none⟩ = some v) : (w.setCell ⟨b, o, none⟩ u).cell? ⟨b, o, none⟩ = some u := World.cell?_setCell_same _ _ _ h
theorem at_set {w : World} {b o p : Nat} {cs : List Value} {u : Value} (h : At w (fun q => q = b) ⟨b, o, none⟩ cs) (hp : p < o ∨ o + cs.length ≤ p) : At (w.setCell ⟨b, p, none⟩ u) (fun q => q = b) ⟨b, o, none⟩ cs :=
  ⟨rfl, fun j x hj => by
    have hl := (List.getElem?_eq_some_iff.1 hj).1
    obtain ⟨h1, h2⟩ := h.2 j x hj
    rw [Addr.add_lit] at h1 h2 ⊢
    refine ⟨?_, ?_⟩
    · rw [← h1]; exact World.cell?_setCell_other _ _ _ _ (fun e => by injection e; omega)
    · rw [← h2]; exact World.frozen?_setCell _ _ _ _⟩
theorem own_listF {α : Type} {El : World → (Nat → Prop) → List Value → α → Prop} {f : α → List Value} {size : Nat} {l : List α} {w : World} {Q : Nat → Prop} {base : Nat} {T : TypeId} {v : Value} (hf : ∀ x, (f x).length = size) (h : w.ownsRow base T size v l.length (l.flatMap f)) (hE : ∀ x ∈ l, El w Q (f x) x) (hQ : ∀ g, v.ownBlock = some g → Q g) : ListC El size w Q [v] l :=
  own_list (css := l.map f) (fun cs hc => by obtain ⟨x, _, rfl⟩ := List.mem_map.1 hc; exact hf x) (by rw [← List.flatMap_def]; exact h)
    (fun i x hi => ⟨f x, by rw [List.getElem?_map, hi]; rfl, hE x (List.mem_of_getElem? hi)⟩) hQ
theorem accs_bd {l : List XAccount} {w : World} {Q : Nat → Prop} {A : Option Addr} {n c : Nat} (h : ListC AccountC 4 w Q [.slice A n c] l) : ∀ x ∈ l, accB x := fun x hx => by
  obtain ⟨cs, h1⟩ := h.elt hx
  exact (AccountC.lit h1).2
theorem links_bd {l : List XLink} {w : World} {Q : Nat → Prop} {A : Option Addr} {n c : Nat} (h : ListC LinkC 3 w Q [.slice A n c] l) : ∀ x ∈ l, linkBd x := fun x hx => by
  obtain ⟨cs, h1⟩ := h.elt hx
  exact (LinkC.lit h1).2
theorem own_val {w : World} {base : Nat} {T : TypeId} {size n m c : Nat} {A : Option Addr} {xs : List Value} (h : w.ownsRow base T size (.slice A m c) n xs) : m = n := by
  rcases h.2 with ⟨e, h0⟩ | ⟨g, cap, cur, e, _⟩
  · injection e with _ e2 _; omega
  · injection e with _ e2 _
/-- One entity more is new. -/
theorem EntsAt.step {es : List XEntity} {B gE k : Nat} {w : World} (h : EntsAt es B gE k w) (hg : B ≤ gE) (hgw : gE < w.heap.size) (hk : k < es.length) {A1 A2 : Option Addr} {c1 c2 : Nat}
    (h1 : w.ownsRow (gE + 1) 152 4 (.slice A1 es[k].chart.length c1) es[k].chart.length (es[k].chart.flatMap accL)) (b1 : ∀ x ∈ es[k].chart, accB x)
    (h2 : w.ownsRow (gE + 1) 161 3 (.slice A2 es[k].links.length c2) es[k].links.length (es[k].links.flatMap linkL)) (b2 : ∀ x ∈ es[k].links, linkBd x) :
    EntsAt es B gE (k + 1) ((w.setCell ⟨gE, k * 5 + 2, none⟩ (.slice A1 es[k].chart.length c1)).setCell ⟨gE, k * 5 + 3, none⟩ (.slice A2 es[k].links.length c2)) := by
  have hf : Fr (fun q => q ≠ gE) w ((w.setCell ⟨gE, k * 5 + 2, none⟩ (.slice A1 es[k].chart.length c1)).setCell ⟨gE, k * 5 + 3, none⟩ (.slice A2 es[k].links.length c2)) :=
    ((Fr.refl _ _).setCell (p := ⟨gE, k * 5 + 2, none⟩) (by simp) _).setCell (p := ⟨gE, k * 5 + 3, none⟩) (by simp) _
  intro i hi
  obtain ⟨cs, k1, k2⟩ := h i hi
  have hl := k1.len
  rcases Nat.lt_trichotomy i k with hik | rfl | hik
  · refine ⟨cs, ?_, at_set (at_set k2 (.inr (by rw [hl]; omega))) (.inr (by rw [hl]; omega))⟩
    have hsz := hf.size
    exact EntityC.mono (EntityC.fr k1 (hf.mono fun q hq => by unfold QE at hq; omega)) (fun q hq => by unfold QE at hq ⊢; omega)
  · obtain ⟨Ec, c3, Al, cl, rfl, _, _⟩ := EntityC.lit k1
    have hsz := hf.size
    have q1 : ∀ g, Value.ownBlock (.slice A1 es[i].chart.length c1) = some g → g ≠ gE ∧ g < w.heap.size ∧ gE < g := fun g hg' => by have := h1.lt _ hg'; omega
    have q2 : ∀ g, Value.ownBlock (.slice A2 es[i].links.length c2) = some g → g ≠ gE ∧ g < w.heap.size ∧ gE < g := fun g hg' => by have := h2.lt _ hg'; omega
    refine ⟨entL es[i].name es[i].currency A1 es[i].chart.length c1 A2 es[i].links.length c2 es[i].joint, ?_, rfl, fun j u hj => ?_⟩
    · refine EntityC.mk ?_ ?_
      · exact own_listF (fun _ => rfl) (own_same h1 (fun g hg' => hf.block g (q1 g hg').1)) (fun x hx => accC_of (b1 x hx)) (fun g hg' => by have := q1 g hg'; unfold QE; omega)
      · exact own_listF (fun _ => rfl) (own_same h2 (fun g hg' => hf.block g (q2 g hg').1)) (fun x hx => linkC_of (b2 x hx)) (fun g hg' => by have := q2 g hg'; unfold QE; omega)
    · rw [Addr.add_lit]
      have hj5 : j < 5 := (List.getElem?_eq_some_iff.1 hj).1
      have hold := fun (j : Nat) (u : Value) (hj : (entL es[i].name es[i].currency Ec es[i].chart.length c3 Al es[i].links.length cl es[i].joint)[j]? = some u) => k2.2 j u hj
      simp only [Addr.add_lit] at hold
      have hfz : ∀ p : Addr, ((w.setCell ⟨gE, i * 5 + 2, none⟩ (.slice A1 es[i].chart.length c1)).setCell ⟨gE, i * 5 + 3, none⟩ (.slice A2 es[i].links.length c2)).frozen? p = w.frozen? p := fun p => by simp
      have hj' : j = 0 ∨ j = 1 ∨ j = 2 ∨ j = 3 ∨ j = 4 := by omega
      rcases hj' with rfl | rfl | rfl | rfl | rfl
      · obtain rfl := Option.some.inj hj
        obtain ⟨h3, h4⟩ := hold 0 _ rfl
        exact ⟨(set_other _ _ _ _ _ (by omega)).trans ((set_other _ _ _ _ _ (by omega)).trans h3), by rw [hfz]; exact h4⟩
      · obtain rfl := Option.some.inj hj
        obtain ⟨h3, h4⟩ := hold 1 _ rfl
        exact ⟨(set_other _ _ _ _ _ (by omega)).trans ((set_other _ _ _ _ _ (by omega)).trans h3), by rw [hfz]; exact h4⟩
      · obtain rfl := Option.some.inj hj
        obtain ⟨h3, h4⟩ := hold 2 _ rfl
        exact ⟨(set_other _ _ _ _ _ (by omega)).trans (set_same h3), by rw [hfz]; exact h4⟩
      · obtain rfl := Option.some.inj hj
        obtain ⟨h3, h4⟩ := hold 3 _ rfl
        exact ⟨set_same ((set_other _ _ _ _ _ (by omega)).trans h3), by rw [hfz]; exact h4⟩
      · obtain rfl := Option.some.inj hj
        obtain ⟨h3, h4⟩ := hold 4 _ rfl
        exact ⟨(set_other _ _ _ _ _ (by omega)).trans ((set_other _ _ _ _ _ (by omega)).trans h3), by rw [hfz]; exact h4⟩
  · refine ⟨cs, ?_, at_set (at_set k2 (.inl (by omega))) (.inl (by omega))⟩
    exact EntityC.mono (EntityC.fr k1 (hf.mono fun q hq => by unfold QE at hq; omega)) (fun q hq => by unfold QE at hq ⊢; omega)
end Go.Proofs.Ytebdajkknkapcaa
/- The walk of journal.groupCopy. Written by gen_i8.py. -/
namespace Go.Proofs.Ytebdajkknkapcaa
open Go Go.RowKit
set_option linter.unusedVariables false
set_option linter.unusedSimpArgs false
set_option maxRecDepth 4000
attribute [local go_sem ↓] Go.wp_at_zero Go.wp_at_succ
theorem set2 {c0 c1 c3 : List Value} (a b a' b' : Value) (l0 : c0.length = 1) (l1 : c1.length = 3) (l3 : c3.length = 15) : ((c0 ++ c1 ++ [a] ++ c3 ++ [b]).set 4 a').set 20 b' = c0 ++ c1 ++ [a'] ++ c3 ++ [b'] := by
  simp [List.set_append, l0, l1, l3]
theorem grp_one {w : World} {Q : Nat → Prop} {cs : List Value} {g : XGroup} (h : GroupC w Q cs g) : ∀ u ∈ cs, u.oneCell' = true := fun u hu => by
  obtain ⟨Ac, cc, Ae, ce, rfl, _⟩ := h.lit
  simp only [grpL, List.mem_cons, List.mem_append, List.not_mem_nil, or_false] at hu
  rcases hu with rfl | rfl | rfl | rfl | rfl | rfl | rfl | rfl | rfl | rfl | rfl | rfl | rfl | rfl | rfl | rfl | rfl | rfl | rfl | rfl | rfl <;> rfl
theorem Ks.cells {W w w' : World} {ks : List Kind} {b : Nat} (hb : b < W.heap.size) (hw : ∀ q, q ≠ b → w'.heap[q]? = w.heap[q]?) (hks : ∀ k ∈ ks, (∃ u, k = .val u) ∨ ∃ T size n xs, k = .own (IsRow W T size n xs) (IsRow.keep W T size n xs)) (i : Nat) (v : Value) (h : Ks W ks i v w) : Ks W ks i v w' := fun k hk => by
  have h1 := h k hk
  rcases hks k (List.mem_of_getElem? hk) with ⟨u, rfl⟩ | ⟨T, size, n, xs, rfl⟩
  · exact h1
  · exact own_same (show w.ownsRow W.heap.size T size v n xs from h1) (fun g hg => hw g (by have := ((show w.ownsRow W.heap.size T size v n xs from h1).lt _ hg).1; omega))
set_option maxHeartbeats 4000000 in
theorem groupCopy_c (g : XGroup) (gl : List Value) (w : World) (hg : GroupC w (· < w.heap.size) gl g) (hsm : smallG g) (hpos : 0 < g.entities.length) : Calls Try.prog 106 #[.agg gl.toArray] w (GCopyPost g w) := by
  obtain ⟨c0, c1, Ac, cc, c3, Ae, ce, hgl, l0, l1, l3, hch, hen, hbuild⟩ := hg.parts
  have HBUILD := Lib.hid hbuild
  have HCH := Lib.hid hch
  have HEN := Lib.hid hen
  obtain ⟨css, hcl, hc5, hcE, hrd⟩ := rd_css (fun cs x h => EntityC.len h) (by omega) hen
  have hone := css_one (fun cs x h => ent_one h) hcl hcE
  have HCE := Lib.hid hcE
  have HC5 := Lib.hid hc5
  obtain ⟨nc, hnc⟩ : ∃ n, g.chart.length = n := ⟨_, rfl⟩
  obtain ⟨ne, hne⟩ : ∃ n, g.entities.length = n := ⟨_, rfl⟩
  have HNC := Lib.hid hnc
  have HNE := Lib.hid hne
  have hlen : gl.length = 21 := hg.len
  have g4 : gl[4]? = some (.slice Ac nc cc) := by rw [hgl, ← hnc]; simp [List.getElem?_append, l0, l1, l3]
  have g20 : gl[20]? = some (.slice Ae ne ce) := by rw [hgl, ← hne]; simp [List.getElem?_append, l0, l1, l3]
  have HGL := Lib.hid hgl
  have HL0 := Lib.hid l0
  have HL1 := Lib.hid l1
  have HL3 := Lib.hid l3
  have HLEN := Lib.hid hlen
  have HG4 := Lib.hid (show gl.toArray[4]? = some (.slice Ac nc cc) by simpa using g4)
  have HG20 := Lib.hid (show gl.toArray[20]? = some (.slice Ae ne ce) by simpa using g20)
  have hn1 : nc ≤ 100000 := by rw [← hnc]; have := hsm.1; omega
  have hn2 : ne ≤ 100000 := by rw [← hne]; have := hsm.2.1; omega
  have hp : 0 < ne := by rw [← hne]; exact hpos
  have HSM := Lib.hid hsm
  have HRA := Lib.hid (show Rd w (· < w.heap.size) Ac nc 4 (g.chart.flatMap accL) by rw [← hnc]; exact rd_list (fun cs x h => (AccountC.lit h).1) (fun _ => rfl) (by omega) hch)
  obtain ⟨fa, hfa⟩ : ∃ f, g.chart.flatMap accL = f := ⟨_, rfl⟩
  have HFA := Lib.hid hfa
  rw [hfa] at HRA
  have HA1 := Lib.hid (show ∀ u ∈ fa, u.oneCell' = true from hfa ▸ acc_one g.chart)
  rw [hne] at hrd
  obtain ⟨fe, hfe⟩ : ∃ f, css.flatten = f := ⟨_, rfl⟩
  have HFE := Lib.hid hfe
  rw [hfe] at hrd hone
  have HRE := Lib.hid hrd
  have HE1 := Lib.hid hone
  have HGO := Lib.hid (grp_one hg)
  clear hbuild hch hen hcE hc5 hone hrd hnc hne g4 g20 hgl l0 l1 l3 hlen hsm hpos hfa hfe hg hcl
  go_enter Try.func106, Try.ntmps106
  go_upto_region 1 with fail
  have H := heap_alloc_new w (.cells gl.toArray 29)
  have HB := below1 w (.cells gl.toArray 29)
  have HS : w.heap.size < (w.alloc (.cells gl.toArray 29)).heap.size := blk_lt H
  generalize hW : w.alloc (Obj.cells gl.toArray 29) = W at *
  have H2 := heap_alloc_new W (.cells #[.string ⟨#[]⟩, .int .i64 0, .int .i64 0, .int .i64 0, .slice none 0 0, .int .i64 0, .int .i64 0, .int .i64 0, .int .i64 0, .int .i64 0, .int .i64 0, .int .i64 0, .int .i64 0, .int .i64 0, .int .i64 0, .int .i64 0, .int .i64 0, .int .i64 0, .int .i64 0, .int .i64 0, .slice none 0 0] 29)
  have HB2 := below1 W (.cells #[.string ⟨#[]⟩, .int .i64 0, .int .i64 0, .int .i64 0, .slice none 0 0, .int .i64 0, .int .i64 0, .int .i64 0, .int .i64 0, .int .i64 0, .int .i64 0, .int .i64 0, .int .i64 0, .int .i64 0, .int .i64 0, .int .i64 0, .int .i64 0, .int .i64 0, .int .i64 0, .int .i64 0, .slice none 0 0] 29)
  have HS2 : W.heap.size < (W.alloc (.cells #[.string ⟨#[]⟩, .int .i64 0, .int .i64 0, .int .i64 0, .slice none 0 0, .int .i64 0, .int .i64 0, .int .i64 0, .int .i64 0, .int .i64 0, .int .i64 0, .int .i64 0, .int .i64 0, .int .i64 0, .int .i64 0, .int .i64 0, .int .i64 0, .int .i64 0, .int .i64 0, .int .i64 0, .slice none 0 0] 29)).heap.size := blk_lt H2
  replace H := alloc_keep H (Obj.cells #[.string ⟨#[]⟩, .int .i64 0, .int .i64 0, .int .i64 0, .slice none 0 0, .int .i64 0, .int .i64 0, .int .i64 0, .int .i64 0, .int .i64 0, .int .i64 0, .int .i64 0, .int .i64 0, .int .i64 0, .int .i64 0, .int .i64 0, .int .i64 0, .int .i64 0, .int .i64 0, .int .i64 0, .slice none 0 0] 29)
  generalize hW2 : W.alloc (Obj.cells #[.string ⟨#[]⟩, .int .i64 0, .int .i64 0, .int .i64 0, .slice none 0 0, .int .i64 0, .int .i64 0, .int .i64 0, .int .i64 0, .int .i64 0, .int .i64 0, .int .i64 0, .int .i64 0, .int .i64 0, .int .i64 0, .int .i64 0, .int .i64 0, .int .i64 0, .int .i64 0, .int .i64 0, .slice none 0 0] 29) = W2 at *
  clear hW2
  have eW : W.heap.size = w.heap.size + 1 := by rw [← hW]; simp
  rw [eW] at H2
  clear hW
  have hb2 := HB.trans (HB2.mono HB.size)
  have hs2 := HB2.size
  have LT1 := blk_lt H2
  have LT0 : w.heap.size < W2.heap.size := by omega
  have HH := Lib.hid H
  have HZ := Lib.hid H2
  have EW := Lib.hid eW
  clear H H2 eW
  have c4 := (blk_cell HH.out 4).trans HG4.out
  go_wp2_with fail
  refine (cloneA_c Ac nc cc fa W2 ((HRA.out.fr (Fr.ofBelow hb2)).mono (fun q (hq : q < w.heap.size) => Nat.lt_of_lt_of_le hq hb2.size)) HA1.out hn1).mono ?_
  rintro e w3 ⟨v, rfl, hown, hb3⟩
  have hb02 := hb2
  have LT02 := LT0
  have LT12 := LT1
  have HH2 := HH
  have HZ2 := HZ
  have hb03 := hb02.trans (hb3.mono hb02.size)
  have hs3 := hb3.size
  have LT03 := Nat.lt_of_lt_of_le LT02 hs3
  have LT13 := Nat.lt_of_lt_of_le LT12 hs3
  have HH3 := Lib.hid ((hb3.block _ LT02).trans HH2.out)
  have HZ3 := Lib.hid ((hb3.block _ LT12).trans HZ2.out)
  obtain ⟨A1, n1, d1, rfl⟩ := own_shape hown
  obtain rfl := own_val hown
  have HOWN := Lib.hid hown
  have s6 := (blk_cell HH3.out 4).trans HG4.out
  have s7 := blk_frozen HH3.out 4
  clear hown c4
  go_upto_region 2 with fail
  have H4 := heap_setCell_same HH3.out 4 (.slice A1 n1 d1)
  have hb4 : Below w.heap.size w (w3.setCell ⟨w.heap.size, 4, none⟩ (.slice A1 n1 d1)) := hb03.setCell (p := ⟨w.heap.size, 4, none⟩) (Nat.le_refl _) _
  have HZ4 := (Below.heap_setCell w3 ⟨w.heap.size, 4, none⟩ (.slice A1 n1 d1) (w.heap.size + 1) (by show w.heap.size + 1 ≠ w.heap.size; omega)).trans HZ3.out
  have HO4 := own_same (w' := w3.setCell ⟨w.heap.size, 4, none⟩ (.slice A1 n1 d1)) HOWN.out (fun g hg => Below.heap_setCell w3 ⟨w.heap.size, 4, none⟩ _ g (by show g ≠ w.heap.size; have := (HOWN.out.lt _ hg).1; omega))
  have hsz4 : (w3.setCell ⟨w.heap.size, 4, none⟩ (.slice A1 n1 d1)).heap.size = w3.heap.size := by simp
  generalize w3.setCell ⟨w.heap.size, 4, none⟩ (.slice A1 n1 d1) = W4 at *
  obtain ⟨gl1, hgl1⟩ : ∃ l : List Value, l = gl.set 4 (.slice A1 n1 d1) := ⟨_, rfl⟩
  have HK4 := Lib.hid (show W4.heap[w.heap.size]? = some (.cells gl1.toArray 29 (0, 0)) by rw [H4, hgl1]; simp)
  have HG1 := Lib.hid (show gl1.toArray[20]? = some (.slice Ae ne ce) by have := HG20.out; rw [hgl1]; simpa using this)
  have HGL1 := Lib.hid hgl1
  have HZR := Lib.hid HZ4
  have HOW4 := Lib.hid HO4
  have HSZ4 := Lib.hid hsz4
  have hb04 := hb4
  have LT04 : w.heap.size < W4.heap.size := by rw [hsz4]; exact LT03
  have LT14 : w.heap.size + 1 < W4.heap.size := by rw [hsz4]; exact LT13
  have c20 := (blk_cell HK4.out 20).trans HG1.out
  clear H4 HZ4 HO4 hb4 s6 s7 hgl1 hsz4
  go_wp2_with fail
  refine (cloneE_c Ae ne ce fe W4 ((HRE.out.fr (Fr.ofBelow hb04)).mono (fun q (hq : q < w.heap.size) => Nat.lt_of_lt_of_le hq hb04.size)) HE1.out hn2).mono ?_
  rintro e w5 ⟨v, rfl, hown, hb5⟩
  have hb05 := hb04.trans (hb5.mono hb04.size)
  have hs5 := hb5.size
  have HK5 := Lib.hid ((hb5.block _ LT04).trans HK4.out)
  have HZ5 := Lib.hid ((hb5.block _ LT14).trans HZR.out)
  have HOW5 := Lib.hid (own_below HOW4.out (hb5.mono (by have := HSZ4.out; have := hb03.size; have := hb2.size; omega)))
  obtain ⟨gE, d2, rfl, hgE1, hgE2⟩ := hown.form hp
  have hcap : ne ≤ d2 ∧ d2 ≤ maxLen := by
    rcases hown.2 with ⟨h, _⟩ | ⟨g', cap', cur, h, _, _, h3, h4, _⟩
    · simp at h
    · injection h with _ _ e3; omega
  have HCAP := Lib.hid hcap
  have HOE := Lib.hid hown
  have s6 := (blk_cell HK5.out 20).trans HG1.out
  have s7 := blk_frozen HK5.out 20
  clear hown c20 hcap
  go_upto_region 3 with fail
  have H6 := heap_setCell_same HK5.out 20 (.slice (some ⟨gE, 0, none⟩) ne d2)
  have hb6 : Below w.heap.size w (w5.setCell ⟨w.heap.size, 20, none⟩ (.slice (some ⟨gE, 0, none⟩) ne d2)) := hb05.setCell (p := ⟨w.heap.size, 20, none⟩) (Nat.le_refl _) _
  have hfr6 : Fr (fun q => q ≠ w.heap.size) w5 (w5.setCell ⟨w.heap.size, 20, none⟩ (.slice (some ⟨gE, 0, none⟩) ne d2)) := (Fr.refl _ _).setCell (p := ⟨w.heap.size, 20, none⟩) (by simp) _
  have hsz6 : (w5.setCell ⟨w.heap.size, 20, none⟩ (.slice (some ⟨gE, 0, none⟩) ne d2)).heap.size = w5.heap.size := by simp
  generalize w5.setCell ⟨w.heap.size, 20, none⟩ (.slice (some ⟨gE, 0, none⟩) ne d2) = W6 at *
  obtain ⟨gl2, hgl2⟩ : ∃ l : List Value, l = gl1.set 20 (.slice (some ⟨gE, 0, none⟩) ne d2) := ⟨_, rfl⟩
  have HK6 := Lib.hid (show W6.heap[w.heap.size]? = some (.cells gl2.toArray 29 (0, 0)) by rw [H6, hgl2]; simp)
  have hlen1 : gl1.length = 21 := by rw [HGL1.out]; simpa using HLEN.out
  have HG2 := Lib.hid (show gl2.toArray[20]? = some (.slice (some ⟨gE, 0, none⟩) ne d2) by rw [hgl2]; simp [hlen1])
  have HLEN2 := Lib.hid (show gl2.toArray.size = 21 by rw [hgl2]; simpa using hlen1)
  have HGL2 := Lib.hid hgl2
  have HALL2 := Lib.hid (show ∀ u ∈ gl2, u.oneCell' = true by
    intro u hu
    rw [hgl2, HGL1.out] at hu
    rcases List.mem_or_eq_of_mem_set hu with hu | rfl
    · rcases List.mem_or_eq_of_mem_set hu with hu | rfl
      · exact HGO.out u hu
      · rfl
    · rfl)
  have HZ6 := Lib.hid ((hfr6.block (w.heap.size + 1) (by show w.heap.size + 1 ≠ w.heap.size; omega)).trans HZ5.out)
  have hgEw : w.heap.size + 1 < gE := by omega
  have HOW6 := Lib.hid (own_same HOW5.out (fun g hg => hfr6.block g (by show g ≠ w.heap.size; have := (HOWN.out.lt _ hg).1; omega)))
  have hst : EntsAt g.entities w.heap.size gE 0 W6 := fun i hi => by
    obtain ⟨cs, k1, k2⟩ := HCE.out i _ (List.getElem?_eq_getElem hi)
    have hbW : Below w.heap.size w W6 := hb6
    have hrow := own_same (w' := W6) HOE.out (fun g hg => by
      have : g = gE := by simpa [Value.ownBlock] using hg.symm
      subst this
      exact hfr6.block g (by show g ≠ w.heap.size; omega))
    rw [← HFE.out] at hrow
    refine ⟨cs, EntityC.mono (EntityC.fr k2 (Fr.ofBelow hbW)) (fun q hq => .inr ⟨by omega, hq⟩), ?_⟩
    have := At.flat HC5.out 0 (own_at hrow (Q := fun q => q = gE) rfl) i cs k1
    simpa using this
  have HST := Lib.hid hst
  have LT06 : w.heap.size < W6.heap.size := by omega
  have LTE6 : gE < W6.heap.size := by omega
  have HB6 := Lib.hid hb6
  have HSZ6 := Lib.hid hsz6
  have c20 := (blk_cell HK6.out 20).trans HG2.out
  clear H6 hfr6 hgl2 hlen1 s6 s7 hst hb6 hsz6
  go_wp2_with fail
  clear c20
  go_loopw [16] (fun i wr => ∃ k : Nat, k ≤ ne ∧ i = .int .i64 (k : Int) ∧ Fr (QX W6.heap.size gE) W6 wr ∧ EntsAt g.entities w.heap.size gE k wr) (fun i _ => ne - (intOf i).toNat)
  case atStart => exact ⟨0, by omega, rfl, Fr.refl _ _, HST.out⟩
  case round =>
    obtain ⟨k, hk, rfl, hfr, hE⟩ := hrel
    have HF := Lib.hid hfr
    have HEA := Lib.hid hE
    have hsz := hfr.size
    have GLT := Lib.hid (show gE < wr.heap.size by omega)
    have HK7 := Lib.hid ((hfr.block w.heap.size ⟨LT06, by omega⟩).trans HK6.out)
    by_cases hlt : k < ne
    case pos =>
      have hltI : (k : Int) < (ne : Int) := by omega
      have hkl : k < g.entities.length := by rw [HNE.out]; exact hlt
      obtain ⟨cs, k1, k2⟩ := hE k hkl
      obtain ⟨Ac2, cc2, Al, cl, hcs, hc1, hl1⟩ := EntityC.lit k1
      subst hcs
      have hse := HSM.out.2.2.2 _ (List.getElem_mem hkl)
      have HCH2 := Lib.hid hc1
      have HLI2 := Lib.hid hl1
      have k3 := k2.c (j := 2) rfl
      have k4 := k2.c (j := 3) rfl
      have f3 := (k2.2 2 _ rfl).2
      have f4 := (k2.2 3 _ rfl).2
      rw [Addr.add_lit] at f3 f4
      obtain ⟨x, hx⟩ : ∃ x, g.entities[k] = x := ⟨_, rfl⟩
      rw [hx] at k3 k4 hse HCH2 HLI2
      have HX := Lib.hid hx
      obtain ⟨nc2, hnc2⟩ : ∃ n, x.chart.length = n := ⟨_, rfl⟩
      obtain ⟨nl2, hnl2⟩ : ∃ n, x.links.length = n := ⟨_, rfl⟩
      have HNC2 := Lib.hid hnc2
      have HNL2 := Lib.hid hnl2
      have hb1 : nc2 ≤ 100000 := by rw [← hnc2]; have := hse.1; omega
      have hb2' : nl2 ≤ 100000 := by rw [← hnl2]; have := hse.2.1; omega
      rw [hnc2] at k3
      rw [hnl2] at k4
      have hle : w.heap.size ≤ wr.heap.size := by omega
      have hq : ∀ q, QE w.heap.size gE wr.heap.size k k q → q < wr.heap.size := fun q hq => by unfold QE at hq; omega
      have HRC := Lib.hid (show Rd wr (· < wr.heap.size) Ac2 nc2 4 (x.chart.flatMap accL) by rw [← hnc2]; exact (rd_list (fun cs x h => (AccountC.lit h).1) (fun _ => rfl) (by omega) HCH2.out).mono hq)
      have HRK := Lib.hid (show Rd wr (· < wr.heap.size) Al nl2 3 (x.links.flatMap linkL) by rw [← hnl2]; exact (rd_list (fun cs x h => (LinkC.lit h).1) (fun _ => rfl) (by omega) HLI2.out).mono hq)
      obtain ⟨fc, hfc⟩ : ∃ f, x.chart.flatMap accL = f := ⟨_, rfl⟩
      obtain ⟨fk, hfk⟩ : ∃ f, x.links.flatMap linkL = f := ⟨_, rfl⟩
      have HFC := Lib.hid hfc
      have HFK := Lib.hid hfk
      rw [hfc] at HRC
      rw [hfk] at HRK
      have HO1 := Lib.hid (show ∀ u ∈ fc, u.oneCell' = true from hfc ▸ acc_one x.chart)
      have HO2 := Lib.hid (show ∀ u ∈ fk, u.oneCell' = true from hfk ▸ link_one x.links)
      have HCA := Lib.hid (fun (w2 : World) (hS : Below wr.heap.size wr w2) => cloneA_c Ac2 nc2 cc2 fc w2 ((HRC.out.fr (Fr.ofBelow hS)).mono (fun q (hq : q < wr.heap.size) => Nat.lt_of_lt_of_le hq hS.size)) HO1.out hb1)
      have HCK := Lib.hid (fun (w2 : World) (hS : Below wr.heap.size wr w2) => cloneK_c Al nl2 cl fk w2 ((HRK.out.fr (Fr.ofBelow hS)).mono (fun q (hq : q < wr.heap.size) => Nat.lt_of_lt_of_le hq hS.size)) HO2.out hb2')
      have HC2 := Lib.hid k3
      have HC3 := Lib.hid k4
      have HF3 := Lib.hid f3
      have HF4 := Lib.hid f4
      have c20 := (blk_cell HK7.out 20).trans HG2.out
      clear k1 k2 k3 k4 f3 f4 hc1 hl1 hx hnc2 hnl2 hfc hfk hse hE hfr hq
      go_upto_region 7 with fail
      clear c20
      refine wp_region_inv6 14 (fun i => i == 1) (Ks wr [.val (.pointer (some ⟨gE, (k * 5), none⟩)), .val (.pointer (some ⟨gE, (k * 5), none⟩)), .val (.pointer (some ⟨gE, (k * 5), none⟩)), .val (.pointer (some ⟨gE, (k * 5), none⟩)), .val (.pointer (some ⟨gE, (k * 5) + 2, none⟩)), .val (.slice Ac2 nc2 cc2), .own (IsRow wr 152 4 nc2 fc) (IsRow.keep _ _ _ _ _), .val (.pointer (some ⟨gE, (k * 5), none⟩)), .val (.pointer (some ⟨gE, (k * 5), none⟩)), .val (.pointer (some ⟨gE, (k * 5) + 3, none⟩)), .val (.slice Al nl2 cl), .own (IsRow wr 161 3 nl2 fk) (IsRow.keep _ _ _ _ _), .val (.pointer (some ⟨gE, (k * 5), none⟩)), .val (.pointer (some ⟨gE, (k * 5) + 2, none⟩))])
        (fun w' => Below wr.heap.size wr w') (Ks wr [.val (.pointer (some ⟨gE, (k * 5), none⟩)), .val (.pointer (some ⟨gE, (k * 5), none⟩)), .val (.pointer (some ⟨gE, (k * 5), none⟩)), .val (.pointer (some ⟨gE, (k * 5), none⟩)), .val (.pointer (some ⟨gE, (k * 5) + 2, none⟩)), .val (.slice Ac2 nc2 cc2), .own (IsRow wr 152 4 nc2 fc) (IsRow.keep _ _ _ _ _), .val (.pointer (some ⟨gE, (k * 5), none⟩)), .val (.pointer (some ⟨gE, (k * 5), none⟩)), .val (.pointer (some ⟨gE, (k * 5) + 3, none⟩)), .val (.slice Al nl2 cl), .own (IsRow wr 161 3 nl2 fk) (IsRow.keep _ _ _ _ _), .val (.pointer (some ⟨gE, (k * 5), none⟩)), .val (.pointer (some ⟨gE, (k * 5) + 2, none⟩))])
        (fun w' => ∃ (w3 : World) (A3 : Option Addr) (d3 : Nat), Below wr.heap.size wr w3 ∧ IsRow wr 152 4 nc2 fc (.slice A3 nc2 d3) w3 ∧ w' = w3.setCell ⟨gE, (k * 5) + 2, none⟩ (.slice A3 nc2 d3)) (by kernel_rfl) (by kernel_rfl) (by kernel_rfl) (by decide) (by kernel_rfl) (by kernel_rfl) (by kernel_rfl) (by kernel_rfl) rfl (by kernel_rfl) _ rfl rfl (Below.refl _ _).drew ?_ ?_ ?_ ?_
      · refine ⟨?_, ?_, ?_, ?_, ?_, ?_, ?_, ?_, ?_, ?_, ?_, ?_, ?_, ?_, trivial⟩
        · intro listed A0 w2 hI hd hnd K hK
          have e0 := hI.slot hnd 4 _ rfl (by kernel_rfl)
          have hS := hI.world
          refine wanted_go rfl ?_
          clear hI hd hnd
          go_simp
          exact hK.out _ _ hS (Ks.of rfl rfl) (fun _ _ h => h)
        · intro listed A0 w2 hI hd hnd K hK
          have e0 := hI.slot hnd 4 _ rfl (by kernel_rfl)
          have hS := hI.world
          refine wanted_go rfl ?_
          clear hI hd hnd
          go_simp
          exact hK.out _ _ hS (Ks.of rfl rfl) (fun _ _ h => h)
        · intro listed A0 w2 hI hd hnd K hK
          have e0 := hI.slot hnd 4 _ rfl (by kernel_rfl)
          have hS := hI.world
          refine wanted_go rfl ?_
          clear hI hd hnd
          go_simp
          exact hK.out _ _ hS (Ks.of rfl rfl) (fun _ _ h => h)
        · intro listed A0 w2 hI hd hnd K hK
          have e0 := hI.depv hd 2 25 _ rfl rfl rfl (by kernel_rfl)
          have hS := hI.world
          refine wanted_go rfl ?_
          clear hI hd hnd
          go_simp
          exact hK.out _ _ hS (Ks.of rfl rfl) (fun _ _ h => h)
        · intro listed A0 w2 hI hd hnd K hK
          have e0 := hI.depv hd 3 26 _ rfl rfl rfl (by kernel_rfl)
          have hS := hI.world
          refine wanted_go rfl ?_
          clear hI hd hnd
          go_simp
          exact hK.out _ _ hS (Ks.of rfl rfl) (fun _ _ h => h)
        · intro listed A0 w2 hI hd hnd K hK
          have e0 := hI.depv hd 4 27 _ rfl rfl rfl (by kernel_rfl)
          have hS := hI.world
          have hcc : w2.cell? ⟨gE, (k * 5) + 2, none⟩ = _ := (hS.cell (p := ⟨gE, (k * 5) + 2, none⟩) GLT.out).trans HC2.out
          refine wanted_go rfl ?_
          clear hI hd hnd
          go_simp
          exact hK.out _ _ hS (Ks.of rfl rfl) (fun _ _ h => h)
        · intro listed A0 w2 hI hd hnd K hK
          have e0 := hI.depv hd 5 28 _ rfl rfl rfl (by kernel_rfl)
          have hS := hI.world
          refine wanted_go rfl ?_
          clear hI hd hnd
          go_simp
          go_at_call 145
          refine (HCA.out w2 hS).mono ?_
          rintro e w3 ⟨v, rfl, hv, h3⟩
          exact hK.out _ _ (hS.trans (h3.mono hS.size)) (Ks.of rfl (show IsRow wr _ _ _ _ v w3 from own_base hv hS.size)) (Ks.keep h3)
        · intro listed A0 w2 hI hd hnd K hK
          have e0 := hI.slot hnd 4 _ rfl (by kernel_rfl)
          have hS := hI.world
          refine wanted_go rfl ?_
          clear hI hd hnd
          go_simp
          exact hK.out _ _ hS (Ks.of rfl rfl) (fun _ _ h => h)
        · intro listed A0 w2 hI hd hnd K hK
          have e0 := hI.depv hd 7 30 _ rfl rfl rfl (by kernel_rfl)
          have hS := hI.world
          refine wanted_go rfl ?_
          clear hI hd hnd
          go_simp
          exact hK.out _ _ hS (Ks.of rfl rfl) (fun _ _ h => h)
        · intro listed A0 w2 hI hd hnd K hK
          have e0 := hI.depv hd 8 31 _ rfl rfl rfl (by kernel_rfl)
          have hS := hI.world
          refine wanted_go rfl ?_
          clear hI hd hnd
          go_simp
          exact hK.out _ _ hS (Ks.of rfl rfl) (fun _ _ h => h)
        · intro listed A0 w2 hI hd hnd K hK
          have e0 := hI.depv hd 9 32 _ rfl rfl rfl (by kernel_rfl)
          have hS := hI.world
          have hcc : w2.cell? ⟨gE, (k * 5) + 3, none⟩ = _ := (hS.cell (p := ⟨gE, (k * 5) + 3, none⟩) GLT.out).trans HC3.out
          refine wanted_go rfl ?_
          clear hI hd hnd
          go_simp
          exact hK.out _ _ hS (Ks.of rfl rfl) (fun _ _ h => h)
        · intro listed A0 w2 hI hd hnd K hK
          have e0 := hI.depv hd 10 33 _ rfl rfl rfl (by kernel_rfl)
          have hS := hI.world
          refine wanted_go rfl ?_
          clear hI hd hnd
          go_simp
          go_at_call 147
          refine (HCK.out w2 hS).mono ?_
          rintro e w3 ⟨v, rfl, hv, h3⟩
          exact hK.out _ _ (hS.trans (h3.mono hS.size)) (Ks.of rfl (show IsRow wr _ _ _ _ v w3 from own_base hv hS.size)) (Ks.keep h3)
        · intro listed A0 w2 hI hd hnd K hK
          have e0 := hI.depv hd 0 23 _ rfl rfl rfl (by kernel_rfl)
          have hS := hI.world
          refine wanted_go rfl ?_
          clear hI hd hnd
          go_simp
          exact hK.out _ _ hS (Ks.of rfl rfl) (fun _ _ h => h)
        · intro listed A0 w2 hI hd hnd K hK
          have e0 := hI.depv hd 12 35 _ rfl rfl rfl (by kernel_rfl)
          have hS := hI.world
          refine wanted_go rfl ?_
          clear hI hd hnd
          go_simp
          exact hK.out _ _ hS (Ks.of rfl rfl) (fun _ _ h => h)
      · intro listed A0 w2 hI hall K hK
        obtain ⟨x13, g13, h13⟩ := hI.got 13 _ 36 rfl rfl (hall 13 (by decide) rfl)
        obtain ⟨x6, g6, h6⟩ := hI.got 6 _ 29 rfl rfl (hall 6 (by decide) rfl)
        obtain rfl : x13 = .pointer (some ⟨gE, (k * 5) + 2, none⟩) := h13 _ rfl
        have k6 : IsRow wr _ _ _ _ x6 w2 := h6 _ rfl
        obtain ⟨A3, n3, d3, rfl⟩ := own_shape k6
        obtain rfl := own_val k6
        have hS := hI.world
        have s3 : w2.cell? ⟨gE, (k * 5) + 2, none⟩ = some (.slice Ac2 n3 cc2) := (hS.cell (p := ⟨gE, k * 5 + 2, none⟩) GLT.out).trans HC2.out
        have t3 : w2.frozen? ⟨gE, (k * 5) + 2, none⟩ = false := ((Fr.ofBelow hS).frozen (p := ⟨gE, k * 5 + 2, none⟩) GLT.out).trans HF3.out
        have e0 : A0.tmps[36]?.getD undef = .pointer (some ⟨gE, (k * 5) + 2, none⟩) := by simp [g13]
        have e1 : A0.tmps[29]?.getD undef = .slice A3 n3 d3 := by simp [g6]
        have HK := Lib.hid hK
        clear hI hall hK
        refine wanted_go rfl ?_
        go_simp
        refine HK.out _ ⟨w2, A3, d3, hS, k6, rfl⟩ ?_
        intro i o d u hi ho hd hu hV
        exact Ks.cells (b := gE) GLT.out (fun q hq => Below.heap_setCell w2 ⟨gE, (k * 5) + 2, none⟩ _ q hq) (fun kn hk => by
          simp only [List.mem_cons, List.not_mem_nil, or_false] at hk
          rcases hk with rfl | rfl | rfl | rfl | rfl | rfl | rfl | rfl | rfl | rfl | rfl | rfl | rfl | rfl <;> first | exact .inl ⟨_, rfl⟩ | exact .inr ⟨_, _, _, _, rfl⟩) i u hV
      · refine ⟨fun h => absurd h (by decide), ?_, fun h => absurd h (by decide), fun h => absurd h (by decide), fun h => absurd h (by decide), fun h => absurd h (by decide), fun h => absurd h (by decide), fun h => absurd h (by decide), fun h => absurd h (by decide), fun h => absurd h (by decide), fun h => absurd h (by decide), fun h => absurd h (by decide), fun h => absurd h (by decide), fun h => absurd h (by decide), fun h => absurd h (by decide), trivial⟩
        · intro _
          intro listed A0 w2 hI hd hnd K hK
          have e0 := hI.slot hnd 4 _ rfl (by kernel_rfl)
          have hS := hI.world
          refine wanted_go rfl ?_
          clear hI hd hnd
          go_simp
          exact hK.out _ _ hS (Ks.of rfl rfl) (fun _ _ h => h)
      · intro A0 w2 hI
        obtain ⟨x0, g0, h0⟩ := hI.got 0 _ 23 rfl rfl rfl
        obtain ⟨x1, g1, h1⟩ := hI.got 1 _ 24 rfl rfl rfl
        obtain ⟨x2, g2, h2⟩ := hI.got 2 _ 25 rfl rfl rfl
        obtain ⟨x3, g3, h3⟩ := hI.got 3 _ 26 rfl rfl rfl
        obtain ⟨x4, g4, h4⟩ := hI.got 4 _ 27 rfl rfl rfl
        obtain ⟨x5, g5, h5⟩ := hI.got 5 _ 28 rfl rfl rfl
        obtain ⟨x6, g6, h6⟩ := hI.got 6 _ 29 rfl rfl rfl
        obtain ⟨x7, g7, h7⟩ := hI.got 7 _ 30 rfl rfl rfl
        obtain ⟨x8, g8, h8⟩ := hI.got 8 _ 31 rfl rfl rfl
        obtain ⟨x9, g9, h9⟩ := hI.got 9 _ 32 rfl rfl rfl
        obtain ⟨x10, g10, h10⟩ := hI.got 10 _ 33 rfl rfl rfl
        obtain ⟨x11, g11, h11⟩ := hI.got 11 _ 34 rfl rfl rfl
        obtain ⟨x12, g12, h12⟩ := hI.got 12 _ 35 rfl rfl rfl
        obtain ⟨x13, g13, h13⟩ := hI.got 13 _ 36 rfl rfl rfl
        obtain ⟨w3, A3, d3, hS, k6, hw3⟩ := hI.world
        obtain ⟨y37, o37⟩ : ∃ v, A0.tmps[37]? = some v := ⟨_, hI.oldHead 37 (by kernel_rfl)⟩
        obtain ⟨y38, o38⟩ : ∃ v, A0.tmps[38]? = some v := ⟨_, hI.oldHead 38 (by kernel_rfl)⟩
        have hA : A0 = _ := hI.tmps [(23, x0), (24, x1), (25, x2), (26, x3), (27, x4), (28, x5), (29, x6), (30, x7), (31, x8), (32, x9), (33, x10), (34, x11), (35, x12), (36, x13), (37, y37), (38, y38)] (by simp only [List.mem_cons, List.not_mem_nil, or_false, forall_eq_or_imp, forall_eq]; exact ⟨g0, g1, g2, g3, g4, g5, g6, g7, g8, g9, g10, g11, g12, g13, o37, o38⟩) (by kernel_rfl)
        obtain rfl : x0 = .pointer (some ⟨gE, (k * 5), none⟩) := h0 _ rfl
        obtain rfl : x1 = .pointer (some ⟨gE, (k * 5), none⟩) := h1 _ rfl
        have k6z : (IsRow wr 152 4 nc2 fc) x6 w2 := h6 _ rfl
        have k11 : (IsRow wr 161 3 nl2 fk) x11 w2 := h11 _ rfl
        clear h0 g0 h1 g1 h2 g2 h3 g3 h4 g4 h5 g5 h6 g6 h7 g7 h8 g8 h9 g9 h10 g10 h11 g11 h12 g12 h13 g13 o37 o38 hI
        simp only [setAll, List.foldl, List.setIfInBounds_toArray, List.set_cons_zero, List.set_cons_succ] at hA
        rw [hA]
        clear hA
        simp only [List.drop_succ_cons, List.drop_zero]
        subst hw3
        obtain ⟨A4, n4, d4, rfl⟩ := own_shape k11
        obtain rfl := own_val k11
        have s4 : (w3.setCell ⟨gE, k * 5 + 2, none⟩ (.slice A3 nc2 d3)).cell? ⟨gE, k * 5 + 3, none⟩ = some (.slice Al n4 cl) := (set_other _ _ _ _ _ (by omega)).trans ((hS.cell (p := ⟨gE, k * 5 + 3, none⟩) GLT.out).trans HC3.out)
        have t4 : (w3.setCell ⟨gE, k * 5 + 2, none⟩ (.slice A3 nc2 d3)).frozen? ⟨gE, k * 5 + 3, none⟩ = false := (World.frozen?_setCell _ _ _ _).trans (((Fr.ofBelow hS).frozen (p := ⟨gE, k * 5 + 3, none⟩) GLT.out).trans HF4.out)
        have HS2 := Lib.hid hS
        have K6 := Lib.hid k6
        have K11 := Lib.hid (own_same (w' := w3) k11 (fun g hg => (Below.heap_setCell w3 ⟨gE, k * 5 + 2, none⟩ _ g (by show g ≠ gE; have := (k11.lt _ hg).1; have := GLT.out; omega)).symm))
        clear k6 k6z k11 hS
        go_wp2_with fail
        go_roundw
        case rel =>
          have hS := HS2.out
          have h1 := own_base (base' := gE + 1) K6.out GLT.out
          have h2 := own_base (base' := gE + 1) K11.out GLT.out
          have hEk := HEA.out.fr (w' := w3) (by omega) GLT.out hS
          rw [← HFC.out, ← HNC2.out, ← HX.out] at h1
          rw [← HFK.out, ← HNL2.out, ← HX.out] at h2
          have hst := hEk.step (by omega) (Nat.lt_of_lt_of_le GLT.out hS.size) hkl h1 (by rw [HX.out]; exact accs_bd HCH2.out) h2 (by rw [HX.out]; exact links_bd HLI2.out)
          rw [HX.out, HNC2.out, HNL2.out] at hst
          refine ⟨k + 1, by omega, by go_num, ?_, hst⟩
          exact ((HF.out.trans ((Fr.ofBelow hS).mono (fun q hq => by have := hq.1; omega))).setCell (p := ⟨gE, k * 5 + 2, none⟩) (fun h => h.2 rfl) _).setCell (p := ⟨gE, k * 5 + 3, none⟩) (fun h => h.2 rfl) _
        case measure => first | exact meas_v hlt | (simp only [intOf]; omega)
    case neg =>
      have hltI : ¬ (k : Int) < (ne : Int) := by omega
      have hkn : k = ne := by omega
      subst hkn
      have HZR7 := Lib.hid ((HF.out.block (w.heap.size + 1) ⟨by omega, by omega⟩).trans HZ6.out)
      have hbW : Below w.heap.size w wr := ((Fr.ofBelow HB6.out).trans (HF.out.mono (fun q (hq : q < w.heap.size) => ⟨by omega, by omega⟩))).below
      have HBW := Lib.hid hbW
      have HOW7 := Lib.hid (own_same HOW6.out (fun g hg => HF.out.block g ⟨by have := (HOW6.out.lt _ hg).2; omega, by have := (HOWN.out.lt _ hg).2; have := HSZ4.out; omega⟩))
      clear hfr hE hbW
      go_wp2_with (first | (show wpList _ _ _ (Oper.mk (some 40) _ _ _ _ _ :: _) _ _; refine wpList_load_row_g rfl 29 (.tmp 1) rfl w.heap.size rfl _ _ _ _ HK7.out Try.underlying29 rfl (by rw [info_group]; exact congrArg some HLEN2.out.symm) ?_) | (show wpList _ _ _ (Oper.mk none (Op.store _ (Operand.tmp 2) _) _ _ _ _ :: _) _ _; refine wpList_store_row rfl 29 (.tmp 2) (.tmp 40) rfl (w.heap.size + 1) gl2.toArray rfl rfl 29 #[.string ⟨#[]⟩, .int .i64 0, .int .i64 0, .int .i64 0, .slice none 0 0, .int .i64 0, .int .i64 0, .int .i64 0, .int .i64 0, .int .i64 0, .int .i64 0, .int .i64 0, .int .i64 0, .int .i64 0, .int .i64 0, .int .i64 0, .int .i64 0, .int .i64 0, .int .i64 0, .int .i64 0, .slice none 0 0] HZR7.out (by rw [info_group]; exact congrArg some HLEN2.out.symm) (by rw [HLEN2.out]; rfl) ?_ ?_))
      · exact HALL2.out
      refine bodyPost_ret (v := _) (results_cell rfl _ _ (w.heap.size + 1) 29 _ (0, 0) _ rfl (heap_setRow HZR7.out _) Try.underlying29 rfl (by rw [info_group]; exact congrArg some HLEN2.out.symm)) rfl ?_
      have hfr2 := fr_setRow wr (w.heap.size + 1) gl2.toArray
      have hss : (wr.setRow (w.heap.size + 1) gl2.toArray).heap.size = wr.heap.size := by simp
      have hbW8 : Below w.heap.size w (wr.setRow (w.heap.size + 1) gl2.toArray) := below_setRow HBW.out (by omega) _
      generalize wr.setRow (w.heap.size + 1) gl2.toArray = W8 at *
      refine ⟨gl2, rfl, ?_, hbW8⟩
      have hgl2 : gl2 = c0 ++ c1 ++ [.slice A1 g.chart.length d1] ++ c3 ++ [.slice (some ⟨gE, 0, none⟩) g.entities.length d2] := by
        rw [HGL2.out, HGL1.out, HGL.out, HNC.out, HNE.out]
        exact set2 _ _ _ _ HL0.out HL1.out HL3.out
      rw [hgl2]
      have hOA := own_same (w' := W8) HOW7.out (fun q hq => hfr2.block q (by show q ≠ w.heap.size + 1; have := (HOWN.out.lt _ hq).1; omega))
      have hcapz := HCAP.out
      refine HBUILD.out W8 _ A1 d1 _ d2 hbW8 (fun q hq => hq) ?_ ?_
      · rw [HNC.out]
        rw [← HNC.out, ← HFA.out] at hOA
        have := own_listF (El := AccountC) (f := accL) (w := W8) (Q := fun q => w.heap.size ≤ q ∧ q < W8.heap.size) (fun _ => rfl) hOA (fun x hx => accC_of (accs_bd HCH.out x hx)) (fun q hq => ⟨by have := (hOA.lt _ hq).1; omega, (hOA.lt _ hq).2⟩)
        rwa [HNC.out] at this
      · refine ⟨_, d2, rfl, by rw [HNE.out]; exact hcapz.1, hcapz.2, fun _ => ⟨gE, 0, rfl, ⟨by omega, by omega⟩, fun i x hx => ?_⟩⟩
        obtain ⟨hi, rfl⟩ := List.getElem?_eq_some_iff.1 hx
        obtain ⟨cs, q1, q2⟩ := HEA.out i hi
        have hik : i < k := by rw [← HNE.out]; exact hi
        refine ⟨cs, EntityC.mono (EntityC.fr q1 (hfr2.mono fun q hq => by unfold QE at hq; show q ≠ w.heap.size + 1; omega)) (fun q hq => by unfold QE at hq; omega), ?_⟩
        have := (q2.fr (hfr2.mono fun q (hq : q = gE) => by show q ≠ w.heap.size + 1; omega)).mono (Q' := fun q => w.heap.size ≤ q ∧ q < W8.heap.size) (fun q hq => by subst hq; exact ⟨by omega, by omega⟩)
        simpa using this
end Go.Proofs.Ytebdajkknkapcaa
/- A new journal. Written by gen_i9.py. -/
namespace Go.Proofs.Ytebdajkknkapcaa
open Go Go.RowKit
set_option linter.unusedVariables false
set_option linter.unusedSimpArgs false
set_option maxRecDepth 4000
attribute [local go_sem ↓] Go.wp_at_zero Go.wp_at_succ
/-- What New leaves. -/
def NewPost (g : XGroup) (w : World) (e : Ending) (w' : World) : Prop := Below w.heap.size w w' ∧
  ((groupB g = false ∧ e = .returned (.tuple #[.pointer none, .int .i64 1])) ∨
   (groupB g = true ∧ ∃ (J : Nat) (D O : Nat → Prop), e = .returned (.tuple #[.pointer (some ⟨J, 0, none⟩), .int .i64 0]) ∧ JC w' D O J g [] ∧ ∀ q, D q ∨ O q → w.heap.size ≤ q))
theorem groupB_pos {g : XGroup} (h : groupB g = true) : 0 < g.entities.length := by
  unfold groupB at h
  simp only [Bool.and_eq_true, decide_eq_true_eq] at h
  exact h.1.1.2.1
/-- A journal that has just been laid. -/
theorem JC.made {w w1 W : World} {g : XGroup} {gl : List Value} {cs : Array Value} (hg : GroupC w1 (fun q => w.heap.size ≤ q ∧ q < w1.heap.size) gl g) (hb : Below w.heap.size w w1)
    (hcs : cs = (gl ++ [Value.slice none 0 0, Value.map (some w1.heap.size), Value.map (some (w1.heap.size + 1))]).toArray)
    (hW : W = ((w1.alloc (.map #[] 0)).alloc (.map #[] 0)).alloc (.cells cs 109)) :
    ∃ (D O : Nat → Prop), JC W D O (w1.heap.size + 2) g [] ∧ Below w.heap.size w W ∧ ∀ q, D q ∨ O q → w.heap.size ≤ q := by
  subst hcs
  have e1 : (w1.alloc (.map #[] 0)).heap.size = w1.heap.size + 1 := by simp
  have e2 : ((w1.alloc (.map #[] 0)).alloc (.map #[] 0)).heap.size = w1.heap.size + 2 := by simp
  have b1 := below1 w1 (.map #[] 0)
  have b2 := below1 (w1.alloc (.map #[] 0)) (.map #[] 0)
  have b3 := below1 ((w1.alloc (.map #[] 0)).alloc (.map #[] 0)) (.cells (gl ++ [Value.slice none 0 0, Value.map (some w1.heap.size), Value.map (some (w1.heap.size + 1))]).toArray 109)
  rw [← hW] at b3
  have m1 := MapO.made w1
  have m2 := MapO.made (w1.alloc (.map #[] 0))
  rw [e1] at m2
  have hb1 : Below w1.heap.size w1 W := b1.trans ((b2.trans (b3.mono (by omega))).mono (by omega))
  have hsz := hb.size
  have esz : W.heap.size = w1.heap.size + 3 := by rw [hW]; simp
  have hlt1 := m1.lt
  have hlt2 := m2.lt
  refine ⟨fun q => w.heap.size ≤ q ∧ q < w1.heap.size, fun q => w1.heap.size ≤ q ∧ q < W.heap.size, ⟨gl, [], .slice none 0 0, w1.heap.size, w1.heap.size + 1, ?_⟩, hb.trans (hb1.mono hsz), fun q hq => by rcases hq with hq | hq <;> omega⟩
  exact {
    blk := by
      have := heap_alloc_new ((w1.alloc (.map #[] 0)).alloc (.map #[] 0)) (.cells (gl ++ [Value.slice none 0 0, Value.map (some w1.heap.size), Value.map (some (w1.heap.size + 1))]).toArray 109)
      rw [← hW, e2] at this
      exact this
    grp := GroupC.fr hg ((Fr.ofBelow hb1).mono (fun q hq => hq.2))
    len := rfl
    row := World.ownsRow_nil _ _ _ _
    ent := fun i x hx => by simp at hx
    idx := ((m1.below (b2.mono (by omega))).below (b3.mono (by omega))).eqv (fun c => rfl)
    rev := (m2.below (b3.mono (by omega))).eqv (fun c => rfl)
    oj := ⟨by omega, by omega⟩
    oi := ⟨by omega, by omega⟩
    orr := ⟨by omega, by omega⟩
    ov := fun q hq => by simp [Value.ownBlock] at hq
    ne1 := by omega
    ne2 := by omega
    ne3 := by omega
    ne4 := fun q hq => by simp [Value.ownBlock] at hq
    dis := fun q h1 h2 => by omega
    ltD := fun q h1 => by omega
    ltO := fun q h1 => h1.2
    ok := okJ_nil g }
set_option maxRecDepth 100000 in
theorem journal_built (gl : List Value) (hl : gl.length = 21) (a b : Nat) : Try.prog.built 109 [(0, .agg gl.toArray), (2, .map (some a)), (3, .map (some b))] = some (gl ++ [Value.slice none 0 0, Value.map (some a), Value.map (some b)]).toArray :=
  match gl, hl with
  | [x0, x1, x2, x3, x4, x5, x6, x7, x8, x9, x10, x11, x12, x13, x14, x15, x16, x17, x18, x19, x20], _ => by kernel_rfl
set_option maxHeartbeats 2000000 in
theorem new_c (g : XGroup) (gl : List Value) (w : World) (hg : GroupC w (· < w.heap.size) gl g) (hsm : smallG g) : Calls Try.prog 61 #[.agg gl.toArray] w (NewPost g w) := by
  have hmm := @run_makeMap Try.prog
  have HVAL := Lib.hid (group_v hg hsm)
  have hlen : gl.toArray.size = 21 := by have := hg.len; simpa using this
  have HGS := Lib.hid hlen
  have HCP := Lib.hid (fun (w2 : World) (hb : Below w.heap.size w w2) (hB : groupB g = true) => groupCopy_c g gl w2 (hg.keep hb) hsm (groupB_pos hB))
  obtain ⟨b, hb⟩ : ∃ b, groupB g = b := ⟨_, rfl⟩
  have HB := Lib.hid hb
  rw [hb] at HVAL
  clear hg hsm hlen hb
  go_enter Try.func61, Try.ntmps61
  go_upto_region 1 with fail
  have H1 := heap_alloc_new w (.cells gl.toArray 29)
  have HB1 := below1 w (.cells gl.toArray 29)
  have HS1 : w.heap.size < (w.alloc (.cells gl.toArray 29)).heap.size := blk_lt H1
  generalize hW1 : w.alloc (Obj.cells gl.toArray 29) = W at *
  clear hW1
  have HK := Lib.hid H1
  clear H1
  go_wp2_with (show wpList _ _ _ (Oper.mk (some 4) _ _ _ _ _ :: _) _ _; refine wpList_load_row_g rfl 29 (.tmp 1) rfl (w.heap.size) rfl _ _ _ _ HK.out Try.underlying29 rfl (by rw [info_group]; exact congrArg some HGS.out.symm) ?_)
  refine (HVAL.out W HB1).mono ?_
  rintro e w2 ⟨rfl, hb2⟩
  have hb02 := HB1.trans (hb2.mono HB1.size)
  have HK2 := Lib.hid ((hb2.block _ HS1).trans HK.out)
  cases b with
  | false =>
    have hf := HB.out
    go_wp2_with fail
    go_ret2
    exact ⟨hb02, .inl ⟨hf, rfl⟩⟩
  | true =>
  go_upto_region 3 with fail
  go_wp2_with (show wpList _ _ _ (Oper.mk (some 7) _ _ _ _ _ :: _) _ _; refine wpList_load_row_g rfl 29 (.tmp 1) rfl (w.heap.size) rfl _ _ _ _ HK2.out Try.underlying29 rfl (by rw [info_group]; exact congrArg some HGS.out.symm) ?_)
  refine (HCP.out w2 hb02 HB.out).mono ?_
  rintro e w3 ⟨gl3, rfl, hg3, hb3⟩
  have hl3 : gl3.length = 21 := hg3.len
  have HG3 := Lib.hid hg3
  have HB3 := Lib.hid hb3
  have HL3 := Lib.hid hl3
  clear hg3 hl3 hb3
  obtain ⟨cs, hcs⟩ : ∃ cs : Array Value, cs = (gl3 ++ [Value.slice none 0 0, Value.map (some w3.heap.size), Value.map (some (w3.heap.size + 1))]).toArray := ⟨_, rfl⟩
  have HBLT := Lib.hid ((journal_built gl3 HL3.out w3.heap.size (w3.heap.size + 1)).trans (congrArg some hcs.symm))
  have HCS := Lib.hid hcs
  clear hcs
  go_wp2_with (show wpList _ _ _ (Oper.mk (some 11) _ _ _ _ _ :: _) _ _; go_loud (refine wpList_built rfl 109 _ rfl [(0, .agg gl3.toArray), (2, .map (some w3.heap.size)), (3, .map (some (w3.heap.size + 1)))] (by simp [Act.eval]) cs HBLT.out ?_))
  go_ret2
  obtain ⟨D, O, hJ, hbJ, hDO⟩ := JC.made (w := w) (GroupC.mono HG3.out (fun q hq => by have := hb02.size; omega)) (hb02.trans (HB3.out.mono hb02.size)) HCS.out rfl
  exact ⟨hbJ, .inr ⟨HB.out, _, D, O, by simp, hJ, hDO⟩⟩
end Go.Proofs.Ytebdajkknkapcaa
/- The reference's Post. Written by gen_i12.py. -/
namespace Go.Proofs.Ytebdajkknkapcaa
open Go Go.RowKit
set_option linter.unusedVariables false
set_option linter.unusedSimpArgs false
set_option maxRecDepth 4000
attribute [local go_sem ↓] Go.wp_at_zero Go.wp_at_succ
theorem postE_1 {g : XGroup} {es : List XEntry} {x : XEntry} {R : Int} (h : checkE g x = R) (h0 : R ≠ 0) : postE g es x = R := by
  unfold postE
  rw [h, if_pos h0]
theorem postE_2 {g : XGroup} {es : List XEntry} {x : XEntry} {k : Nat} (h : checkE g x = 0) (h2 : idxE es x.id = some k) : postE g es x = 9 := by
  unfold postE
  rw [h, h2]; rfl
theorem postE_3 {g : XGroup} {es : List XEntry} {x : XEntry} {R : Int} (h : checkE g x = 0) (h2 : idxE es x.id = none) (h3 : x.kind = 3) (h4 : rvsE es x = R) (h5 : R ≠ 0) : postE g es x = R := by
  unfold postE
  rw [h, h2, h4, if_neg (by decide), if_neg (by decide), if_pos ⟨h3, h5⟩]
theorem postE_4 {g : XGroup} {es : List XEntry} {x : XEntry} (h : checkE g x = 0) (h2 : idxE es x.id = none) (h3 : x.kind = 3 → rvsE es x = 0) : postE g es x = if 2000 ≤ es.length then 6 else 0 := by
  unfold postE
  rw [h, h2, if_neg (by decide), if_neg (by decide), if_neg (fun hh => hh.2 (h3 hh.1))]
theorem rvsE_none {es : List XEntry} {x : XEntry} (h : idxE es x.of_ = none) : rvsE es x = 8 := by
  unfold rvsE
  rw [h]
theorem rvsE_some {es : List XEntry} {x y : XEntry} {k : Nat} (h : idxE es x.of_ = some k) (hk : es[k]? = some y) : rvsE es x = if y.kind = 3 ∨ revId es x.of_ ≠ 0 then 7 else if y.entity ≠ x.entity ∨ x.date < y.date ∨ oppB x.lines y.lines = false then 18 else 0 := by
  unfold rvsE
  rw [h]
  simp only [List.getD_eq_getElem?_getD, hk, Option.getD_some]
end Go.Proofs.Ytebdajkknkapcaa
