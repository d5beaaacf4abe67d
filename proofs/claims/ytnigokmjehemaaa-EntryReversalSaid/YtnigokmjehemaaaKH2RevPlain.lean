/- The plain law of the reversal; append to an empty slice that was made. Written by gen_h2.py. -/
import Derived.Test.YtnigokmjehemaaaJF1F7
import Derived.Test.YtnigokmjehemaaaJS0S5
import Derived.Test.YtnigokmjehemaaaKF9Opposite
namespace Go.Proofs.Ytnigokmjehemaaa
open Go Go.RowKit
set_option linter.unusedVariables false
set_option linter.unusedSimpArgs false
set_option maxRecDepth 4000
theorem checkE_ok {g : XGroup} {x : XEntry} (h : checkE g x = 0) : formB (groupB g) g.entities.length x = true ∧ chartedB (g.entities.getD x.entity.toNat {}).chart x.lines = true ∧ inCalB g.calendar.year g.calendar.month g.calendar.periods x.date = true ∧ sumL x.lines = 0 := by
  unfold checkE at h
  by_cases h1 : formB (groupB g) g.entities.length x = true
  · rw [if_pos h1] at h
    by_cases h2 : chartedB (g.entities.getD x.entity.toNat {}).chart x.lines = true
    · rw [if_pos h2] at h
      by_cases h3 : inCalB g.calendar.year g.calendar.month g.calendar.periods x.date = true
      · rw [if_pos h3] at h
        by_cases h4 : sumL x.lines = 0
        · exact ⟨h1, h2, h3, h4⟩
        · rw [if_neg h4] at h
          omega
      · rw [if_neg h3] at h
        omega
    · rw [if_neg h2] at h
      omega
  · rw [if_neg h1] at h
    omega
theorem sumL_neg : ∀ l : List XLine, sumL (l.map negL) = -sumL l
  | [] => rfl
  | x :: l => by rw [List.map_cons, sumL_cons, sumL_cons, sumL_neg l]; simp only [negL]; omega
theorem sumAt_neg (a p : Int) : ∀ l : List XLine, sumAt (l.map negL) a p = -sumAt l a p
  | [] => rfl
  | x :: l => by
    rw [List.map_cons, sumAt_cons, sumAt_cons, sumAt_neg a p l]
    have e : isAt a p (negL x) = isAt a p x := rfl
    rw [e]
    simp only [negL]
    split <;> omega
theorem absL_neg : ∀ l : List XLine, absL (l.map negL) = absL l
  | [] => rfl
  | x :: l => by rw [List.map_cons, absL_cons, absL_cons, absL_neg l]; simp only [negL]; omega
theorem lineB_neg {ne ent : Int} {x : XLine} (h : lineB ne ent x = true) : lineB ne ent (negL x) = true := by
  rw [lineB_iff] at h ⊢
  obtain ⟨h1, h2, h3, h4, h5⟩ := h
  refine ⟨by simp only [negL]; omega, ?_, h3, h4, h5⟩
  unfold monB at h2 ⊢
  simp only [decide_eq_true_eq] at h2 ⊢
  simp only [negL]
  omega
/-- The reversal of an entry. -/
def revE (x : XEntry) (nid nd : Int) : XEntry := ⟨nid, x.entity, nd, 3, x.id, x.text, x.lines.map negL⟩
/-- The reversal of a valid entry is valid, if its date is in the calendar. -/
theorem checkE_rev {g : XGroup} {x : XEntry} {nid : Int} (nd : Int) (h : checkE g x = 0) (hid : 1 ≤ nid) : checkE g (revE x nid nd) = if inCalB g.calendar.year g.calendar.month g.calendar.periods nd = true then 0 else 2 := by
  obtain ⟨h1, h2, _, h4⟩ := checkE_ok h
  have k1 : formB (groupB g) g.entities.length (revE x nid nd) = true := by
    rw [formB_iff] at h1 ⊢
    obtain ⟨a1, a2, a3, a4, a5, a6, a7, a8, a9, a10, a11, a12⟩ := h1
    refine ⟨a1, hid, a3, a4, by simp [revE], by simp [revE], fun _ => a2, fun h => absurd rfl h, a9, by simpa [revE] using a10, by simpa [revE] using a11, fun l hl => ?_⟩
    obtain ⟨y, hy, rfl⟩ := List.mem_map.1 hl
    exact lineB_neg (a12 y hy)
  have k2 : chartedB (g.entities.getD (revE x nid nd).entity.toNat {}).chart (revE x nid nd).lines = true := by
    unfold chartedB at h2 ⊢
    rw [List.all_eq_true] at h2 ⊢
    intro l hl
    obtain ⟨y, hy, rfl⟩ := List.mem_map.1 hl
    exact h2 y hy
  have k4 : sumL (revE x nid nd).lines = 0 := by show sumL (x.lines.map negL) = 0; rw [sumL_neg, h4]; rfl
  unfold checkE
  rw [if_pos k1, if_pos k2, if_pos k4]
  rfl
/-- Lines and their opposites have an empty normal form. -/
theorem norm_rev {l out : List XLine} (h : IsNorm (l ++ l.map negL) out) : out = [] := by
  refine List.eq_nil_iff_forall_not_mem.2 fun x hx => ?_
  obtain ⟨h1, h2⟩ := (h.2 x).1 hx
  rw [sumAt_app, sumAt_neg] at h1
  omega
section
variable {P : Program} (w : World)
/-- append to an empty slice that was made: only new memory. -/
theorem wp_app_made {o : Oper} {a : Act} {K : Act → World → Prop} {Q' : Exit → Act → World → Prop} (s x : Operand) (t : TypeId)
    (ho : o.op = .call { callee := .builtin .append, args := #[s, x], argTypes := #[t, t] })
    (base : Nat) (e : TypeId) (i : TypeInfo) (z : Value) (size bytes : Nat) (ht : P.underlying t = some (.slice e)) (hi : P.info? e = some i) (hz : i.zero = some z)
    (hsize : i.size = size) (hby : i.bytes = bytes) (hzs : z.cells.size = size) (hsz : 0 < size)
    (g : Nat) (hs : a.eval s = .slice (some ⟨g, 0, none⟩) 0 0) (hg : w.heap[g]? = some (.cells #[] e (0, 0))) (hgb : base ≤ g)
    (Q : Nat → Prop) (A : Option Addr) (m c : Nat) (news : List Value) (hx : a.eval x = .slice A m c) (hr : Rd w Q A m size news) (h1 : ∀ u ∈ news, u.oneCell' = true)
    (hm : 0 < m) (h63 : m ≤ maxLen) (hbytes : m * bytes ≤ 140737488355328) (hbase : base ≤ w.heap.size)
    (h : ∀ v' w', w'.ownsRow base e size v' m news → Below w.heap.size w w' → K (a.put o.dst v') w') : o.wp P a w K Q' := by
  have hown : w.ownsRow base e size (.slice (some ⟨g, 0, none⟩) 0 0) 0 [] := ⟨by simp, .inr ⟨g, 0, #[], rfl, hgb, hg, Nat.le_refl _, by simp [maxLen], by simp, by simp⟩⟩
  obtain ⟨v', w', hrun, h2, _, _⟩ := run_app (P := P) w base t o.type e i z size bytes ht hi hz hsize hby hzs hsz _ 0 [] hown Q A m c news hr h1 (by omega) (by simpa using hbytes) hbase
  obtain ⟨ad, hA, hc⟩ := hr.2 hm
  subst hA
  have hgrow := run_append_grow (P := P) w t o.type e i z ht hi hz ⟨g, 0, none⟩ 0 0 [] (by simp) (by simp) ad m c news (by rw [hsize]; exact hr.1) (fun j u hu => (hc.2 j u hu).1) (by omega) (by unfold maxLen at h63; omega) (by rw [hby]; exact growslice_fits (by omega) (by simpa using hbytes))
  obtain ⟨ob, hw⟩ : ∃ ob, w' = w.drew.alloc ob := by
    have := hrun.symm.trans hgrow
    simp only [Result.ok.injEq] at this
    exact ⟨_, this.2⟩
  have hb : Below w.heap.size w w' := by rw [hw]; exact ((Below.refl _ _).drew).alloc (Nat.le_refl _) _
  unfold Oper.wp execOp
  simp only [ho, resolve, invoke, builtin, Sem.run_bind, Sem.run_pure, Result.andThen_ok, List.map_toArray, List.map_cons, List.map_nil, hs, hx, hrun]
  exact h v' w' (by simpa using h2) hb
end
end Go.Proofs.Ytnigokmjehemaaa
