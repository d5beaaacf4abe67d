/- Groups: which groups are valid, in plain Lean. Written by gen_b20.py. -/
import Derived.Test.YtnigokmjehemaaaB1Text
import Derived.Test.YtnigokmjehemaaaB6Cal
import Derived.Test.YtnigokmjehemaaaB9Charts
import Derived.Test.YtnigokmjehemaaaB17Basis
import Derived.Test.YtnigokmjehemaaaB18Roles
namespace Go.Proofs.Ytnigokmjehemaaa
open Go Go.RowKit
set_option linter.unusedVariables false
set_option linter.unusedSimpArgs false
/-- A role: its account is in the chart, of its kind and basis; no role ahead of it has this account. -/
def roleRow (ch : List XAccount) (L : List XRole) (i : Nat) : Bool := match L[i]? with
  | none => false
  | some q => match findA ch q.code with
    | none => false
    | some a => a.kind == q.kind && a.basis == q.basis && !((L.take i).any fun p => p.code == q.code)
def rolesB (ch : List XAccount) (L : List XRole) : Bool := (List.range L.length).all (roleRow ch L)
def rolesOf (r : XRoles) : List XRole := rolesL r.investment r.goodwill r.associates r.inventory r.reserve r.minority r.retained r.acquired r.owners r.disposal r.associateProfit r.dividends r.minorityProfit r.difference r.margin
def accountsB (ch : List XAccount) (r : XRoles) : Bool := chartB ch true && ch.all basedB && rolesB ch (rolesOf r)
def linkB (ec ch : List XAccount) (l : XLink) : Bool := match findA ec l.from_ with
  | none => false
  | some a => match findA ch l.to_ with
    | none => false
    | some b => a.kind == b.kind && decide (inD l.since)
def linkRow (ec ch : List XAccount) (ls : List XLink) (i : Nat) : Bool := match ls[i]? with
  | none => false
  | some l => linkB ec ch l && !((ls.take i).any fun k => k.from_ == l.from_ && k.since == l.since)
def linksB (ec ch : List XAccount) (ls : List XLink) : Bool := (List.range ls.length).all (linkRow ec ch ls)
def mappingB (e : XEntity) (ch : List XAccount) : Bool := chartB ch true && chartB e.chart false && decide (e.links.length ≤ 400) && linksB e.chart ch e.links
/-- No link may lead to the account: some role that is not reachable has it. -/
def closedB (L : List XRole) (c : Int) : Bool := L.any fun q => q.code == c && !q.mapped
/-- The program's map: the last role with the account counts. -/
def closedP (L : List XRole) (c : Int) : Bool := L.foldl (fun b q => if c = q.code then !q.mapped else b) false
def entityB (ch : List XAccount) (L : List XRole) (e : XEntity) : Bool := nameB e.name && curB e.currency && mappingB e ch && e.links.all fun l => !closedB L l.to_
def entRow (ch : List XAccount) (L : List XRole) (es : List XEntity) (i : Nat) : Bool := match es[i]? with
  | none => false
  | some e => !((es.take i).any fun x => decide (x.name = e.name)) && entityB ch L e
def entsB (ch : List XAccount) (L : List XRole) (es : List XEntity) : Bool := (List.range es.length).all (entRow ch L es)
def groupB (g : XGroup) : Bool := curB g.currency && calB g.calendar.year g.calendar.month g.calendar.periods && accountsB g.chart g.roles && decide (1 ≤ g.entities.length ∧ g.entities.length ≤ 12) && !(g.entities.getD 0 {}).joint && entsB g.chart (rolesOf g.roles) g.entities
theorem roles_apart {ch : List XAccount} {L : List XRole} (h : rolesB ch L = true) {i j : Nat} (hij : i < j) (hj : j < L.length) : (L[i]'(by omega)).code ≠ L[j].code := by
  unfold rolesB at h
  rw [List.all_eq_true] at h
  have h1 := h j (List.mem_range.2 hj)
  unfold roleRow at h1
  rw [List.getElem?_eq_getElem hj] at h1
  simp only at h1
  cases hf : findA ch L[j].code with
  | none => rw [hf] at h1; cases h1
  | some a =>
    rw [hf] at h1
    simp only [Bool.and_eq_true, Bool.not_eq_true', List.any_eq_false, beq_iff_eq] at h1
    refine h1.2 _ ?_
    rw [List.mem_take_iff_getElem]
    exact ⟨i, by omega, rfl⟩
theorem closed_take {L : List XRole} {c : Int} {k : Nat} (hk : k < L.length) : closedP (L.take (k + 1)) c = (if c = L[k].code then !L[k].mapped else closedP (L.take k) c) := by
  unfold closedP
  rw [List.take_add_one, List.getElem?_eq_getElem hk, List.foldl_append]; rfl
theorem closed_both {L : List XRole} (hd : ∀ i j (hij : i < j) (hj : j < L.length), (L[i]'(by omega)).code ≠ L[j].code) (c : Int) : ∀ k, k ≤ L.length → closedP (L.take k) c = closedB (L.take k) c
  | 0, _ => rfl
  | k + 1, hk => by
    have hkl : k < L.length := hk
    rw [closed_take hkl, closed_both hd c k (by omega)]
    unfold closedB
    rw [List.take_add_one, List.getElem?_eq_getElem hkl, List.any_append]
    simp only [Option.toList_some, List.any_cons, List.any_nil, Bool.or_false]
    by_cases h : c = L[k].code
    · rw [if_pos h]
      have h0 : (L.take k).any (fun q => q.code == c && !q.mapped) = false := by
        rw [List.any_eq_false]
        intro q hq
        rw [List.mem_take_iff_getElem] at hq
        obtain ⟨i, hi, rfl⟩ := hq
        have := hd i k (by omega) hkl
        rw [h]
        simp [this]
      rw [h0, h]; simp
    · rw [if_neg h]
      have : (L[k].code == c) = false := by simpa using fun e => h e.symm
      rw [this]; simp
theorem closed_eq {ch : List XAccount} {L : List XRole} (h : rolesB ch L = true) (c : Int) : closedP L c = closedB L c := by
  have := closed_both (fun i j hij hj => roles_apart h hij hj) c L.length (Nat.le_refl _)
  rwa [List.take_length] at this
theorem take_any_succ {α : Type} {L : List α} {k : Nat} (hk : k < L.length) (p : α → Bool) : (L.take (k + 1)).any p = ((L.take k).any p || p L[k]) := by
  rw [List.take_add_one, List.getElem?_eq_getElem hk, List.any_append]; simp
end Go.Proofs.Ytnigokmjehemaaa
