/- Plain laws: every type is read back as it was written, and what is read has the bytes as its encoding. Written by gen_cod.py. -/
import Derived.Test.YtgdibeegheddmaaF1Laws
namespace Go.Proofs.Ytgdibeegheddmaa
open Go Go.RowKit
set_option linter.unusedVariables false
set_option linter.unusedSimpArgs false

/-- A way to write data as bytes, and to read them. -/
structure Cod (α : Type) where
  enc : α → List UInt8
  dec : List UInt8 → Option (α × List UInt8)
  ok : α → Prop
  fwd : ∀ x r, ok x → dec (enc x ++ r) = some (x, r)
  bwd : ∀ b x r, dec b = some (x, r) → b = enc x ++ r ∧ ok x

def decInt (b : List UInt8) : Option (Int × List UInt8) := (next b).map fun p => (p.1, b.drop p.2)
def cInt : Cod Int where
  enc := enc
  dec := decInt
  ok := intBd
  fwd := fun x r h => by simp [decInt, next_enc x r h]
  bwd := fun b x r h => by
    unfold decInt at h
    rw [Option.map_eq_some_iff] at h
    obtain ⟨⟨n, k⟩, h1, h2⟩ := h
    simp only [Prod.mk.injEq] at h2
    obtain ⟨rfl, rfl⟩ := h2
    obtain ⟨h3, h4, _⟩ := next_conv h1
    rw [h3, List.take_append_drop]
    exact ⟨rfl, h4⟩

def Cod.pair {α β : Type} (c : Cod α) (d : Cod β) : Cod (α × β) where
  enc := fun x => c.enc x.1 ++ d.enc x.2
  dec := fun b => (c.dec b).bind fun p => (d.dec p.2).map fun q => ((p.1, q.1), q.2)
  ok := fun x => c.ok x.1 ∧ d.ok x.2
  fwd := fun x r h => by
    rw [List.append_assoc, c.fwd _ _ h.1]
    simp [d.fwd _ _ h.2]
  bwd := fun b x r h => by
    rw [Option.bind_eq_some_iff] at h
    obtain ⟨p, h1, h2⟩ := h
    rw [Option.map_eq_some_iff] at h2
    obtain ⟨q, h3, h4⟩ := h2
    obtain ⟨h5, h6⟩ := c.bwd _ _ _ h1
    obtain ⟨h7, h8⟩ := d.bwd _ _ _ h3
    simp only [Prod.mk.injEq] at h4
    obtain ⟨rfl, rfl⟩ := h4
    exact ⟨by rw [List.append_assoc, ← h7]; exact h5, h6, h8⟩
def Cod.iso {α β : Type} (c : Cod α) (f : α → β) (g : β → α) (e : β → List UInt8) (he : ∀ y, e y = c.enc (g y)) (h1 : ∀ y, f (g y) = y) (h2 : ∀ x, g (f x) = x) : Cod β where
  enc := e
  dec := fun b => (c.dec b).map fun p => (f p.1, p.2)
  ok := fun y => c.ok (g y)
  fwd := fun y r h => by rw [he, c.fwd _ _ h]; simp [h1]
  bwd := fun b y r h => by
    rw [Option.map_eq_some_iff] at h
    obtain ⟨p, h3, h4⟩ := h
    simp only [Prod.mk.injEq] at h4
    obtain ⟨rfl, rfl⟩ := h4
    obtain ⟨h5, h6⟩ := c.bwd _ _ _ h3
    rw [he, h2]
    exact ⟨h5, h6⟩
theorem Cod.inj {α : Type} (c : Cod α) {x y : α} {r s : List UInt8} (hx : c.ok x) (hy : c.ok y) (h : c.enc x ++ r = c.enc y ++ s) : x = y ∧ r = s := by
  have h1 := c.fwd x r hx
  rw [h, c.fwd y s hy] at h1
  simp only [Option.some.injEq, Prod.mk.injEq] at h1
  exact ⟨h1.1.symm, h1.2.symm⟩
theorem Cod.inj_iff {α : Type} (c : Cod α) {x y : α} (hx : c.ok x) (hy : c.ok y) : c.enc x = c.enc y ↔ x = y :=
  ⟨fun h => (c.inj (r := []) (s := []) hx hy (by simp [h])).1, fun h => by rw [h]⟩

/-- What is left of the bytes; none: something was no encoding. -/
def Cod.st {α : Type} (c : Cod α) (o : Option (List UInt8)) : Option (List UInt8) := (o.bind c.dec).map (·.2)
/-- x is what is read, if something is. -/
def Cod.vl {α : Type} (c : Cod α) (o : Option (List UInt8)) (x : α) : Prop := ∀ p, o.bind c.dec = some p → p.1 = x
theorem Cod.st_pair {α β : Type} (c : Cod α) (d : Cod β) (o : Option (List UInt8)) : (Cod.pair c d).st o = d.st (c.st o) := by
  cases o with
  | none => rfl
  | some b =>
    show ((c.dec b).bind fun p => (d.dec p.2).map fun q => ((p.1, q.1), q.2)).map (·.2) = ((((c.dec b).map (·.2)).bind d.dec).map (·.2))
    cases c.dec b with
    | none => rfl
    | some p => simp; cases d.dec p.2 <;> rfl
theorem Cod.vl_pair {α β : Type} {c : Cod α} {d : Cod β} {o : Option (List UInt8)} {x : α} {y : β} (hx : c.vl o x) (hy : d.vl (c.st o) y) : (Cod.pair c d).vl o (x, y) := by
  intro p hp
  cases o with
  | none => cases hp
  | some b =>
    have hp' : ((c.dec b).bind fun p => (d.dec p.2).map fun q => ((p.1, q.1), q.2)) = some p := hp
    rw [Option.bind_eq_some_iff] at hp'
    obtain ⟨q, h1, h2⟩ := hp'
    rw [Option.map_eq_some_iff] at h2
    obtain ⟨s, h3, rfl⟩ := h2
    have e1 := hx q h1
    have e2 := hy s (by simp [Cod.st, h1, h3])
    simp [e1, e2]
theorem Cod.st_iso {α β : Type} (c : Cod α) (f : α → β) (g : β → α) (e : β → List UInt8) (he : ∀ y, e y = c.enc (g y)) (h1 : ∀ y, f (g y) = y) (h2 : ∀ x, g (f x) = x) (o : Option (List UInt8)) : (c.iso f g e he h1 h2).st o = c.st o := by
  cases o with
  | none => rfl
  | some b =>
    show ((c.dec b).map fun p => (f p.1, p.2)).map (·.2) = (c.dec b).map (·.2)
    cases c.dec b <;> rfl
theorem Cod.vl_iso {α β : Type} {c : Cod α} {f : α → β} {g : β → α} {e : β → List UInt8} {he : ∀ y, e y = c.enc (g y)} {h1 : ∀ y, f (g y) = y} {h2 : ∀ x, g (f x) = x} {o : Option (List UInt8)} {y : β} (h : c.vl o (g y)) : (c.iso f g e he h1 h2).vl o y := by
  intro p hp
  cases o with
  | none => cases hp
  | some b =>
    have hp' : ((c.dec b).map fun p => (f p.1, p.2)) = some p := hp
    rw [Option.map_eq_some_iff] at hp'
    obtain ⟨q, h3, rfl⟩ := hp'
    rw [h q h3]
    exact h1 y
theorem Cod.st_none {α : Type} (c : Cod α) : c.st none = none := rfl
theorem Cod.vl_none {α : Type} (c : Cod α) (x : α) : c.vl none x := fun p h => by cases h

def decStr (b : List UInt8) : Option (ByteArray × List UInt8) := (decInt b).bind fun p => if 0 ≤ p.1 ∧ p.1 ≤ (p.2.length : Int) then some (bstr (p.2.take p.1.toNat), p.2.drop p.1.toNat) else none
theorem sb_bstr (l : List UInt8) : sb (bstr l) = l := rfl
theorem bstr_sb (s : ByteArray) : bstr (sb s) = s := by
  unfold bstr sb; simp
theorem bstr_size (l : List UInt8) : (bstr l).size = l.length := by simp [bstr, ByteArray.size]
def cStr : Cod ByteArray where
  enc := encS
  dec := decStr
  ok := fun s => intBd s.size
  fwd := fun s r h => by
    have h1 := cInt.fwd (s.size : Int) (sb s ++ r) h
    have e : encS s ++ r = enc s.size ++ (sb s ++ r) := by simp [encS]
    unfold decStr
    rw [e, show decInt (enc s.size ++ (sb s ++ r)) = some ((s.size : Int), sb s ++ r) from h1]
    have hl := sb_length s
    simp only [Option.bind_some]
    rw [if_pos (by simp; omega)]
    have e2 : (s.size : Int).toNat = (sb s).length := by omega
    rw [e2, List.take_left, List.drop_left, bstr_sb]
  bwd := fun b s r h => by
    unfold decStr at h
    rw [Option.bind_eq_some_iff] at h
    obtain ⟨⟨n, q⟩, h1, h2⟩ := h
    by_cases hc : 0 ≤ n ∧ n ≤ (q.length : Int)
    · rw [if_pos hc] at h2
      simp only [Option.some.injEq, Prod.mk.injEq] at h2
      obtain ⟨rfl, rfl⟩ := h2
      obtain ⟨h3, h4⟩ := cInt.bwd b n q h1
      have hl : (q.take n.toNat).length = n.toNat := by simp; omega
      have e1 : ((bstr (q.take n.toNat)).size : Int) = n := by rw [bstr_size, hl]; omega
      refine ⟨?_, by rw [e1]; exact h4⟩
      unfold encS
      rw [e1, sb_bstr, List.append_assoc, List.take_append_drop]
      exact h3
    · rw [if_neg hc] at h2; cases h2
def decBool (b : List UInt8) : Option (Bool × List UInt8) := (decInt b).bind fun p => if p.1 = 0 then some (false, p.2) else if p.1 = 1 then some (true, p.2) else none
def cBool : Cod Bool where
  enc := encB
  dec := decBool
  ok := fun _ => True
  fwd := fun x r _ => by
    have h1 := cInt.fwd (if x then 1 else 0) r (by cases x <;> simp [cInt, intBd])
    unfold decBool encB
    rw [show decInt (enc (if x then 1 else 0) ++ r) = some ((if x then 1 else 0 : Int), r) from h1]
    cases x <;> simp
  bwd := fun b x r h => by
    unfold decBool at h
    rw [Option.bind_eq_some_iff] at h
    obtain ⟨⟨n, q⟩, h1, h2⟩ := h
    have h3 := (cInt.bwd b n q h1).1
    by_cases h0 : n = 0
    · subst h0
      simp at h2
      obtain ⟨rfl, rfl⟩ := h2
      exact ⟨h3, trivial⟩
    · by_cases h9 : n = 1
      · subst h9
        simp at h2
        obtain ⟨rfl, rfl⟩ := h2
        exact ⟨h3, trivial⟩
      · rw [if_neg h0, if_neg h9] at h2; cases h2
def decN {α : Type} (d : List UInt8 → Option (α × List UInt8)) : Nat → List UInt8 → Option (List α × List UInt8)
  | 0, r => some ([], r)
  | n + 1, r => (d r).bind fun p => (decN d n p.2).map fun q => (p.1 :: q.1, q.2)
theorem decN_fwd {α : Type} (c : Cod α) : ∀ (l : List α) (r : List UInt8), (∀ x ∈ l, c.ok x) → decN c.dec l.length (l.flatMap c.enc ++ r) = some (l, r)
  | [], r, _ => rfl
  | x :: l, r, h => by
    simp only [List.length_cons, decN, List.flatMap_cons, List.append_assoc]
    rw [c.fwd x _ (h x List.mem_cons_self)]
    simp only [Option.bind_some]
    rw [decN_fwd c l r (fun y hy => h y (List.mem_cons_of_mem _ hy))]
    rfl
theorem decN_bwd {α : Type} (c : Cod α) : ∀ (n : Nat) (b : List UInt8) (l : List α) (r : List UInt8), decN c.dec n b = some (l, r) → b = l.flatMap c.enc ++ r ∧ l.length = n ∧ ∀ x ∈ l, c.ok x
  | 0, b, l, r, h => by
    simp only [decN, Option.some.injEq, Prod.mk.injEq] at h
    obtain ⟨rfl, rfl⟩ := h
    exact ⟨rfl, rfl, fun x hx => by cases hx⟩
  | n + 1, b, l, r, h => by
    simp only [decN] at h
    rw [Option.bind_eq_some_iff] at h
    obtain ⟨p, h1, h2⟩ := h
    rw [Option.map_eq_some_iff] at h2
    obtain ⟨q, h3, h4⟩ := h2
    simp only [Prod.mk.injEq] at h4
    obtain ⟨rfl, rfl⟩ := h4
    obtain ⟨h5, h6⟩ := c.bwd _ _ _ h1
    obtain ⟨h7, h8, h9⟩ := decN_bwd c n _ _ _ h3
    refine ⟨?_, by simp [h8], fun x hx => ?_⟩
    · rw [List.flatMap_cons, List.append_assoc, ← h7]; exact h5
    · rcases List.mem_cons.1 hx with rfl | hx
      · exact h6
      · exact h9 x hx
def decL {α : Type} (d : List UInt8 → Option (α × List UInt8)) (b : List UInt8) : Option (List α × List UInt8) := (decInt b).bind fun p => if p.1 < 0 then none else decN d p.1.toNat p.2
def cList {α : Type} (c : Cod α) : Cod (List α) where
  enc := encL c.enc
  dec := decL c.dec
  ok := fun l => intBd l.length ∧ ∀ x ∈ l, c.ok x
  fwd := fun l r h => by
    have h1 := cInt.fwd (l.length : Int) (l.flatMap c.enc ++ r) h.1
    have e : encL c.enc l ++ r = enc l.length ++ (l.flatMap c.enc ++ r) := by simp [encL]
    unfold decL
    rw [e, show decInt (enc l.length ++ (l.flatMap c.enc ++ r)) = some ((l.length : Int), l.flatMap c.enc ++ r) from h1]
    simp only [Option.bind_some]
    rw [if_neg (by omega), show (l.length : Int).toNat = l.length from by omega]
    exact decN_fwd c l r h.2
  bwd := fun b l r h => by
    unfold decL at h
    rw [Option.bind_eq_some_iff] at h
    obtain ⟨⟨n, q⟩, h1, h2⟩ := h
    obtain ⟨h3, h4⟩ := cInt.bwd b n q h1
    by_cases hn : n < 0
    · rw [if_pos hn] at h2; cases h2
    · rw [if_neg hn] at h2
      obtain ⟨h5, h6, h7⟩ := decN_bwd c _ _ _ _ h2
      have e : (l.length : Int) = n := by rw [h6]; show ((n.toNat : Nat) : Int) = n; omega
      refine ⟨?_, by rw [e]; exact h4, h7⟩
      unfold encL
      rw [e, List.append_assoc]
      show b = enc n ++ _
      rw [← h5]; exact h3
def cLine : Cod XLine := Cod.iso (Cod.pair cInt (Cod.pair cInt (cInt))) (fun p : Int × Int × Int => { account := p.1, amount := p.2.1, partner := p.2.2 }) (fun x => (x.account, x.amount, x.partner)) encLine (fun x => by simp only [Cod.pair, encLine, List.append_assoc]; rfl) (fun _ => rfl) (fun _ => rfl)
def cEntry : Cod XEntry := Cod.iso (Cod.pair cInt (Cod.pair cInt (Cod.pair cInt (Cod.pair cInt (Cod.pair cInt (Cod.pair cStr ((cList cLine)))))))) (fun p : Int × Int × Int × Int × Int × ByteArray × List XLine => { id := p.1, entity := p.2.1, date := p.2.2.1, kind := p.2.2.2.1, of_ := p.2.2.2.2.1, text := p.2.2.2.2.2.1, lines := p.2.2.2.2.2.2 }) (fun x => (x.id, x.entity, x.date, x.kind, x.of_, x.text, x.lines)) encEntry (fun x => by simp only [Cod.pair, encEntry, List.append_assoc]; rfl) (fun _ => rfl) (fun _ => rfl)
def cRate : Cod XRate := Cod.iso (Cod.pair cStr (Cod.pair cInt (Cod.pair cInt (cInt)))) (fun p : ByteArray × Int × Int × Int => { currency := p.1, kind := p.2.1, when_ := p.2.2.1, value := p.2.2.2 }) (fun x => (x.currency, x.kind, x.when_, x.value)) encRate (fun x => by simp only [Cod.pair, encRate, List.append_assoc]; rfl) (fun _ => rfl) (fun _ => rfl)
def cHolding : Cod XHolding := Cod.iso (Cod.pair cInt (Cod.pair cInt (Cod.pair cInt (cInt)))) (fun p : Int × Int × Int × Int => { holder := p.1, entity := p.2.1, date := p.2.2.1, share := p.2.2.2 }) (fun x => (x.holder, x.entity, x.date, x.share)) encHolding (fun x => by simp only [Cod.pair, encHolding, List.append_assoc]; rfl) (fun _ => rfl) (fun _ => rfl)
def cRef : Cod XRef := Cod.iso (Cod.pair cInt (cInt)) (fun p : Int × Int => { entry := p.1, line := p.2 }) (fun x => (x.entry, x.line)) encRef (fun x => by simp only [Cod.pair, encRef, List.append_assoc]; rfl) (fun _ => rfl) (fun _ => rfl)
def cMatch : Cod XMatch := Cod.iso (Cod.pair cInt (Cod.pair (cList cRef) (Cod.pair (cList cRef) (cInt)))) (fun p : Int × List XRef × List XRef × Int => { id := p.1, left := p.2.1, right := p.2.2.1, state := p.2.2.2 }) (fun x => (x.id, x.left, x.right, x.state)) encMatch (fun x => by simp only [Cod.pair, encMatch, List.append_assoc]; rfl) (fun _ => rfl) (fun _ => rfl)
def cStock : Cod XStock := Cod.iso (Cod.pair cInt (Cod.pair cInt (Cod.pair cInt (Cod.pair cInt (cInt))))) (fun p : Int × Int × Int × Int × Int => { period := p.1, seller := p.2.1, buyer := p.2.2.1, amount := p.2.2.2.1, margin := p.2.2.2.2 }) (fun x => (x.period, x.seller, x.buyer, x.amount, x.margin)) encStock (fun x => by simp only [Cod.pair, encStock, List.append_assoc]; rfl) (fun _ => rfl) (fun _ => rfl)
def cAccount : Cod XAccount := Cod.iso (Cod.pair cInt (Cod.pair cInt (Cod.pair cInt (cInt)))) (fun p : Int × Int × Int × Int => { code := p.1, kind := p.2.1, basis := p.2.2.1, parent := p.2.2.2 }) (fun x => (x.code, x.kind, x.basis, x.parent)) encAccount (fun x => by simp only [Cod.pair, encAccount, List.append_assoc]; rfl) (fun _ => rfl) (fun _ => rfl)
def cLink : Cod XLink := Cod.iso (Cod.pair cInt (Cod.pair cInt (cInt))) (fun p : Int × Int × Int => ⟨p.1, p.2.1, p.2.2⟩) (fun x => (x.from_, x.2, x.since)) encLink (fun x => by simp only [Cod.pair, encLink, List.append_assoc]; rfl) (fun _ => rfl) (fun _ => rfl)
def cEntity : Cod XEntity := Cod.iso (Cod.pair cStr (Cod.pair cStr (Cod.pair (cList cAccount) (Cod.pair (cList cLink) (cBool))))) (fun p : ByteArray × ByteArray × List XAccount × List XLink × Bool => { name := p.1, currency := p.2.1, chart := p.2.2.1, links := p.2.2.2.1, joint := p.2.2.2.2 }) (fun x => (x.name, x.currency, x.chart, x.links, x.joint)) encEntity (fun x => by simp only [Cod.pair, encEntity, List.append_assoc]; rfl) (fun _ => rfl) (fun _ => rfl)
def cCal : Cod XCal := Cod.iso (Cod.pair cInt (Cod.pair cInt (cInt))) (fun p : Int × Int × Int => { year := p.1, month := p.2.1, periods := p.2.2 }) (fun x => (x.year, x.month, x.periods)) encCal (fun x => by simp only [Cod.pair, encCal, List.append_assoc]; rfl) (fun _ => rfl) (fun _ => rfl)
def cRoles : Cod XRoles := Cod.iso (Cod.pair cInt (Cod.pair cInt (Cod.pair cInt (Cod.pair cInt (Cod.pair cInt (Cod.pair cInt (Cod.pair cInt (Cod.pair cInt (Cod.pair cInt (Cod.pair cInt (Cod.pair cInt (Cod.pair cInt (Cod.pair cInt (Cod.pair cInt (cInt))))))))))))))) (fun p : Int × Int × Int × Int × Int × Int × Int × Int × Int × Int × Int × Int × Int × Int × Int => { investment := p.1, goodwill := p.2.1, associates := p.2.2.1, inventory := p.2.2.2.1, reserve := p.2.2.2.2.1, minority := p.2.2.2.2.2.1, retained := p.2.2.2.2.2.2.1, acquired := p.2.2.2.2.2.2.2.1, owners := p.2.2.2.2.2.2.2.2.1, disposal := p.2.2.2.2.2.2.2.2.2.1, associateProfit := p.2.2.2.2.2.2.2.2.2.2.1, dividends := p.2.2.2.2.2.2.2.2.2.2.2.1, minorityProfit := p.2.2.2.2.2.2.2.2.2.2.2.2.1, difference := p.2.2.2.2.2.2.2.2.2.2.2.2.2.1, margin := p.2.2.2.2.2.2.2.2.2.2.2.2.2.2 }) (fun x => (x.investment, x.goodwill, x.associates, x.inventory, x.reserve, x.minority, x.retained, x.acquired, x.owners, x.disposal, x.associateProfit, x.dividends, x.minorityProfit, x.difference, x.margin)) encRoles (fun x => by simp only [Cod.pair, encRoles, List.append_assoc]; rfl) (fun _ => rfl) (fun _ => rfl)
def cGroup : Cod XGroup := Cod.iso (Cod.pair cStr (Cod.pair cCal (Cod.pair (cList cAccount) (Cod.pair cRoles ((cList cEntity)))))) (fun p : ByteArray × XCal × List XAccount × XRoles × List XEntity => { currency := p.1, calendar := p.2.1, chart := p.2.2.1, roles := p.2.2.2.1, entities := p.2.2.2.2 }) (fun x => (x.currency, x.calendar, x.chart, x.roles, x.entities)) encGroup (fun x => by simp only [Cod.pair, encGroup, List.append_assoc]; rfl) (fun _ => rfl) (fun _ => rfl)
def cBooks : Cod XBooks := Cod.iso (Cod.pair cGroup (Cod.pair (cList cEntry) (Cod.pair (cList cRate) (Cod.pair (cList cHolding) (Cod.pair (cList cMatch) (Cod.pair (cList cStock) (cStr))))))) (fun p : XGroup × List XEntry × List XRate × List XHolding × List XMatch × List XStock × ByteArray => { group := p.1, entries := p.2.1, rates := p.2.2.1, holdings := p.2.2.2.1, matches_ := p.2.2.2.2.1, stocks := p.2.2.2.2.2.1, rules := p.2.2.2.2.2.2 }) (fun x => (x.group, x.entries, x.rates, x.holdings, x.matches_, x.stocks, x.rules)) encBooks (fun x => by simp only [Cod.pair, encBooks, List.append_assoc]; rfl) (fun _ => rfl) (fun _ => rfl)
def cEvent : Cod XEvent := Cod.iso (Cod.pair cInt (Cod.pair cEntry (Cod.pair cRate (Cod.pair cHolding (Cod.pair cMatch (Cod.pair cStock (Cod.pair cInt (Cod.pair cInt (cStr))))))))) (fun p : Int × XEntry × XRate × XHolding × XMatch × XStock × Int × Int × ByteArray => { kind := p.1, entry := p.2.1, rate := p.2.2.1, holding := p.2.2.2.1, match_ := p.2.2.2.2.1, stock := p.2.2.2.2.2.1, a := p.2.2.2.2.2.2.1, b := p.2.2.2.2.2.2.2.1, text := p.2.2.2.2.2.2.2.2 }) (fun x => (x.kind, x.entry, x.rate, x.holding, x.match_, x.stock, x.a, x.b, x.text)) encEvent (fun x => by simp only [Cod.pair, encEvent, List.append_assoc]; rfl) (fun _ => rfl) (fun _ => rfl)
end Go.Proofs.Ytgdibeegheddmaa
