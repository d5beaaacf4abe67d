/- Locks as keys of a map; the set of locks. -/
import Derived.Test.YtekelchdbkjjjaaG19xB0B3
import Derived.Test.YtekelchdbkjjjaaG19xB4B12
import Derived.Test.YtekelchdbkjjjaaG19xB13B14
import Derived.Test.YtekelchdbkjjjaaG19xB15S0
import Derived.Test.YtekelchdbkjjjaaG19xB21B27
import Derived.Test.YtekelchdbkjjjaaG19xB28S2
import Derived.Test.YtekelchdbkjjjaaG19xC4E3
import Derived.Test.YtekelchdbkjjjaaG19xE5H1
import Derived.Test.YtekelchdbkjjjaaG19xH2I7
import Derived.Test.YtekelchdbkjjjaaG19xI8I13
import Derived.Test.YtekelchdbkjjjaaG19xI14I15
import Derived.Test.YtekelchdbkjjjaaG19xI16
import Derived.Test.YtekelchdbkjjjaaG19xI19Q2
import Derived.Maps.RangeWalk
import Derived.Shelf.SlSortCmp.WholeK
import Derived.Shelf.SlSortCmp.NoneTotal
import Derived.Shelf.SlIter.Collect
import Derived.Maps.OwnSet
import Derived.Test.YtekelchdbkjjjaaProg
import Derived.RangeFuncNested
import Derived.RangeFuncBound
import Derived.RangeFuncCalls
import Derived.RangeFuncLeaves
import Derived.Shelf.Abstract
import Derived.Shelf.RegionOpen
import Derived.WalkKit
import Derived.OwnWalkIn
import Derived.TacticsInMore
import Derived.LoopNIn
import Derived.LoopIn
import Derived.RangeFuncWrites
import Derived.Sort.CutIn
set_option linter.unusedVariables false
set_option linter.unusedSimpArgs false
set_option maxRecDepth 4000
attribute [local go_sem ↓] Go.wp_at_zero Go.wp_at_succ
namespace Go.Proofs.Ytekelchdbkjjjaa
open Go Go.RowKit Go.ChangeMaps
open Go.Maps (Keyed)
open Go.WideMaps (KeyLaw)
abbrev KK := {p : Int × Int // intBd p.1 ∧ intBd p.2}
def kKey (c : KK) : Lit := .string (keyBytes [.int .i64 c.1.1, .int .i64 c.1.2])
section
variable {w w' : World} {b n : Nat} {f : KK → Bool}
end
end Go.Proofs.Ytekelchdbkjjjaa
namespace Go.Proofs.Ytekelchdbkjjjaa
open Go Go.RowKit Go.ChangeMaps
open Go.Maps (Keyed)
def MostP (f : KK → Bool) (e last : Int) : Prop := (∀ c : KK, f c = true → c.1.1 = e → c.1.2 ≤ last) ∧ (last = -1 ∨ ∃ c : KK, f c = true ∧ c.1.1 = e ∧ c.1.2 = last)
theorem MostP.uniq {f : KK → Bool} {e a b : Int} (hp : ∀ c, f c = true → 0 ≤ c.1.2) (ha : MostP f e a) (hb : MostP f e b) : a = b := by
 rcases ha.2 with h1 | ⟨c, h1, h2, h3⟩ <;> rcases hb.2 with k1 | ⟨d, k1, k2, k3⟩
 · omega
 · have := ha.1 d k1 k2; have := hp d k1; omega
 · have := hb.1 c h1 h2; have := hp c h1; omega
 · have := ha.1 d k1 k2; have := hb.1 c h1 h2; omega
def KInv (f : KK → Bool) (e : Int) (left : Lit → Bool) (last : Int) : Prop := (∀ c : KK, left (kKey c) = true → f c = true) ∧ (∀ c : KK, f c = true → c.1.1 = e → left (kKey c) = false → c.1.2 ≤ last) ∧ (last = -1 ∨ ∃ c : KK, f c = true ∧ c.1.1 = e ∧ c.1.2 = last) ∧ -1 ≤ last ∧ last ≤ 1000
theorem KInv.done {f : KK → Bool} {e last : Int} {left : Lit → Bool} (h : KInv f e left last) (hl : ∀ kl, left kl = false) : MostP f e last := ⟨fun c hf hc => h.2.1 c hf hc (hl _), h.2.2.1⟩
def untD (y m p last : Int) : Int := if last < 0 then 0 else (calLast y m p last).1
end Go.Proofs.Ytekelchdbkjjjaa
namespace Go.Proofs.Ytekelchdbkjjjaa
open Go Go.RowKit
def chkL (y m p ne e d last : Int) : Int := if e < 0 ∨ ne ≤ e then 1 else if 0 ≤ last ∧ d ≤ untD y m p last then 12 else 0
def bdS (x : XStep) : Prop := intBd x.entity ∧ intBd x.period
instance (x : XStep) : Decidable (bdS x) := by unfold bdS intBd; infer_instance
theorem kk0 : intBd ((0 : Int), (0 : Int)).1 ∧ intBd ((0 : Int), (0 : Int)).2 := by unfold intBd; omega
theorem MostP.same {f g : KK → Bool} {e a : Int} (h : ∀ c : KK, c.1.1 = e → f c = g c) (ha : MostP f e a) : MostP g e a :=
 ⟨fun c hc he => ha.1 c ((h c he).trans hc) he, ha.2.imp id (fun ⟨c, h1, h2, h3⟩ => ⟨c, (h c h2).symm.trans h1, h2, h3⟩)⟩
def ckP (y m p ne : Int) (f : KK → Bool) (e d r : Int) : Prop := (e < 0 ∨ ne ≤ e) ∧ r = 1 ∨ ∃ last, MostP f e last ∧ -1 ≤ last ∧ r = chkL y m p ne e d last
theorem ckP.uniq {y m p ne : Int} {f g : KK → Bool} {e d r s : Int} (hf : ∀ c, f c = true → 0 ≤ c.1.2) (h : ∀ c : KK, c.1.1 = e → f c = g c) (h1 : ckP y m p ne f e d r) (h2 : ckP y m p ne g e d s) : r = s := by
 rcases h1 with ⟨a, rfl⟩ | ⟨l1, m1, b1, rfl⟩
 · rcases h2 with ⟨_, rfl⟩ | ⟨l2, m2, b2, rfl⟩
   · rfl
   · unfold chkL; rw [if_pos a]
 · rcases h2 with ⟨a, rfl⟩ | ⟨l2, m2, b2, rfl⟩
   · unfold chkL; rw [if_pos a]
   · rw [m1.uniq hf (m2.same (fun c hc => (h c hc).symm))]
def ltK (a c : KK) : Prop := a.1.1 < c.1.1 ∨ a.1.1 = c.1.1 ∧ a.1.2 < c.1.2
theorem ltK_irr (a : KK) : ¬ ltK a a := fun h => by unfold ltK at h; omega
theorem ltK_trans {a b c : KK} (h : ltK a b) (h2 : ltK b c) : ltK a c := by unfold ltK at *; omega
theorem sortedK_uniq : ∀ {a b : List KK}, a.Pairwise ltK → b.Pairwise ltK → (∀ c, c ∈ a ↔ c ∈ b) → a = b
 | [], [], _, _, _ => rfl
 | [], y :: b, _, _, h => absurd ((h y).2 (List.mem_cons_self ..)) (by simp)
 | x :: a, [], _, _, h => absurd ((h x).1 (List.mem_cons_self ..)) (by simp)
 | x :: a, y :: b, ha, hb, h => by
  obtain ⟨ha1, ha2⟩ := List.pairwise_cons.1 ha
  obtain ⟨hb1, hb2⟩ := List.pairwise_cons.1 hb
  have hxy : x = y := by
   rcases List.mem_cons.1 ((h x).1 (List.mem_cons_self ..)) with e | hx
   · exact e
   · rcases List.mem_cons.1 ((h y).2 (List.mem_cons_self ..)) with e | hy
     · exact e.symm
     · exact absurd (ltK_trans (hb1 x hx) (ha1 y hy)) (ltK_irr y)
  subst hxy
  rw [sortedK_uniq ha2 hb2 (fun c => ?_)]
  constructor
  · intro hc
    rcases List.mem_cons.1 ((h c).1 (List.mem_cons_of_mem _ hc)) with e | h2
    · subst e; exact absurd (ha1 c hc) (ltK_irr c)
    · exact h2
  · intro hc
    rcases List.mem_cons.1 ((h c).2 (List.mem_cons_of_mem _ hc)) with e | h2
    · subst e; exact absurd (hb1 c hc) (ltK_irr c)
    · exact h2
def ListK (f : KK → Bool) (ks : List KK) : Prop := ks.Pairwise ltK ∧ ∀ c, c ∈ ks ↔ f c = true
theorem ListK.uniq {f g : KK → Bool} {a b : List KK} (h : ∀ c, f c = g c) (ha : ListK f a) (hb : ListK g b) : a = b := sortedK_uniq ha.1 hb.1 (fun c => by rw [ha.2, hb.2, h])
abbrev stepL (x : XStep) : List Value := [.int .i64 x.entity, .int .i64 x.period, .bool x.unlock]
theorem StepC.lit {w : World} {Q : Nat → Prop} {cs : List Value} {x : XStep} (h : StepC w Q cs x) : cs = stepL x ∧ bdS x := by
 obtain ⟨c0, c1, c2, rfl, ⟨rfl, h0⟩, ⟨rfl, h1⟩, h2⟩ := h
 have e2 : c2 = _ := h2
 subst e2
 exact ⟨rfl, h0, h1⟩
end Go.Proofs.Ytekelchdbkjjjaa
namespace Go.Proofs.Ytekelchdbkjjjaa
open Go Go.RowKit Go.Sort
def kL (c : KK) : List Value := [.int .i64 c.1.1, .int .i64 c.1.2]
end Go.Proofs.Ytekelchdbkjjjaa
namespace Go.Proofs.Ytekelchdbkjjjaa
open Go Go.RowKit Go.Shelf Go.Lib
open Go.Sort hiding Below
instance : Inhabited KK := ⟨⟨(0, 0), kk0⟩⟩
def KC (w : World) (Q : Nat → Prop) (cs : List Value) (c : KK) : Prop := cs = kL c
end Go.Proofs.Ytekelchdbkjjjaa
namespace Go.Proofs.Ytekelchdbkjjjaa
open Go Go.RowKit Go.Shelf
open Go.Maps (Keyed)
def CollK (f : KK → Bool) (left : Lit → Bool) (ss : List KK) : Prop := ss.Nodup ∧ (∀ c, c ∈ ss ↔ (f c = true ∧ left (kKey c) = false)) ∧ ∀ c, left (kKey c) = true → f c = true
def AllK (f : KK → Bool) (ss : List KK) : Prop := ss.Nodup ∧ ∀ c, c ∈ ss ↔ f c = true
theorem CollK.done {f : KK → Bool} {left : Lit → Bool} {ss : List KK} (h : CollK f left ss) (hl : ∀ kl, left kl = false) : AllK f ss := ⟨h.1, fun c => by rw [h.2.1 c, hl]; simp⟩
theorem wpListIn_load_row {F : Fence} {n : Nat} {P : Program} {ops : Array Oper} {rest : List Oper} {o : Oper} {a : Act} {w : World} {Q : Exit → Act → World → Prop} (hgd : o.guard = none) (ty : TypeId) (x : Operand) (ho : o.op = .load ty x)
 (g : Nat) (hx : a.eval x = .pointer (some ⟨g, 0, none⟩)) (t : TypeId) (cs : Array Value) (fr : Nat × Nat) (d : TypeDesc) (hg : w.heap[g]? = some (.cells cs t fr))
 (hu : P.underlying ty = some d) (hd : (match d with | .struct _ | .array _ _ => true | _ => false) = true) (hi : (P.info? ty).map (·.size) = some cs.size)
 (h : wpListIn F n P ops Q rest (a.put o.dst (.agg cs)) w) : wpListIn F n P ops Q (o :: rest) a w := by
 refine wpListIn_plain hgd fun K hK => ?_
 unfold Oper.wpIn
 refine ⟨by simp [Oper.about, ho], ?_⟩
 rw [Oper.semAt_plain F _ _ (by rw [ho]; intro c hc'; cases hc')]
 have hrun := run_loadVar_row w g t ty cs fr d hg hu hd hi
 unfold execOp
 simp only [ho, hx, Instr.loadAt, Instr.sureAddr, Sem.run_bind, Sem.run_pure, Result.andThen_ok]
 rw [hrun]
 simp only [Result.andThen_ok]
 exact hK _ _ h
end Go.Proofs.Ytekelchdbkjjjaa
namespace Go.Proofs.Ytekelchdbkjjjaa
open Go Go.RowKit
theorem KC.fr {w w' : World} {Q : Nat → Prop} {cs : List Value} {c : KK} (h : KC w Q cs c) : KC w' Q cs c := h
theorem KC.mono {w : World} {Q Q' : Nat → Prop} {cs : List Value} {c : KK} (h : KC w Q cs c) : KC w Q' cs c := h
def OutN (B : Nat) (es : List XEntry) (v : Value) (w : World) : Prop := ∃ css : List (List Value), css.length = es.length ∧ w.ownsRow B 36 7 v es.length css.flatten ∧ (∀ cs ∈ css, cs.length = 7) ∧ ∀ (i : Nat) x, es[i]? = some x → ∃ cs, css[i]? = some cs ∧ EntryC w (fun q => (B ≤ q ∧ q < w.heap.size) ∧ v.ownBlock ≠ some q) cs x
theorem OutN.list {B : Nat} {es : List XEntry} {v : Value} {w : World} (h : OutN B es v w) : ListC EntryC 7 w (fun q => B ≤ q ∧ q < w.heap.size) [v] es := by
 obtain ⟨css, h1, h2, h3, h4⟩ := h
 exact own_list h3 h2 (fun i x hx => by
  obtain ⟨cs, k1, k2⟩ := h4 i x hx
  exact ⟨cs, k1, EntryC.mono k2 (fun q hq => hq.1)⟩) (fun q hq => h2.lt _ hq)
def sumQ (q : Int → Int → Int) (acc d : Int) (l : List XLine) : Int := (l.map (fun y => if y.account = acc then q d y.amount else 0)).sum
def sumE (q : Int → Int → Int) (es : List XEntry) (ent acc : Int) : Int := (es.map (fun x => if x.entity = ent then sumQ q acc x.date x.lines else 0)).sum
theorem sumQ_cons (q : Int → Int → Int) (acc d : Int) (y : XLine) (l : List XLine) : sumQ q acc d (y :: l) = (if y.account = acc then q d y.amount else 0) + sumQ q acc d l := by simp [sumQ]
theorem sumE_nil (q : Int → Int → Int) (ent acc : Int) : sumE q [] ent acc = 0 := rfl
theorem sumE_cons (q : Int → Int → Int) (x : XEntry) (es : List XEntry) (ent acc : Int) : sumE q (x :: es) ent acc = (if x.entity = ent then sumQ q acc x.date x.lines else 0) + sumE q es ent acc := by simp [sumE]
theorem sumE_app (q : Int → Int → Int) (es fs : List XEntry) (ent acc : Int) : sumE q (es ++ fs) ent acc = sumE q es ent acc + sumE q fs ent acc := by simp [sumE]
theorem sumQ_congr {q r : Int → Int → Int} {d : Int} (acc : Int) : ∀ {l : List XLine}, (∀ y ∈ l, q d y.amount = r d y.amount) → sumQ q acc d l = sumQ r acc d l
 | [], _ => rfl
 | y :: l, h => by
  rw [sumQ_cons, sumQ_cons, sumQ_congr acc (fun z hz => h z (List.mem_cons_of_mem _ hz)), h y (List.mem_cons_self ..)]
theorem sumE_congr {q r : Int → Int → Int} (ent acc : Int) : ∀ {es : List XEntry}, (∀ x ∈ es, x.entity = ent → ∀ y ∈ x.lines, q x.date y.amount = r x.date y.amount) → sumE q es ent acc = sumE r es ent acc
 | [], _ => rfl
 | x :: es, h => by
  rw [sumE_cons, sumE_cons, sumE_congr ent acc (fun z hz => h z (List.mem_cons_of_mem _ hz))]
  by_cases he : x.entity = ent
  · rw [if_pos he, if_pos he, sumQ_congr acc (h x (List.mem_cons_self ..) he)]
  · rw [if_neg he, if_neg he]
theorem sumQ_le {q : Int → Int → Int} {d : Int} (acc : Int) : ∀ {l : List XLine}, (∀ y ∈ l, -(y.amount.natAbs : Int) ≤ q d y.amount ∧ q d y.amount ≤ (y.amount.natAbs : Int)) → -absL l ≤ sumQ q acc d l ∧ sumQ q acc d l ≤ absL l
 | [], _ => by simp [absL, sumQ]
 | y :: l, h => by
  have h1 := sumQ_le acc (fun z hz => h z (List.mem_cons_of_mem _ hz))
  have h2 := h y (List.mem_cons_self ..)
  have h3 : absL (y :: l) = (y.amount.natAbs : Int) + absL l := by simp [absL]
  rw [sumQ_cons, h3]
  split <;> omega
def absE (es : List XEntry) : Int := (es.map (fun x => absL x.lines)).sum
theorem absE_cons (x : XEntry) (es : List XEntry) : absE (x :: es) = absL x.lines + absE es := by simp [absE]
theorem absL_pos0 (l : List XLine) : 0 ≤ absL l := by
 induction l with
 | nil => simp [absL]
 | cons y l ih => have : absL (y :: l) = (y.amount.natAbs : Int) + absL l := by simp [absL]
                  omega
theorem sumE_le {q : Int → Int → Int} (ent acc : Int) : ∀ {es : List XEntry}, (∀ a b, -(b.natAbs : Int) ≤ q a b ∧ q a b ≤ (b.natAbs : Int)) → -absE es ≤ sumE q es ent acc ∧ sumE q es ent acc ≤ absE es
 | [], _ => by simp [absE, sumE]
 | x :: es, h => by
  have h1 := sumE_le ent acc (es := es) h
  have h2 := sumQ_le (d := x.date) (l := x.lines) acc (fun y _ => h x.date y.amount)
  have h3 := absL_pos0 x.lines
  rw [sumE_cons, absE_cons]
  split <;> omega
def qB (d : Int) : Int → Int → Int := fun t n => if t ≤ d then n else 0
theorem qB_bd (d a b : Int) : -(b.natAbs : Int) ≤ qB d a b ∧ qB d a b ≤ (b.natAbs : Int) := by unfold qB; split <;> omega
def linesD (es : List XEntry) (ent d : Int) : List (Int × XLine) := es.flatMap (fun x => if x.entity = ent ∧ x.date ≤ d then x.lines.map (fun y => (x.date, y)) else [])
def sumPd (p : Int → Int → Bool) (acc : Int) (l : List (Int × XLine)) : Int := (l.map (fun z => if z.2.account = acc ∧ p z.1 z.2.amount = true then z.2.amount else 0)).sum
theorem sumPd_snoc (p : Int → Int → Bool) (acc : Int) (l : List (Int × XLine)) (z : Int × XLine) : sumPd p acc (l ++ [z]) = sumPd p acc l + (if z.2.account = acc ∧ p z.1 z.2.amount = true then z.2.amount else 0) := by simp [sumPd]
theorem sumPd_lines (p : Int → Int → Bool) (acc d : Int) : ∀ l : List XLine, sumPd p acc (l.map (fun y => (d, y))) = sumQ (fun t n => if p t n = true then n else 0) acc d l
 | [] => rfl
 | y :: l => by
  have ih := sumPd_lines p acc d l
  rw [sumQ_cons, ← ih]
  simp only [sumPd, List.map_cons, List.sum_cons]
  by_cases h : y.account = acc
  · by_cases h2 : p d y.amount = true <;> simp [h, h2]
  · simp [h]
theorem sumPd_D (p : Int → Int → Bool) (acc ent d : Int) : ∀ es : List XEntry, sumPd p acc (linesD es ent d) = sumE (fun t n => if t ≤ d ∧ p t n = true then n else 0) es ent acc
 | [] => rfl
 | x :: es => by
  have ih := sumPd_D p acc ent d es
  have h1 : sumPd p acc (linesD (x :: es) ent d) = sumPd p acc (if x.entity = ent ∧ x.date ≤ d then x.lines.map (fun y => (x.date, y)) else []) + sumPd p acc (linesD es ent d) := by simp [linesD, sumPd]
  rw [h1, ih, sumE_cons]
  by_cases he : x.entity = ent
  · rw [if_pos he]
    by_cases hd : x.date ≤ d
    · rw [if_pos ⟨he, hd⟩, sumPd_lines]
      congr 1
      refine sumQ_congr acc (fun y _ => ?_)
      simp [hd]
    · rw [if_neg (fun h => hd h.2)]
      have : sumQ (fun t n => if t ≤ d ∧ p t n = true then n else 0) acc x.date x.lines = sumQ (fun _ _ => 0) acc x.date x.lines := sumQ_congr acc (fun y _ => by simp [hd])
      rw [this]
      have h0 : ∀ l : List XLine, sumQ (fun _ _ => 0) acc x.date l = 0 := fun l => by
       induction l with
       | nil => rfl
       | cons y l ih => rw [sumQ_cons, ih]; simp
      rw [h0]
      simp [sumPd]
  · rw [if_neg he, if_neg (fun h => he h.1)]
    simp [sumPd]
def IsTri (f : Int → Int) (l : List XBalance) : Prop := l.Pairwise (fun x y => x.account < y.account) ∧ ∀ z, z ∈ l ↔ (f z.account ≠ 0 ∧ z.amount = f z.account)
theorem pair_uniq : ∀ {a b : List XBalance}, a.Pairwise (fun x y => x.account < y.account) → b.Pairwise (fun x y => x.account < y.account) → (∀ x, x ∈ a ↔ x ∈ b) → a = b
 | [], [], _, _, _ => rfl
 | [], y :: b, _, _, h => by have := (h y).2 (List.mem_cons_self ..); simp at this
 | x :: a, [], _, _, h => by have := (h x).1 (List.mem_cons_self ..); simp at this
 | x :: a, y :: b, ha, hb, h => by
  obtain ⟨h1, h2⟩ := List.pairwise_cons.1 ha
  obtain ⟨h3, h4⟩ := List.pairwise_cons.1 hb
  have hxy : x = y := by
   rcases List.mem_cons.1 ((h x).1 (List.mem_cons_self ..)) with e | e
   · exact e
   · rcases List.mem_cons.1 ((h y).2 (List.mem_cons_self ..)) with e2 | e2
     · exact e2.symm
     · have := h3 x e; have := h1 y e2; omega
  subst hxy
  congr 1
  refine pair_uniq h2 h4 (fun z => ?_)
  constructor
  · intro hz
    rcases List.mem_cons.1 ((h z).1 (List.mem_cons_of_mem _ hz)) with e | e
    · subst e; have := h1 z hz; omega
    · exact e
  · intro hz
    rcases List.mem_cons.1 ((h z).2 (List.mem_cons_of_mem _ hz)) with e | e
    · subst e; have := h3 z hz; omega
    · exact e
theorem IsTri.uniq {f : Int → Int} {a b : List XBalance} (ha : IsTri f a) (hb : IsTri f b) : a = b := pair_uniq ha.1 hb.1 (fun x => (ha.2 x).trans (hb.2 x).symm)
theorem IsTri.eqv {f g : Int → Int} {a : List XBalance} (ha : IsTri f a) (h : ∀ c, f c = g c) : IsTri g a := ⟨ha.1, fun z => by rw [ha.2 z, h]⟩
def triL (f : Int → Int) (b : Int) : Nat → List XBalance
 | 0 => []
 | n + 1 => triL f b n ++ (if f (b + n) ≠ 0 then [⟨b + n, f (b + n)⟩] else [])
theorem triL_mem (f : Int → Int) (b : Int) : ∀ (n : Nat) (z : XBalance), z ∈ triL f b n ↔ (b ≤ z.account ∧ z.account < b + n) ∧ f z.account ≠ 0 ∧ z.amount = f z.account
 | 0, z => by simp [triL]; omega
 | n + 1, z => by
  rw [triL, List.mem_append, triL_mem f b n z]
  constructor
  · rintro (⟨h1, h2⟩ | h)
    · exact ⟨by omega, h2⟩
    · split at h
      · simp at h; subst h; exact ⟨by simp; omega, ‹_›, rfl⟩
      · simp at h
  · rintro ⟨h1, h2, h3⟩
    by_cases h4 : z.account < b + n
    · exact .inl ⟨by omega, h2, h3⟩
    · right
      have e : z.account = b + n := by omega
      rw [e] at h2 h3
      rw [if_pos h2]
      obtain ⟨za, zm⟩ := z
      simp only at e h3
      subst e h3
      simp
theorem triL_sort (f : Int → Int) (b : Int) : ∀ n : Nat, (triL f b n).Pairwise (fun x y => x.account < y.account)
 | 0 => List.Pairwise.nil
 | n + 1 => by
  rw [triL]
  refine List.pairwise_append.2 ⟨triL_sort f b n, by split <;> simp, fun x hx y hy => ?_⟩
  have h1 := ((triL_mem f b n x).1 hx).1
  split at hy
  · simp at hy; subst hy; simp; omega
  · simp at hy
theorem triL_is {f : Int → Int} {b : Int} {n : Nat} (h : ∀ c, f c ≠ 0 → b ≤ c ∧ c < b + n) : IsTri f (triL f b n) :=
 ⟨triL_sort f b n, fun z => by rw [triL_mem]; exact ⟨fun h => h.2, fun hz => ⟨h _ hz.1, hz⟩⟩⟩
theorem triL_len (f : Int → Int) (b : Int) : ∀ n : Nat, (triL f b n).length ≤ n
 | 0 => by simp [triL]
 | n + 1 => by
  rw [triL, List.length_append]
  have := triL_len f b n
  split <;> simp <;> omega
def validJ (g : XGroup) (l : List XEntry) : Prop := groupB g = true ∧ okJ g l
def modest (l : List XEntry) : Prop := (∀ x ∈ l, x.text.size ≤ 140737488355327 ∧ x.lines.length ≤ 100000) ∧ l.length ≤ 100000
def JChkPost (g : XGroup) (l : List XEntry) (w : World) (e : Ending) (w' : World) : Prop := ∃ i c : Int, e = .returned (.tuple #[.int .i64 i, .int .i64 c]) ∧ (c = 0 ↔ validJ g l) ∧ Below w.heap.size w w'
theorem okJ_bad {g : XGroup} {l : List XEntry} {k : Nat} (hk : k < l.length) (h : postE g (l.take k) l[k] ≠ 0) : ¬ validJ g l := fun hv => h (hv.2 k hk)
theorem okJ_succ {g : XGroup} {l : List XEntry} {k : Nat} (hk : k < l.length) (h : okJ g (l.take k)) (hp : postE g (l.take k) l[k] = 0) : okJ g (l.take (k + 1)) := by
 rw [List.take_add_one, List.getElem?_eq_getElem hk]
 exact okJ_snoc h hp
set_option maxHeartbeats 4000000 in
theorem jcheck_c (g : XGroup) (l : List XEntry) (gl : List Value) (A : Option Addr) (c : Nat) (w : World) (hg : GroupC w (· < w.heap.size) gl g) (hl : ListC EntryC 7 w (· < w.heap.size) [.slice A l.length c] l) (hsm : smallG g) (hmo : modest l) :
 Calls Try.prog 24 #[.agg gl.toArray, .slice A l.length c] w (JChkPost g l w) := by
 have HNEW := Lib.hid (fun (w2 : World) (hb : Below w.heap.size w w2) => new_c g gl w2 (hg.keep hb) hsm)
 have HGS := Lib.hid (show gl.toArray.size = 21 by have := hg.len; simpa using this)
 have HL := Lib.hid hl
 have HMO := Lib.hid hmo
 have HSM := Lib.hid hsm
 have hbn := hl.cap
 unfold maxLen at hbn
 obtain ⟨n, hnl⟩ : ∃ n, l.length = n := ⟨_, rfl⟩
 have HN := Lib.hid hnl
 rw [hnl] at hbn ⊢
 have hn9 : n ≤ 9223372036854775807 := by omega
 clear hg hl hnl hbn hmo hsm
 go_enter Try.func24, Try.ntmps24
 go_upto_region 1 with fail
 have H1 := heap_alloc_new w (.cells gl.toArray 29)
 have HB1 := below1 w (.cells gl.toArray 29)
 have HS1 := blk_lt H1
 generalize hW1 : w.alloc (Obj.cells gl.toArray 29) = W at *
 clear hW1
 have HK := Lib.hid H1
 have HB1h := Lib.hid HB1
 clear H1
 go_wp2_with (show wpList _ _ _ (Oper.mk (some 12) _ _ _ _ _ :: _) _ _; refine wpList_load_row_g rfl 29 (.tmp 2) rfl (w.heap.size) rfl _ _ _ _ HK.out Try.underlying29 rfl (by rw [info_group]; exact congrArg some HGS.out.symm) ?_)
 refine (HNEW.out W HB1).mono ?_
 rintro e w2 ⟨hb2, hcase⟩
 have hb02 := HB1h.out.trans (hb2.mono HB1h.out.size)
 rcases hcase with ⟨hF, rfl⟩ | ⟨hT, J, D0, O0, rfl, hJC, hDO⟩
 case inl =>
  have HF := Lib.hid hF
  clear hF
  go_wp2_with fail
  go_ret2
  exact ⟨0, 1, rfl, ⟨fun h => absurd h (by decide), fun h => by have := h.1; rw [HF.out] at this; cases this⟩, hb02⟩
 case inr =>
 have HT := Lib.hid hT
 have HJC := Lib.hid hJC
 have HDO := Lib.hid hDO
 have HB02 := Lib.hid hb02
 clear hT hJC hDO HNEW
 go_wp2_with fail
 go_loopw [21] (fun i wr => ∃ (k : Nat) (D O : Nat → Prop), k ≤ n ∧ i = .int .i64 (k : Int) ∧ Below W.heap.size W wr ∧ JC wr D O J g (l.take k) ∧ (∀ q, D q ∨ O q → W.heap.size ≤ q)) (fun i _ => n - (intOf i).toNat)
 case atStart => exact ⟨0, D0, O0, by omega, rfl, hb2, HJC.out, HDO.out⟩
 case round =>
  obtain ⟨k, D, O, hk, rfl, hbW, hJC, hDO⟩ := hrel
  generalize wr = w3 at *
  have hb := HB1h.out.trans (hbW.mono HB1h.out.size)
  have HBW := Lib.hid hbW
  have HBR := Lib.hid hb
  have HJC := Lib.hid hJC
  have HDO := Lib.hid hDO
  clear hJC hDO
  by_cases hlt : k < n
  case pos =>
   have hltI : (k : Int) < (n : Int) := by omega
   have hkl : k < l.length := by rw [HN.out]; exact hlt
   obtain ⟨b, o, cs, hAe, hbw, hes, hat⟩ := ListC.get HL.out k hkl
   subst hAe
   obtain ⟨Al, cl, hcs, hxb, hls⟩ := EntryC.lit hes
   have hfx := HMO.out.1 _ (List.getElem_mem hkl)
   have HOKK := Lib.hid HJC.out.ok
   have hok := HOKK.out
   have HBAD := Lib.hid (okJ_bad (g := g) hkl)
   have HSUC := Lib.hid (okJ_succ hkl hok)
   have HTK := Lib.hid (show l.take (k + 1) = l.take k ++ [l[k]] by rw [List.take_add_one, List.getElem?_eq_getElem hkl]; rfl)
   obtain ⟨x, hx⟩ : ∃ x, l[k] = x := ⟨_, rfl⟩
   rw [hx] at hcs hxb hls hfx hes HBAD HSUC HTK
   subst hcs
   obtain ⟨ES, hES⟩ : ∃ ES, l.take k = ES := ⟨_, rfl⟩
   have hEL : ES.length ≤ 100000 := by
    have h1 := HMO.out.2
    rw [← hES, List.length_take]
    omega
   have HES := Lib.hid hES
   rw [hES] at HJC HBAD HSUC HTK
   have HEL := Lib.hid hEL
   have HFX := Lib.hid hfx
   have HXC := Lib.hid hes
   obtain ⟨R, hR⟩ : ∃ R, postE g ES x = R := ⟨_, rfl⟩
   rw [hR] at HBAD HSUC
   have HPC := Lib.hid (fun (w2 : World) (hS : Below w3.heap.size w3 w2) => show Calls Try.prog 32 #[.pointer (some ⟨J, 0, none⟩), .agg #[.int .i64 x.id, .int .i64 x.entity, .int .i64 x.date, .int .i64 x.kind, .int .i64 x.of_, .string x.text, .slice Al x.lines.length cl]] w2 (fun e w' => e = .returned (.int .i64 R) ∧ JPost D O J g ES (if R = 0 then ES ++ [x] else ES) w2 w') by
    have hb9 := HBR.out.trans (hS.mono HBR.out.size)
    obtain ⟨gl2, css2, v2, bi2, br2, hJ2⟩ := HJC.out.below hS
    have h := post_c D O J g ES gl2 css2 v2 bi2 br2 x _ w2 hJ2 HSM.out (EntryC.mono (EntryC.fr HXC.out (Fr.ofBelow hb9)) (fun q hq => ⟨Nat.lt_of_lt_of_le hq hb9.size, fun ho => by have h1 := HDO.out q (.inr ho); have h2 := HS1; omega⟩)) (by have := HFX.out.1; omega) (by have := HFX.out.2; omega) (by have := HEL.out; omega)
    rw [hR] at h
    exact h)
   have hat2 := hat.fr (Fr.ofBelow hb)
   obtain ⟨xi, xe, xd, xk, xo, xt, ls⟩ := x
   simp only at hat2 HPC
   obtain ⟨nl, hnl⟩ : ∃ n, ls.length = n := ⟨_, rfl⟩
   rw [hnl] at hat2 HPC
   have HAR := Lib.hid hat2.range
   have hnz : 0 < n := by omega
   clear hat hat2 hes hls hxb hfx hEL hnl hbW hb hES hx hok
   go_upto_region 7 with (first | (show wpList _ _ _ (Oper.mk (some 25) _ _ _ _ _ :: _) _ _; refine wpList_load_mid rfl 36 (.tmp 24) rfl b (o + k * 7) rfl [.int .i64 xi, .int .i64 xe, .int .i64 xd, .int .i64 xk, .int .i64 xo, .string xt, .slice Al nl cl] _ HAR.out Try.underlying36 rfl info_entry ?_) | (show wpList _ _ _ (Oper.mk none (Op.store _ (Operand.tmp 9) _) _ _ _ _ :: _) _ _; refine wpList_store_fresh3 rfl 36 (.tmp 9) (.tmp 25) rfl rfl w3 #[.int .i64 0, .int .i64 0, .int .i64 0, .int .i64 0, .int .i64 0, .string ⟨#[]⟩, .slice none 0 0] 36 #[.int .i64 xi, .int .i64 xe, .int .i64 xd, .int .i64 xk, .int .i64 xo, .string xt, .slice Al nl cl] rfl rfl rfl info_entry rfl (by simp [Value.oneCell']) ?_; intro w4 H4 HB4 HS4))
   have HX4 := Lib.hid H4
   have HPC2 := Lib.hid (HPC.out w4 HB4)
   have HB4h := Lib.hid HB4
   clear H4 HB4 HS4 HPC
   go_wp2_with (show wpList _ _ _ (Oper.mk (some 27) _ _ _ _ _ :: _) _ _; refine wpList_load_row_g rfl 36 (.tmp 9) rfl w3.heap.size rfl _ _ _ _ HX4.out Try.underlying36 rfl info_entry ?_)
   refine HPC2.out.mono ?_
   rintro e w5 ⟨rfl, m, hm1, hm2, hJ5, hf5⟩
   have HJ5 := Lib.hid hJ5
   have HF5 := Lib.hid hf5
   have HM := Lib.hid (And.intro hm1 hm2)
   have hbW5 : Below W.heap.size W w5 := ((Fr.ofBelow HBW.out).trans (((Fr.ofBelow HB4h.out).mono (fun q (hq : q < W.heap.size) => Nat.lt_of_lt_of_le hq HBW.out.size)).trans (hf5.mono (fun q (hq : q < W.heap.size) => ⟨Nat.lt_of_lt_of_le (Nat.lt_of_lt_of_le hq HBW.out.size) HB4h.out.size, fun ho => by have := HDO.out q (.inr ho); omega⟩)))).below
   have HBW5 := Lib.hid hbW5
   have HDO5 := Lib.hid (show ∀ q, (D q ∨ (w4.heap.size ≤ q ∧ q < m)) ∨ (O q ∨ (m ≤ q ∧ q < w5.heap.size)) → W.heap.size ≤ q from fun q hq => by
    have h1 := HBW.out.size
    have h2 := HB4h.out.size
    have h3 := HM.out.1
    rcases hq with (hq | hq) | (hq | hq)
    · exact HDO.out q (.inl hq)
    · omega
    · exact HDO.out q (.inr hq)
    · omega)
   clear hJ5 hf5 hm1 hm2 hbW5
   by_cases hR0 : R = 0
   case neg =>
    have hRb : (R != 0) = true := by simpa using hR0
    have HNV := Lib.hid (HBAD.out hR0)
    have HR0 := Lib.hid hR0
    clear hR0
    go_wp2_with fail
    go_ret2
    exact ⟨(k : Int), R, rfl, ⟨fun h => absurd h HR0.out, fun h => absurd h HNV.out⟩, HB1h.out.trans (HBW5.out.mono HB1h.out.size)⟩
   case pos =>
    have hRb : (R != 0) = false := by simpa using hR0
    have HJ6 := Lib.hid (show JC w5 _ _ J g (ES ++ [⟨xi, xe, xd, xk, xo, xt, ls⟩]) from by have h := HJ5.out; rw [if_pos hR0] at h; exact h)
    clear hR0
    go_wp2_with fail
    go_roundw
    case rel => exact ⟨k + 1, _, _, by omega, by go_num, HBW5.out, by rw [HTK.out]; exact HJ6.out, HDO5.out⟩
    case measure => first | exact meas_v hlt | (simp only [intOf]; omega)
  case neg =>
   have hltI : ¬ (k : Int) < (n : Int) := by omega
   have hta : l.take k = l := List.take_of_length_le (by rw [HN.out]; omega)
   have HV := Lib.hid (show validJ g l from ⟨HT.out, by have := HJC.out.ok; rwa [hta] at this⟩)
   clear hta hbW hb
   go_wp2_with fail
   go_ret2
   exact ⟨0, 0, rfl, ⟨fun _ => HV.out, fun _ => rfl⟩, HBR.out⟩
end Go.Proofs.Ytekelchdbkjjjaa
namespace Go.Proofs.Ytekelchdbkjjjaa
open Go Go.RowKit Go.Shelf
attribute [local go_sem] Oper.semAt_some
section
variable {F : Fence} {n : Nat} {P : Program} {ops : Array Oper} {rest : List Oper} {o : Oper} {a : Act} {Q : Exit → Act → World → Prop}
theorem wpListIn_load_mid {w : World} (hgd : o.guard = none) (ty : TypeId) (x : Operand) (ho : o.op = .load ty x)
 (b k : Nat) (hx : a.eval x = .pointer (some ⟨b, k, none⟩)) (cs : List Value) (d : TypeDesc) (hc : w.rangeAt b k cs)
 (hu : P.underlying ty = some d) (hd : d.isRow = true) (hi : (P.info? ty).map (·.size) = some cs.length)
 (h : wpListIn F n P ops Q rest (a.put o.dst (.agg cs.toArray)) w) : wpListIn F n P ops Q (o :: rest) a w := by
 refine wpListIn_plain hgd fun K hK => ?_
 unfold Oper.wpIn
 refine ⟨by simp [Oper.about, ho], ?_⟩
 rw [Oper.semAt_plain F _ _ (by rw [ho]; intro c hc'; cases hc')]
 have hrun := run_loadVar_mid (P := P) w b k ty cs d hc hu hd hi
 unfold execOp
 simp only [ho, hx, Instr.loadAt, Instr.sureAddr, Sem.run_bind, Sem.run_pure, Result.andThen_ok]
 rw [hrun]
 simp only [Result.andThen_ok]
 exact hK _ _ h
theorem wpListIn_store_fresh {w0 : World} (hgd : o.guard = none) (ty : TypeId) (x y : Operand) (ho : o.op = .store ty x y) (hd : o.dst = none)
 (w1 : World) (old : Array Value) (t : TypeId) (cells : Array Value) (hw : w0 = w1.alloc (.cells old t)) (hx : a.eval x = .pointer (some ⟨w1.heap.size, 0, none⟩)) (hy : a.eval y = .agg cells)
 (hi : (P.info? ty).map (·.size) = some cells.size) (hold : old.size = cells.size) (h1 : cells.all (·.oneCell') = true)
 (h : ∀ w2 : World, w2.heap[w1.heap.size]? = some (.cells cells t (0, 0)) → w1.grownBy w2 none → w2.heap.size = w1.heap.size + 1 → wpListIn F n P ops Q rest a w2) :
 wpListIn F n P ops Q (o :: rest) a w0 := by
 subst hw
 have hg : (w1.alloc (.cells old t)).heap[w1.heap.size]? = some (.cells old t (0, 0)) := heap_alloc_new w1 _
 have f := ((Fr.refl (· < w1.heap.size) w1).alloc (fun _ h => h) (.cells old t)).trans ((fr_setRow (w1.alloc (.cells old t)) w1.heap.size cells).mono (fun k (hk : k < w1.heap.size) => by show k ≠ w1.heap.size; omega))
 have hsz : ((w1.alloc (.cells old t)).setRow w1.heap.size cells).heap.size = w1.heap.size + 1 := by simp [World.setRow]
 have hfin := h _ (heap_setRow hg cells) ⟨f.os, f.tape, f.output, f.size, fun k hk _ => f.block k hk⟩ hsz
 refine wpListIn_plain hgd fun K hK => ?_
 unfold Oper.wpIn
 refine ⟨by simp [Oper.about, ho], ?_⟩
 rw [Oper.semAt_plain F _ _ (by rw [ho]; intro c hc'; cases hc')]
 have hrun := run_storeVar_row (P := P) (w1.alloc (.cells old t)) w1.heap.size t ty old cells hg hi hold h1
 unfold execOp
 simp only [ho, hx, hy, Instr.storeAt, Instr.sureAddr, Sem.run_bind, Sem.run_pure, Result.andThen_ok]
 rw [hrun]
 simp only [Sem.run_pure, Result.andThen_ok]
 refine hK _ _ ?_
 rw [hd]
 exact hfin
end
def KeepN (n₀ : Nat) (T : Nat → Prop) (w w' : World) : Prop := Below n₀ w w' ∧ ∀ k o, ¬ T k → w.heap[k]? = some o → o.isCells = true → w'.heap[k]? = some o
theorem KeepN.refl {n₀ : Nat} {T : Nat → Prop} (w : World) : KeepN n₀ T w w := ⟨Below.refl _ _, fun _ _ _ h _ => h⟩
theorem KeepN.trans {n₀ : Nat} {T : Nat → Prop} {a b c : World} (h : KeepN n₀ T a b) (k : KeepN n₀ T b c) : KeepN n₀ T a c := ⟨h.1.trans k.1, fun q o h1 h2 h3 => k.2 q o h1 (h.2 q o h1 h2 h3) h3⟩
theorem KeepN.putObj {n₀ : Nat} {T : Nat → Prop} {w : World} (hn : n₀ ≤ w.heap.size) (W : World) (l : Nat) (o o' : Obj) (hl : w.heap.size ≤ l) (h : W.heap[l]? = some o) (hc : o.isCells = false) (hw : o.isWalk = false) : KeepN n₀ T W (W.putObj l o') :=
 ⟨belowK_b hn W l o o' hl h hc hw, fun k q _ h2 h3 => by
  have hne : k ≠ l := fun e => by subst e; rw [h] at h2; cases h2; rw [hc] at h3; cases h3
  exact (World.putObj_heap_other hne).trans h2⟩
theorem KeepN.grown {n₀ : Nat} {T : Nat → Prop} {w w' : World} (h : w.grownBy w' none) (hn : n₀ ≤ w.heap.size) : KeepN n₀ T w w' :=
 ⟨(Below.refl n₀ w).grown h hn (fun k e => by cases e), fun k o _ h2 _ => (h.block k (Array.getElem?_eq_some_iff.1 h2).1 (by simp)).trans h2⟩
theorem KeepN.cells {n₀ : Nat} {T : Nat → Prop} {w w' : World} (h : KeepN n₀ T w w') {k : Nat} {cs : Array Value} {t : TypeId} {fr : Nat × Nat} (hk : ¬ T k) (hc : w.heap[k]? = some (.cells cs t fr)) : w'.heap[k]? = some (.cells cs t fr) := h.2 k _ hk hc rfl
abbrev DL (p : Int → XLine → Prop) := {z : Int × XLine // p z.1 z.2}
def encDL {p : Int → XLine → Prop} (z : DL p) : Array Value := #[.int .i64 z.1.1, .agg (lineL z.1.2).toArray]
theorem linesD_take (es : List XEntry) (k : Nat) (ent d : Int) : (linesD (es.take k) ent d).length ≤ (linesD es ent d).length := by
 have h : linesD (es.take k ++ es.drop k) ent d = linesD (es.take k) ent d ++ linesD (es.drop k) ent d := by simp only [linesD, List.flatMap_append]
 rw [List.take_append_drop] at h
 rw [h, List.length_append]
 omega
theorem linesD_succ {es : List XEntry} {k : Nat} (hk : k < es.length) (ent d : Int) : linesD (es.take (k + 1)) ent d = linesD (es.take k) ent d ++ (if es[k].entity = ent ∧ es[k].date ≤ d then es[k].lines.map (fun y => (es[k].date, y)) else []) := by
 rw [List.take_add_one, List.getElem?_eq_getElem hk]
 simp only [linesD, List.flatMap_append]
 simp
set_option maxRecDepth 100000 in
set_option maxHeartbeats 4000000 in
theorem lines1_in (F : Fence) (m : Nat) (hF : F.fn 27) (hro : F.round = none) (hn : 1 ≤ m) (l Be Bn Bd n₀ : Nat) (T : Nat → Prop) (es : List XEntry) (A : Option Addr) (c : Nat) (ent d : Int) (pp : Int → XLine → Prop) (N0 : Nat) (J Jx : List (DL pp) → World → Prop)
 (hY : ∀ pre x W, J pre W → pre.length < N0 → YieldAt F (m - 1) Try.prog l (encDL x) W fun e W' => (e = .returned (.bool true) ∧ J (pre ++ [x]) W' ∧ KeepN n₀ T W W') ∨ (e = .returned (.bool false) ∧ Jx (pre ++ [x]) W'))
 (W : World) (hn0 : n₀ ≤ W.heap.size) (hJ : AbidesFrom W.heap.size J) (hT : ∀ q, T q → q < W.heap.size) (hBe : ¬ T Be ∧ W.heap[Be]? = some (.cells #[.slice A es.length c] 30 (0, 0))) (hBn : ¬ T Bn ∧ W.heap[Bn]? = some (.cells #[.int .i64 ent] 3 (0, 0))) (hBd : ¬ T Bd ∧ W.heap[Bd]? = some (.cells #[.int .i64 d] 3 (0, 0)))
 (hl : ListC EntryC 7 W (· < n₀) [.slice A es.length c] es) (hln : ∀ x ∈ es, x.lines.length ≤ 100000) (hes : es.length ≤ 100000) (hp : ∀ x ∈ es, x.entity = ent → x.date ≤ d → ∀ y ∈ x.lines, pp x.date y) (hN0 : (linesD es ent d).length ≤ N0) (h0 : J [] W) :
 CallsIn F m Try.prog 27 #[.func (.yield l) #[] #[], .pointer (some ⟨Be, 0, none⟩), .pointer (some ⟨Bn, 0, none⟩), .pointer (some ⟨Bd, 0, none⟩)] W fun e W' => (∃ v, e = .returned v) ∧
  ((∃ ys : List (DL pp), ys.map (·.1) = linesD es ent d ∧ J ys W') ∨ (∃ pre : List (DL pp), True ∧ Jx pre W')) := by
 have h1 : 1 ≤ m := hn
 obtain ⟨N, hN⟩ : ∃ N, es.length = N := ⟨_, rfl⟩
 have HN := Lib.hid hN
 have HL := Lib.hid hl
 have HLN := Lib.hid hln
 rw [hN] at hBe hes
 have HBE := Lib.hid hBe
 have HBN := Lib.hid hBn
 have HBD := Lib.hid hBd
 have HJA := Lib.hid hJ
 have HT := Lib.hid hT
 have HPP := Lib.hid hp
 have HN0 := Lib.hid hN0
 have c1 := blk_cell hBe.2 0
 clear hl hln hBe hBn hBd hN hJ hT hp hN0
 refine callsIn_of_wp Try.func27 rfl hF ?_ hro
 simp only [Try.ntmps27, List.size_toArray, List.length_cons, List.length_nil, Nat.reduceAdd, Nat.reduceSub, Array.replicate_succ, Array.replicate_zero, List.push_toArray, List.append_toArray, List.nil_append, List.cons_append]
 gi_wp2_with fail
 gi_loopw [11] (fun i wr => ∃ (k : Nat) (ys : List (DL pp)), k ≤ N ∧ i = .int .i64 (k : Int) ∧ ys.map (·.1) = linesD (es.take k) ent d ∧ J ys wr ∧ KeepN n₀ T W wr) (fun i _ => N - (intOf i).toNat)
 case atStart => exact ⟨0, [], by omega, rfl, rfl, h0, KeepN.refl _⟩
 case round =>
  obtain ⟨k, ys, hk, rfl, hys, hJs, hkp⟩ := hrel
  generalize wr = w3 at *
  have HKP := Lib.hid hkp
  have HJS := Lib.hid hJs
  have HYS := Lib.hid hys
  clear hkp hJs hys
  by_cases hlt : k < N
  case pos =>
   have hltI : (k : Int) < (N : Int) := by omega
   have hkl : k < es.length := by rw [HN.out]; exact hlt
   obtain ⟨eb, eo, cs, hAe, hbw, hxc, hat⟩ := ListC.get HL.out k hkl
   subst hAe
   have hxm : es[k] ∈ es := List.getElem_mem hkl
   have HSUC := Lib.hid (linesD_succ hkl ent d)
   have HTK := Lib.hid (linesD_take es (k + 1) ent d)
   have HPX := Lib.hid (HPP.out es[k] hxm)
   obtain ⟨x, hx⟩ : ∃ x, es[k] = x := ⟨_, rfl⟩
   rw [hx] at hxc hxm HSUC HPX
   have hxl := HLN.out x hxm
   obtain ⟨Al, cl, hcs, hxb, hls⟩ := EntryC.lit hxc
   subst hcs
   have HLS := Lib.hid hls
   have HXD := Lib.hid hxb.2.2.1
   obtain ⟨xi, xe, xd, xk, xo, xt, ls⟩ := x
   simp only at hat HLS hxl HXD HSUC HPX
   obtain ⟨nl, hnl⟩ : ∃ n, ls.length = n := ⟨_, rfl⟩
   have HNL := Lib.hid hnl
   rw [hnl] at hat hxl
   have HAR := Lib.hid ((hat.fr (Fr.ofBelow HKP.out.1)).range)
   have hnz : 0 < N := by omega
   clear hxc hls hat hxm hx hnl hbw hxb
   have HSZ := Lib.hid (show n₀ ≤ w3.heap.size ∧ W.heap.size ≤ w3.heap.size from ⟨by have := HKP.out.1.size; omega, HKP.out.1.size⟩)
   have HJ4 := Lib.hid (fun (w4 : World) (hg : w3.grownBy w4 none) => HJA.out ys w3 w4 none HJS.out hg (fun r e => by cases e))
   by_cases hp : xe = ent ∧ xd ≤ d
   case neg =>
    have HSK := Lib.hid (show linesD (es.take (k + 1)) ent d = linesD (es.take k) ent d by rw [HSUC.out, if_neg hp, List.append_nil])
    obtain ⟨q1, hq1⟩ : ∃ q, (xe != ent) = q := ⟨_, rfl⟩
    obtain ⟨q2, hq2⟩ : ∃ q, decide (d < xd) = q := ⟨_, rfl⟩
    have hq : q1 = true ∨ (q1 = false ∧ q2 = true) := by
     by_cases he : xe = ent
     · right; exact ⟨by rw [← hq1]; simpa using he, by rw [← hq2]; exact decide_eq_true (by have := fun h => hp ⟨he, h⟩; omega)⟩
     · left; rw [← hq1]; simpa using he
    clear hp
    rcases hq with rfl | ⟨rfl, rfl⟩
    · gi_wp2_with (first | (show wpListIn _ _ _ _ _ (Oper.mk (some 14) _ _ _ _ _ :: _) _ _; refine wpListIn_load_mid rfl 36 (.tmp 13) rfl eb (eo + k * 7) rfl [.int .i64 xi, .int .i64 xe, .int .i64 xd, .int .i64 xk, .int .i64 xo, .string xt, .slice Al nl cl] _ HAR.out Try.underlying36 rfl info_entry ?_) | (show wpListIn _ _ _ _ _ (Oper.mk none (Op.store _ (Operand.tmp 6) _) _ _ _ _ :: _) _ _; refine wpListIn_store_fresh rfl 36 (.tmp 6) (.tmp 14) rfl rfl w3 #[.int .i64 0, .int .i64 0, .int .i64 0, .int .i64 0, .int .i64 0, .string ⟨#[]⟩, .slice none 0 0] 36 #[.int .i64 xi, .int .i64 xe, .int .i64 xd, .int .i64 xk, .int .i64 xo, .string xt, .slice Al nl cl] rfl rfl rfl info_entry rfl (by simp [Value.oneCell']) ?_; intro w4 H4 HG4 HS4; have f1 := blk_cell H4 1; have f2 := blk_cell H4 2; have f6 := blk_cell H4 6; have e2 := blk_cell ((HKP.out.trans (KeepN.grown HG4 HSZ.out.1)).cells HBN.out.1 HBN.out.2) 0; have e3 := blk_cell ((HKP.out.trans (KeepN.grown HG4 HSZ.out.1)).cells HBD.out.1 HBD.out.2) 0))
      go_roundw
      case rel => exact ⟨k + 1, ys, by omega, by go_num, by rw [HSK.out]; exact HYS.out, HJ4.out _ HG4, HKP.out.trans (KeepN.grown HG4 HSZ.out.1)⟩
      case measure => first | exact meas_v hlt | (simp only [intOf]; omega)
    · gi_wp2_with (first | (show wpListIn _ _ _ _ _ (Oper.mk (some 14) _ _ _ _ _ :: _) _ _; refine wpListIn_load_mid rfl 36 (.tmp 13) rfl eb (eo + k * 7) rfl [.int .i64 xi, .int .i64 xe, .int .i64 xd, .int .i64 xk, .int .i64 xo, .string xt, .slice Al nl cl] _ HAR.out Try.underlying36 rfl info_entry ?_) | (show wpListIn _ _ _ _ _ (Oper.mk none (Op.store _ (Operand.tmp 6) _) _ _ _ _ :: _) _ _; refine wpListIn_store_fresh rfl 36 (.tmp 6) (.tmp 14) rfl rfl w3 #[.int .i64 0, .int .i64 0, .int .i64 0, .int .i64 0, .int .i64 0, .string ⟨#[]⟩, .slice none 0 0] 36 #[.int .i64 xi, .int .i64 xe, .int .i64 xd, .int .i64 xk, .int .i64 xo, .string xt, .slice Al nl cl] rfl rfl rfl info_entry rfl (by simp [Value.oneCell']) ?_; intro w4 H4 HG4 HS4; have f1 := blk_cell H4 1; have f2 := blk_cell H4 2; have f6 := blk_cell H4 6; have e2 := blk_cell ((HKP.out.trans (KeepN.grown HG4 HSZ.out.1)).cells HBN.out.1 HBN.out.2) 0; have e3 := blk_cell ((HKP.out.trans (KeepN.grown HG4 HSZ.out.1)).cells HBD.out.1 HBD.out.2) 0))
      go_roundw
      case rel => exact ⟨k + 1, ys, by omega, by go_num, by rw [HSK.out]; exact HYS.out, HJ4.out _ HG4, HKP.out.trans (KeepN.grown HG4 HSZ.out.1)⟩
      case measure => first | exact meas_v hlt | (simp only [intOf]; omega)
   case pos =>
    have hq1 : (xe != ent) = false := by simpa using hp.1
    have hq2 : decide (d < xd) = false := decide_eq_false (by omega)
    have HSK := Lib.hid (show linesD (es.take (k + 1)) ent d = linesD (es.take k) ent d ++ ls.map (fun y => (xd, y)) by rw [HSUC.out, if_pos hp])
    have HPL := Lib.hid (HPX.out hp.1 hp.2)
    clear hp
    gi_wp2_with (first | (show wpListIn _ _ _ _ _ (Oper.mk (some 14) _ _ _ _ _ :: _) _ _; refine wpListIn_load_mid rfl 36 (.tmp 13) rfl eb (eo + k * 7) rfl [.int .i64 xi, .int .i64 xe, .int .i64 xd, .int .i64 xk, .int .i64 xo, .string xt, .slice Al nl cl] _ HAR.out Try.underlying36 rfl info_entry ?_) | (show wpListIn _ _ _ _ _ (Oper.mk none (Op.store _ (Operand.tmp 6) _) _ _ _ _ :: _) _ _; refine wpListIn_store_fresh rfl 36 (.tmp 6) (.tmp 14) rfl rfl w3 #[.int .i64 0, .int .i64 0, .int .i64 0, .int .i64 0, .int .i64 0, .string ⟨#[]⟩, .slice none 0 0] 36 #[.int .i64 xi, .int .i64 xe, .int .i64 xd, .int .i64 xk, .int .i64 xo, .string xt, .slice Al nl cl] rfl rfl rfl info_entry rfl (by simp [Value.oneCell']) ?_; intro w4 H4 HG4 HS4; have f1 := blk_cell H4 1; have f2 := blk_cell H4 2; have f6 := blk_cell H4 6; have e2 := blk_cell ((HKP.out.trans (KeepN.grown HG4 HSZ.out.1)).cells HBN.out.1 HBN.out.2) 0; have e3 := blk_cell ((HKP.out.trans (KeepN.grown HG4 HSZ.out.1)).cells HBD.out.1 HBD.out.2) 0))
    have HX4 := Lib.hid H4
    have HDT := Lib.hid (show ¬ T w3.heap.size from fun ht => by have h1 := HT.out _ ht; have h2 := HSZ.out.2; omega)
    have HKP4 := Lib.hid (HKP.out.trans (KeepN.grown HG4 HSZ.out.1))
    have HSZ4 := Lib.hid (show n₀ ≤ w4.heap.size ∧ W.heap.size ≤ w4.heap.size from ⟨by have := HSZ.out.1; omega, by have := HSZ.out.2; omega⟩)
    have HJ5 := Lib.hid (HJ4.out _ HG4)
    clear H4 HG4 HS4 e2 e3 f1 f2 f6 HJ4 HJS HAR
    gi_loopw [28] (fun i wr => ∃ (j : Nat) (zs : List (DL pp)), j ≤ nl ∧ i = .int .i64 (j : Int) ∧ zs.map (·.1) = linesD (es.take k) ent d ++ (ls.take j).map (fun y => (xd, y)) ∧ J zs wr ∧ KeepN n₀ T w4 wr) (fun i _ => nl - (intOf i).toNat)
    case atStart => exact ⟨0, ys, by omega, rfl, by simp [HYS.out], HJ5.out, KeepN.refl _⟩
    case round =>
     obtain ⟨j, zs, hj, rfl, hzs, hJz, hkz⟩ := hrel
     generalize wr = w5 at *
     have HKZ := Lib.hid hkz
     have HJZ := Lib.hid hJz
     have HZS := Lib.hid hzs
     clear hkz hJz hzs
     by_cases hlj : j < nl
     case pos =>
      have hljI : (j : Int) < (nl : Int) := by omega
      have hjl : j < ls.length := by rw [HNL.out]; exact hlj
      obtain ⟨lb, lo, lcs, hAl, hlbw, hlc, hlat⟩ := ListC.get HLS.out j hjl
      subst hAl
      obtain ⟨hlcs, hlbd⟩ := LineC.lit hlc
      subst hlcs
      have HSUJ := Lib.hid (show (ls.take (j + 1)).map (fun y => (xd, y)) = (ls.take j).map (fun y => (xd, y)) ++ [(xd, ls[j])] by rw [List.take_add_one, List.getElem?_eq_getElem hjl, List.map_append]; rfl)
      obtain ⟨y, hy⟩ : ∃ y, ls[j] = y := ⟨_, rfl⟩
      have hpy := HPL.out ls[j] (List.getElem_mem hjl)
      rw [hy] at hlat hlbd HSUJ hpy
      have HPY := Lib.hid hpy
      have HLB := Lib.hid hlbd
      obtain ⟨la, lm, lp⟩ := y
      have hkall := HKP4.out.trans HKZ.out
      have HLR := Lib.hid (show w5.rangeAt lb (lo + j * 3) [.int .i64 la, .int .i64 lm, .int .i64 lp] from (hlat.fr (Fr.ofBelow hkall.1)).range)
      have g2 := blk_cell (HKZ.out.cells HDT.out HX4.out) 2
      have g6 := blk_cell (HKZ.out.cells HDT.out HX4.out) 6
      have HSZ5 := Lib.hid (show n₀ ≤ w5.heap.size ∧ W.heap.size ≤ w5.heap.size from ⟨by have := HSZ4.out.1; have := HKZ.out.1.size; omega, by have := HSZ4.out.2; have := HKZ.out.1.size; omega⟩)
      have HLT := Lib.hid (show zs.length < N0 by
       have h1 := congrArg List.length HZS.out
       have h2 := congrArg List.length HSK.out
       have h3 := HTK.out
       have h4 := HN0.out
       rw [List.length_map, List.length_append, List.length_map, List.length_take] at h1
       rw [List.length_append, List.length_map] at h2
       have h5 := HNL.out
       omega)
      have HYW := Lib.hid (fun (w6 : World) (hg : w5.grownBy w6 none) => show YieldAt F (m - 1) Try.prog l #[.int .i64 xd, .agg #[.int .i64 la, .int .i64 lm, .int .i64 lp]] w6 (fun e W' => (e = .returned (.bool true) ∧ J (zs ++ [⟨(xd, ⟨la, lm, lp⟩), HPY.out⟩]) W' ∧ KeepN n₀ T w6 W') ∨ (e = .returned (.bool false) ∧ Jx (zs ++ [⟨(xd, ⟨la, lm, lp⟩), HPY.out⟩]) W')) from hY zs ⟨(xd, ⟨la, lm, lp⟩), HPY.out⟩ w6 (HJA.out zs w5 w6 none HJZ.out hg (fun r e => by cases e)) HLT.out)
      have hnzl : 0 < nl := by omega
      clear hlat hlc hlbw hlbd hy hkall hpy
      gi_wp2_with (first | (show wpListIn _ _ _ _ _ (Oper.mk (some 31) _ _ _ _ _ :: _) _ _; refine wpListIn_load_mid rfl 49 (.tmp 30) rfl lb (lo + j * 3) rfl [.int .i64 la, .int .i64 lm, .int .i64 lp] _ HLR.out Try.underlying49 rfl info_line ?_) | (show wpListIn _ _ _ _ _ (Oper.mk none (Op.store _ (Operand.tmp 8) _) _ _ _ _ :: _) _ _; refine wpListIn_store_fresh rfl 49 (.tmp 8) (.tmp 31) rfl rfl w5 #[.int .i64 0, .int .i64 0, .int .i64 0] 49 #[.int .i64 la, .int .i64 lm, .int .i64 lp] rfl rfl rfl info_line rfl (by simp [Value.oneCell']) ?_; intro w6 H6 HG6 HS6; have g2 := blk_cell ((HKZ.out.trans (KeepN.grown HG6 HSZ5.out.1)).cells HDT.out HX4.out) 2; obtain ⟨fn, tmps, assign, body, hyr, hR⟩ := HYW.out w6 HG6; have hh6 := H6) | (show wpListIn _ _ _ _ _ (Oper.mk (some 35) _ _ _ _ _ :: _) _ _; refine wpListIn_load_row rfl 49 (.tmp 8) rfl w5.heap.size rfl _ _ _ _ hh6 Try.underlying49 rfl info_line ?_))
      refine hR.mono ?_
      rintro e w7 (⟨rfl, hJ7, hk7⟩ | ⟨rfl, hJ7⟩)
      rotate_left
      · have HJ7 := Lib.hid hJ7
        clear hJ7 hR hyr g2 g6 H6 hh6 HG6 HS6
        gi_wp2_with fail
        refine bodyPost_ret (results_none rfl _ _ _) rfl ?_
        exact ⟨⟨_, rfl⟩, .inr ⟨_, trivial, HJ7.out⟩⟩
      have HJ7 := Lib.hid hJ7
      have HK7 := Lib.hid hk7
      have HG6h := Lib.hid HG6
      clear hJ7 hk7 hR hyr g2 g6 H6 hh6 HG6 HS6
      gi_wp2_with fail
      go_roundw
      case rel => exact ⟨j + 1, zs ++ [⟨(xd, ⟨la, lm, lp⟩), HPY.out⟩], by omega, by go_num, by rw [List.map_append, HZS.out, HSUJ.out, List.append_assoc]; rfl, HJ7.out, HKZ.out.trans ((KeepN.grown HG6h.out HSZ5.out.1).trans HK7.out)⟩
      case measure => first | exact meas_v hlj | (simp only [intOf]; omega)
     case neg =>
      have hljI : ¬ (j : Int) < (nl : Int) := by omega
      have hta : ls.take j = ls := List.take_of_length_le (by rw [HNL.out]; omega)
      have HZS2 := Lib.hid (show zs.map (·.1) = linesD (es.take (k + 1)) ent d by rw [HSK.out, HZS.out, hta])
      gi_wp2_with fail
      go_roundw
      case rel => exact ⟨k + 1, zs, by omega, by go_num, HZS2.out, HJZ.out, HKP4.out.trans HKZ.out⟩
      case measure => first | exact meas_v hlt | (simp only [intOf]; omega)
  case neg =>
   have hltI : ¬ (k : Int) < (N : Int) := by omega
   have hta : es.take k = es := List.take_of_length_le (by rw [HN.out]; omega)
   have HYS2 := Lib.hid (show ys.map (·.1) = linesD es ent d by have := HYS.out; rwa [hta] at this)
   gi_wp2_with fail
   go_end0
   exact ⟨⟨_, rfl⟩, .inl ⟨ys, HYS2.out, HJS.out⟩⟩
theorem lines_gives (F : Fence) (m : Nat) (hF : F.fn 27) (hro : F.round = none) (hn : 1 ≤ m) (Be Bn Bd n₀ : Nat) (T : Nat → Prop) (es : List XEntry) (A : Option Addr) (c : Nat) (ent d : Int) (pp : Int → XLine → Prop) (N0 : Nat) (w : World)
 (hn0 : n₀ ≤ w.heap.size) (hT : ∀ q, T q → q < w.heap.size) (hBe : ¬ T Be ∧ w.heap[Be]? = some (.cells #[.slice A es.length c] 30 (0, 0))) (hBn : ¬ T Bn ∧ w.heap[Bn]? = some (.cells #[.int .i64 ent] 3 (0, 0))) (hBd : ¬ T Bd ∧ w.heap[Bd]? = some (.cells #[.int .i64 d] 3 (0, 0)))
 (hl : ListC EntryC 7 w (· < n₀) [.slice A es.length c] es) (hln : ∀ x ∈ es, x.lines.length ≤ 100000) (hes : es.length ≤ 100000) (hp : ∀ x ∈ es, x.entity = ent → x.date ≤ d → ∀ y ∈ x.lines, pp x.date y) (hN0 : (linesD es ent d).length ≤ N0) :
 SeqStopsK F m Try.prog 27 #[.pointer (some ⟨Be, 0, none⟩), .pointer (some ⟨Bn, 0, none⟩), .pointer (some ⟨Bd, 0, none⟩)] (encDL (p := pp)) (KeepN n₀ T) (fun ys => ys.map (·.1) = linesD es ent d) (fun _ => True) N0 w := fun l J Jx W hW hJ hJx hY h0 => by
 have hs := hW.size
 have kp : ∀ {q : Nat} {o : Obj}, w.heap[q]? = some o → W.heap[q]? = some o := fun {q o} h => (hW.block q (Array.getElem?_eq_some_iff.1 h).1).trans h
 exact lines1_in F m hF hro hn l Be Bn Bd n₀ T es A c ent d pp N0 J Jx (fun pre x W1 h1 h2 => hY pre x W1 h1 h2) W (by omega) hJ (fun q h => by have := hT q h; omega) ⟨hBe.1, kp hBe.2⟩ ⟨hBn.1, kp hBn.2⟩ ⟨hBd.1, kp hBd.2⟩
  (hl.fr (fun h => EntryC.fr h ((Fr.ofBelow hW).mono (fun q (hq : q < n₀) => (by omega : q < w.heap.size)))) ((Fr.ofBelow hW).mono (fun q (hq : q < n₀) => (by omega : q < w.heap.size)))) hln hes hp hN0 h0
theorem wpIn_rangeBox {F : Fence} {n : Nat} {P : Program} {α : Type} {g : Operand} {ps : Array Tmp} {assign body : Code} {Q : Exit → Act → World → Prop} {a : Act} {w : World}
 (hro : F.round = none) (h1 : 1 ≤ n) {gf : Nat} {lb : Array Value} (hg : a.eval g = .func (.func gf) #[] lb) (hFg : F.fn gf) (eg : ∀ args w, (callFunc gf args).run P w = .ok (.enter gf args) w)
 {encs : α → Array Value} {Kp : World → World → Prop} {S : List α → Prop} {Sp : List α → Prop} {N : Nat} {w0 : World} (hseq : SeqStopsK F (n - 1) P gf lb encs Kp S Sp N w0)
 (hKt : ∀ {A B C : World}, Kp A B → Kp B C → Kp A C) (hKb : ∀ (W : World) (l : Nat) (o o' : Obj), w.heap.size ≤ l → W.heap[l]? = some o → o.isCells = false → o.isWalk = false → Kp W (W.putObj l o')) (hKg : ∀ W W' : World, w.heap.size ≤ W.heap.size → W.grownBy W' none → Kp W W') (hb0 : Below w0.heap.size w0 w) (hps : ∀ x, (encs x).size = ps.size)
 (I : List α → World → Prop) (hI : OwnFrom w.heap.size I) (h0 : I [] w) (bx : α → Array Value) (T : TypeId) (a₁ : α → Nat → Act)
 (hassign : ∀ (l : Nat) (x : α) (W : World) (K : Act → World → Prop), (∀ W' : World, W.grownBy W' none → W'.heap[W.heap.size]? = some (.cells (bx x) T (0, 0)) → K (a₁ x W.heap.size) W') →
  assign.wpIn (F.inRound l) (n - 1 - 1) P (Exit.then K (fun _ _ _ => False)) { tmps := (ps.zip (encs x)).foldl (fun t (p, v) => t.setIfInBounds p v) a.tmps, defers := [] } W)
 (hbody : ∀ (l : Nat) (pre : List α) (x : α) (b : Nat) (W : World), I pre W → pre.length < N → w.heap.size ≤ b → W.heap[b]? = some (.cells (bx x) T (0, 0)) → body.wpIn (F.inRound l) (n - 1 - 1) P (ownPostG w.heap.size Kp I (fun _ _ _ => False) (pre ++ [x]) W) (a₁ x b) W)
 (hdone : ∀ (D : Nat) (xs : List α) (W : World), w.heap.size ≤ D → S xs → I xs W → W.heap[D]? = some (.deferred (some [])) → Q .normal { a with defers := { target := .collected D, args := #[] } :: a.defers } W) :
 (Code.rangeFunc g ps assign body).wpIn F n P Q a w := by
 refine wpIn_rangeFunc ?_
 intro fn hfn
 rw [hro]
 obtain ⟨rec, hrec⟩ : ∃ rec : LoopState → Option Code → Loop, rec = fun st pe => { state := st, pending := pe, fn, tmps := a.tmps, params := ps, assign, body, defers := w.heap.size } := ⟨_, rfl⟩
 obtain ⟨W1, hW1⟩ : ∃ W1, (w.alloc (.deferred (some []))).alloc (.loop (rec .ready none)) = W1 := ⟨_, rfl⟩
 have hsz1 : W1.heap.size = w.heap.size + 2 := by rw [← hW1]; simp
 have hL1 : W1.heap[w.heap.size + 1]? = some (.loop (rec .ready none)) := by
  rw [← hW1]; have := World.alloc_heap_new (w.alloc (.deferred (some []))) (.loop (rec .ready none)); rwa [World.size_alloc] at this
 have hK1 : W1.heap[w.heap.size]? = some (.deferred (some [])) := by
  rw [← hW1]; exact (Below.heap_alloc _ _ _ (by simp)).trans (World.alloc_heap_new w _)
 have hI1 : I [] W1 := by rw [← hW1]; exact hI.alloc _ (hI.alloc _ h0)
 have hb1 : Below w0.heap.size w0 W1 := by
  rw [← hW1]; exact hb0.trans ((((Below.refl _ w).alloc (Nat.le_refl _) _).alloc (by simp) _).mono hb0.size)
 refine ⟨w.heap.size + 1, [{ target := .collected w.heap.size, args := #[] }], W1, { target := .fn (.func gf) lb, args := #[.func (.yield (w.heap.size + 1)) #[] #[]] }, W1, gf,
  #[.func (.yield (w.heap.size + 1)) #[] #[]] ++ lb, W1, ?_, ?_, ?_, ?_, fun _ => h1, ?_⟩
 · rw [← hW1, hrec]; exact run_enterLoop_outer _ _ _ _ _
 · simp only [resolve, hg]
   simp [go_sem]
 · intro f' hf'; simp [Target.leads] at hf'; subst hf'; exact hFg
 · simp [invoke, go_sem, eg]
 have hnw : ∀ {A : World} {row : Option Nat}, (∀ r, row = some r → W1.heap.size ≤ r ∧ ∃ o : Obj, A.heap[r]? = some o ∧ o.isWalk = true) → (∀ r, row = some r → w.heap.size ≤ r ∧ ∃ o : Obj, A.heap[r]? = some o ∧ o.isCells = false) :=
  fun hr r e => by obtain ⟨hB, o, ho, hw⟩ := hr r e; exact ⟨by omega, o, ho, Obj.not_cells_of_walk hw⟩
 refine (hseq (w.heap.size + 1) (fun pre W => I pre W ∧ W.heap[w.heap.size + 1]? = some (.loop (rec .ready none)) ∧ W.heap[w.heap.size]? = some (.deferred (some []))) (fun _ _ => False) W1 hb1
  (fun s A B row hs hg' hr => ⟨hI s A B row hs.1 hg' (hnw hr), (grownBy_keeps hg' (fun r e => (hr r e).2) hs.2.1 rfl).trans hs.2.1, (grownBy_keeps hg' (fun r e => (hr r e).2) hs.2.2 rfl).trans hs.2.2⟩)
  (fun _ _ _ _ hs _ _ => hs) ?_ ⟨hI1, hL1, hK1⟩).mono ?_
 · rintro pre x W ⟨hi, hl, hk⟩ hlen
   have hlt : w.heap.size + 1 < W.heap.size := (Array.getElem?_eq_some_iff.1 hl).1
   have hy := run_yield (P := P) (args := encs x) hl (by rw [hrec]; exact hps x)
   rw [hrec] at hy
   refine ⟨fn, _, assign, body, hy, roundIn_of_wpIn hfn (hassign _ x W _ (fun W' hgr hbx => ?_))⟩
   have hl' : W'.heap[w.heap.size + 1]? = some (.loop (rec .ready none)) := (hgr.block _ hlt (by simp)).trans hl
   have hk' : W'.heap[w.heap.size]? = some (.deferred (some [])) := (hgr.block _ (by omega) (by simp)).trans hk
   have hi' : I pre W' := hI pre W W' none hi hgr (fun r e => by cases e)
   have hlt' : w.heap.size + 1 < W'.heap.size := (Array.getElem?_eq_some_iff.1 hl').1
   have hw1 : Kp W W' := hKg W W' (by omega) hgr
   refine ⟨_, run_beginRound hl' (by rw [hrec]), ?_⟩
   have hl2 : (W'.putObj (w.heap.size + 1) (.loop { rec .ready none with state := .busy })).heap[w.heap.size + 1]? = some (.loop { rec .ready none with state := .busy }) := World.putObj_heap_same hlt'
   have hk2 : (W'.putObj (w.heap.size + 1) (.loop { rec .ready none with state := .busy })).heap[w.heap.size]? = some (.deferred (some [])) := (World.putObj_heap_other (by omega)).trans hk'
   have hbx2 : (W'.putObj (w.heap.size + 1) (.loop { rec .ready none with state := .busy })).heap[W.heap.size]? = some (.cells (bx x) T (0, 0)) := (World.putObj_heap_other (by omega)).trans hbx
   have hw2 : Kp W (W'.putObj (w.heap.size + 1) (.loop { rec .ready none with state := .busy })) := hKt hw1 (hKb _ _ _ _ (by omega) hl' rfl rfl)
   refine wpIn_mono (hbody _ pre x W.heap.size _ (hI.putObj _ hi' (by omega) hl' rfl) hlen (by omega) hbx2) ?_
   rintro e a3 W3 hp
   cases e with
   | normal =>
    obtain ⟨hk3, hkp3, hi3⟩ := hp
    have hl3 := hk3.same _ _ (by omega) hl2 rfl
    have hr := run_endRound (P := P) none hl3
    rw [hrec] at hr hl3
    have hl4 : (W3.putObj (w.heap.size + 1) (.loop (rec .ready none))).heap[w.heap.size + 1]? = some (.loop (rec .ready none)) := World.putObj_heap_same (Array.getElem?_eq_some_iff.1 hl3).1
    rw [hrec] at hl4 ⊢
    exact ⟨_, _, hr, .inl ⟨rfl, ⟨hI.putObj _ hi3 (by omega) hl3 rfl, hl4, (World.putObj_heap_other (by omega)).trans (hk3.same _ _ (Nat.le_refl _) hk2 rfl)⟩, hKt (hKt hw2 hkp3) (hKb _ _ _ _ (by omega) hl3 rfl rfl)⟩⟩
   | ret => exact hp.2.elim
   | exit id => exact hp.2.elim
   | goto t => exact hp.2.elim
   | panic ch => exact hp.elim
   | outgrown => exact hp.elim
 · rintro e W2 ⟨⟨v, rfl⟩, (⟨xs, hS, hi, hl, hk⟩ | ⟨pre, hSp, hf⟩)⟩
   · exact ⟨none, _, by have := run_endLoop (P := P) hl (by rw [hrec]; simp); rw [hrec] at this; exact this, hdone _ xs _ (Nat.le_refl _) hS (hI.putObj _ hi (by omega) hl rfl) ((World.putObj_heap_other (by omega)).trans hk)⟩
   · exact hf.elim
attribute [local go_sem] Oper.semAt_some
def lineOk (_ : Int) (y : XLine) : Prop := y.amount.natAbs ≤ 1125899906842624 ∧ 1 ≤ y.account ∧ y.account ≤ 99999
theorem sumPd_abs (p : Int → Int → Bool) (acc : Int) : ∀ l : List (DL lineOk), (sumPd p acc (l.map (·.1))).natAbs ≤ l.length * 1125899906842624
 | [] => by simp [sumPd]
 | z :: l => by
  have h := sumPd_abs p acc l
  have h2 : sumPd p acc ((z :: l).map (·.1)) = (if z.1.2.account = acc ∧ p z.1.1 z.1.2.amount = true then z.1.2.amount else 0) + sumPd p acc (l.map (·.1)) := by simp [sumPd]
  have h3 := z.2.1
  rw [h2, List.length_cons]
  split <;> omega
theorem sumPd_next (p : Int → Int → Bool) (acc : Int) (l : List (DL lineOk)) (z : DL lineOk) : sumPd p acc ((l ++ [z]).map (·.1)) = sumPd p acc (l.map (·.1)) + (if z.1.2.account = acc ∧ p z.1.1 z.1.2.amount = true then z.1.2.amount else 0) := by
 rw [List.map_append]
 exact sumPd_snoc p acc _ _
theorem keepN_own {β : Type} {n₀ B : Nat} {T : Nat → Prop} {w0 : World} (hn : n₀ ≤ w0.heap.size) (hB : n₀ ≤ B) : OwnFrom B (fun (_ : β) W => KeepN n₀ T w0 W) := fun _ W W' row hs hg hr =>
 ⟨hs.1.grown hg (Nat.le_trans hn hs.1.size) (fun k e => Nat.le_trans hB (hr k e).1), fun k o hk ho hc => by
  have h1 := hs.2 k o hk ho hc
  refine (hg.block k (Array.getElem?_eq_some_iff.1 h1).1 (fun e => ?_)).trans h1
  obtain ⟨_, o2, h2, h3⟩ := hr k e.symm
  rw [h1] at h2
  cases h2
  rw [hc] at h3
  cases h3⟩
theorem cells_own {β : Type} {B b : Nat} {f : β → Array Value} {t : TypeId} : OwnFrom B (fun (s : β) W => W.heap[b]? = some (.cells (f s) t (0, 0))) := fun s W W' row hs hg hr => by
 refine (hg.block b (Array.getElem?_eq_some_iff.1 hs).1 (fun e => ?_)).trans hs
 obtain ⟨_, o2, h2, h3⟩ := hr b e.symm
 rw [hs] at h2
 cases h2
 cases h3
theorem KeepN.set {n₀ : Nat} {W : World} {b : Nat} {cs : Array Value} {t : TypeId} {fr : Nat × Nat} {j : Nat} {v : Value} (h : W.heap[b]? = some (.cells cs t fr)) {b' : Nat} (hb : b' = b) (hn : n₀ ≤ b) : KeepN n₀ (fun q => q = b) W (W.setCell ⟨b', j, none⟩ v) := by
 subst hb
 exact ⟨(Below.refl _ _).setCell (p := ⟨b', j, none⟩) hn _, fun k o hk ho _ => (Below.heap_setCell W ⟨b', j, none⟩ _ k hk).trans ho⟩
def HoldsC (F : Fence) (n : Nat) (w : World) (h : Nat) (hb : Array Value) (p : Int → Int → Bool) : Prop := ∀ (t m : Int) (W : World), Below w.heap.size w W → CallsIn F n Try.prog h (#[.int .i64 t, .int .i64 m] ++ hb) W fun e W' => e = .returned (.bool (p t m)) ∧ W' = W
theorem lines_in (F : Fence) (m : Nat) (hF : F.fn 16) (hro : F.round = none) (A : Option Addr) (n c : Nat) (ent d : Int) (w : World) : CallsIn F m Try.prog 16 #[.slice A n c, .int .i64 ent, .int .i64 d] w (fun e w' => e = .returned (.func (.func 27) #[] #[.pointer (some ⟨w.heap.size, 0, none⟩), .pointer (some ⟨w.heap.size + 1, 0, none⟩), .pointer (some ⟨w.heap.size + 1 + 1, 0, none⟩)]) ∧ w' = ((w.alloc (.cells #[.slice A n c] 30)).alloc (.cells #[.int .i64 ent] 3)).alloc (.cells #[.int .i64 d] 3)) := by
 refine callsIn_of_wp Try.func16 rfl hF ?_ hro
 simp only [Try.ntmps16, List.size_toArray, List.length_cons, List.length_nil, Nat.reduceAdd, Nat.reduceSub, Array.replicate_succ, Array.replicate_zero, List.push_toArray, List.append_toArray, List.nil_append, List.cons_append]
 gi_wp2_with fail
 go_ret
 exact ⟨rfl, rfl⟩
set_option maxRecDepth 100000 in
set_option maxHeartbeats 4000000 in
theorem bsum_in (F : Fence) (m : Nat) (hF : F.fn 22) (hL : F.fn 16) (hL1 : F.fn 27) (h : Nat) (hb : Array Value) (hFh : F.fn h) (eh : ∀ args w, (callFunc h args).run Try.prog w = .ok (.enter h args) w) (hro : F.round = none) (hm : 4 ≤ m)
 (es : List XEntry) (A : Option Addr) (c : Nat) (ent acc d : Int) (BK : Array Value) (p : Int → Int → Bool) (w : World) (h21 : BK[21]? = some (.slice A es.length c)) (h22 : BK[22]? = some (.int .i64 ent))
 (hl : ListC EntryC 7 w (· < w.heap.size) [.slice A es.length c] es) (hln : ∀ x ∈ es, x.lines.length ≤ 100000) (hes : es.length ≤ 100000) (hp : ∀ x ∈ es, x.entity = ent → x.date ≤ d → ∀ y ∈ x.lines, lineOk x.date y) (hN0 : (linesD es ent d).length ≤ 4000) (hH : HoldsC F (m - 1 - 1 - 1) w h hb p) :
 CallsIn F m Try.prog 22 #[.agg BK, .int .i64 acc, .int .i64 d, .func (.func h) #[] hb] w fun e W' => e = .returned (.int .i64 (sumPd p acc (linesD es ent d))) ∧ Below w.heap.size w W' := by
 have h1 : 1 ≤ m := by omega
 have hm2 : 1 ≤ m - 1 - 1 := by omega
 have HL := Lib.hid hl
 have HLN := Lib.hid hln
 have HES := Lib.hid hes
 have HPP := Lib.hid hp
 have HN0 := Lib.hid hN0
 have HH := Lib.hid hH
 have H21 := Lib.hid h21
 have H22 := Lib.hid h22
 obtain ⟨N, hN⟩ : ∃ N, es.length = N := ⟨_, rfl⟩
 have HN := Lib.hid hN
 rw [hN] at H21
 clear hl hln hes hp hN0 hH h21 h22 hN
 refine callsIn_of_wp_marks Try.func22 rfl hF ?_ hro
 simp only [Try.ntmps22, List.size_toArray, List.length_cons, List.length_nil, Nat.reduceAdd, Nat.reduceSub, Array.replicate_succ, Array.replicate_zero, List.push_toArray, List.append_toArray, List.nil_append, List.cons_append]
 gi_upto_region 2 with fail
 obtain ⟨W4, hW4⟩ : ∃ W4, (((w.alloc (Obj.cells BK 53)).alloc (Obj.cells #[.int .i64 acc] 3)).alloc (Obj.cells #[.func (.func h) #[] hb] 69)).alloc (Obj.cells #[.int .i64 0] 3) = W4 := ⟨_, rfl⟩
 rw [hW4]
 have e0 : W4.heap[w.heap.size]? = some (.cells BK 53 (0, 0)) := by rw [← hW4]; exact alloc_keep (alloc_keep (alloc_keep (heap_alloc_new w _) _) _) _
 have e1 : W4.heap[w.heap.size + 1]? = some (.cells #[.int .i64 acc] 3 (0, 0)) := by
  rw [← hW4]
  refine alloc_keep (alloc_keep ?_ _) _
  have := heap_alloc_new (w.alloc (Obj.cells BK 53)) (Obj.cells #[.int .i64 acc] 3)
  rwa [World.size_alloc] at this
 have e2 : W4.heap[w.heap.size + 1 + 1]? = some (.cells #[.func (.func h) #[] hb] 69 (0, 0)) := by
  rw [← hW4]
  refine alloc_keep ?_ _
  have := heap_alloc_new ((w.alloc (Obj.cells BK 53)).alloc (Obj.cells #[.int .i64 acc] 3)) (Obj.cells #[.func (.func h) #[] hb] 69)
  rwa [World.size_alloc, World.size_alloc] at this
 have e3 : W4.heap[w.heap.size + 1 + 1 + 1]? = some (.cells #[.int .i64 0] 3 (0, 0)) := by
  rw [← hW4]
  have := heap_alloc_new (((w.alloc (Obj.cells BK 53)).alloc (Obj.cells #[.int .i64 acc] 3)).alloc (Obj.cells #[.func (.func h) #[] hb] 69)) (Obj.cells #[.int .i64 0] 3)
  rwa [World.size_alloc, World.size_alloc, World.size_alloc] at this
 have hs4 : W4.heap.size = w.heap.size + 4 := by rw [← hW4]; simp
 have hb4 : Below w.heap.size w W4 := by rw [← hW4]; exact ((((Below.refl _ w).alloc (Nat.le_refl _) _).alloc (by simp) _).alloc (by simp; omega) _).alloc (by simp; omega) _
 clear hW4
 have c21 := (blk_cell e0 21).trans H21.out
 have c22 := (blk_cell e0 22).trans H22.out
 have E1 := Lib.hid e1
 have E2 := Lib.hid e2
 have E3 := Lib.hid e3
 have HS4 := Lib.hid hs4
 have HB4 := Lib.hid hb4
 clear e0 e1 e2 e3 hs4 hb4
 gi_wp2_with (gi_at_call 16; refine (lines_in F (m - 1) hL hro _ N c ent d W4).mono ?_; rintro e w' ⟨rfl, rfl⟩)
 obtain ⟨W7, hW7⟩ : ∃ W7, ((W4.alloc (.cells #[.slice A N c] 30)).alloc (.cells #[.int .i64 ent] 3)).alloc (.cells #[.int .i64 d] 3) = W7 := ⟨_, rfl⟩
 rw [hW7]
 have HL0 := Lib.hid (show ¬ (W4.heap.size = w.heap.size + 3) ∧ W7.heap[W4.heap.size]? = some (.cells #[.slice A es.length c] 30 (0, 0)) from ⟨by have := HS4.out; omega, by rw [← hW7, HN.out]; exact alloc_keep (alloc_keep (heap_alloc_new W4 _) _) _⟩)
 have HL1 := Lib.hid (show ¬ (W4.heap.size + 1 = w.heap.size + 3) ∧ W7.heap[W4.heap.size + 1]? = some (.cells #[.int .i64 ent] 3 (0, 0)) from ⟨by have := HS4.out; omega, by
  rw [← hW7]
  refine alloc_keep ?_ _
  have := heap_alloc_new (W4.alloc (.cells #[.slice A N c] 30)) (.cells #[.int .i64 ent] 3)
  rwa [World.size_alloc] at this⟩)
 have HL2 := Lib.hid (show ¬ (W4.heap.size + 1 + 1 = w.heap.size + 3) ∧ W7.heap[W4.heap.size + 1 + 1]? = some (.cells #[.int .i64 d] 3 (0, 0)) from ⟨by have := HS4.out; omega, by
  rw [← hW7]
  have := heap_alloc_new ((W4.alloc (.cells #[.slice A N c] 30)).alloc (.cells #[.int .i64 ent] 3)) (.cells #[.int .i64 d] 3)
  rwa [World.size_alloc, World.size_alloc] at this⟩)
 have HS7 := Lib.hid (show W7.heap.size = w.heap.size + 7 by rw [← hW7]; have := HS4.out; simp; omega)
 have hb47 : Below W4.heap.size W4 W7 := by rw [← hW7]; exact (((Below.refl _ W4).alloc (Nat.le_refl _) _).alloc (by simp) _).alloc (by simp; omega) _
 have HB7 := Lib.hid (HB4.out.trans (hb47.mono HB4.out.size))
 have F1 := Lib.hid ((hb47.block _ (blk_lt E1.out)).trans E1.out)
 have F2 := Lib.hid ((hb47.block _ (blk_lt E2.out)).trans E2.out)
 have F3 := Lib.hid ((hb47.block _ (blk_lt E3.out)).trans E3.out)
 have HLE := Lib.hid (show ListC EntryC 7 W7 (· < w.heap.size) [.slice A es.length c] es from HL.out.fr (fun h => EntryC.fr h (Fr.ofBelow HB7.out)) (Fr.ofBelow HB7.out))
 clear hb47 hW7 c21 c22 E1 E2 E3
 have HSQ := Lib.hid (lines_gives F (m - 1) hL1 hro (by omega) W4.heap.size (W4.heap.size + 1) (W4.heap.size + 1 + 1) w.heap.size (fun q => q = w.heap.size + 3) es A c ent d lineOk 4000 W7 (by have := HS7.out; omega) (fun q hq => by have := HS7.out; omega) HL0.out HL1.out HL2.out HLE.out HLN.out HES.out HPP.out HN0.out)
 refine wpIn_rangeBox hro h1 (gf := 27) (lb := #[.pointer (some ⟨W4.heap.size, 0, none⟩), .pointer (some ⟨W4.heap.size + 1, 0, none⟩), .pointer (some ⟨W4.heap.size + 1 + 1, 0, none⟩)]) rfl hL1 (enters_of Try.func27 (by kernel_rfl) rfl) HSQ.out (fun h k => h.trans k) (fun W l o o' hl ho hc hw => KeepN.putObj (w := W7) (by have := HS7.out; omega) W l o o' hl ho hc hw) (fun W W' hW hg => KeepN.grown hg (by have := HS7.out; omega)) (Below.refl _ _) (fun _ => rfl)
  (fun pre W => KeepN w.heap.size (fun q => q = w.heap.size + 3) W7 W ∧ W.heap[w.heap.size + 3]? = some (.cells #[.int .i64 (sumPd p acc (pre.map (·.1)))] 3 (0, 0)))
  (OwnFrom.and (keepN_own (by have := HS7.out; omega) (by have := HS7.out; omega)) cells_own) ⟨KeepN.refl _, F3.out⟩ (fun x => (lineL x.1.2).toArray) 49 (fun x b => { tmps := #[.agg BK, .int .i64 acc, .int .i64 d, .func (.func h) #[] hb, .pointer (some ⟨w.heap.size, 0, none⟩), .pointer (some ⟨w.heap.size + 1, 0, none⟩), undef, .pointer (some ⟨w.heap.size + 1 + 1, 0, none⟩), .int .i64 0, .pointer (some ⟨w.heap.size + 1 + 1 + 1, 0, none⟩), .int .i64 x.1.1, .pointer (some ⟨b, 0, none⟩), .pointer (some ⟨w.heap.size, 21, none⟩), .slice A N c, .pointer (some ⟨w.heap.size, 22, none⟩), .int .i64 ent, .int .i64 d, .func (.func 27) #[] #[.pointer (some ⟨W4.heap.size, 0, none⟩), .pointer (some ⟨W4.heap.size + 1, 0, none⟩), .pointer (some ⟨W4.heap.size + 1 + 1, 0, none⟩)], .int .i64 x.1.1, .agg (lineL x.1.2).toArray, undef, undef, undef, undef, undef, undef, undef, undef, undef, undef, undef, undef, undef, undef, undef, undef], defers := [] }) ?assign ?body ?done
 case assign =>
  rintro l ⟨⟨t, la, lm, lp⟩, hx⟩ W K hK
  have HK := Lib.hid hK
  clear hK
  simp only [encDL, lineL]
  gi_wp2_with (show wpListIn _ _ _ _ _ (Oper.mk none (Op.store _ (Operand.tmp 11) _) _ _ _ _ :: _) _ _; refine wpListIn_store_fresh rfl 49 (.tmp 11) (.tmp 19) rfl rfl W #[.int .i64 0, .int .i64 0, .int .i64 0] 49 #[.int .i64 la, .int .i64 lm, .int .i64 lp] rfl rfl rfl info_line rfl (by simp [Value.oneCell']) ?_; intro w4 H4 HG4 HS4)
  exact HK.out w4 HG4 H4
 case body =>
  rintro l pre ⟨⟨t, la, lm, lp⟩, hx⟩ b W ⟨hK, hNB⟩ hlen hbW hbx
  obtain ⟨s, hs⟩ : ∃ s, sumPd p acc (pre.map (·.1)) = s := ⟨_, rfl⟩
  have HNX := Lib.hid (sumPd_next p acc pre ⟨(t, ⟨la, lm, lp⟩), hx⟩)
  have hsb := sumPd_abs p acc pre
  simp only [hs] at HNX hsb hNB
  have hxb : lm.natAbs ≤ 1125899906842624 := hx.1
  have hsb2 : s.natAbs ≤ 4000 * 1125899906842624 := Nat.le_trans hsb (Nat.mul_le_mul_right _ (by omega))
  have hr1 : -9223372036854775808 ≤ s + lm := by omega
  have hr2 : s + lm ≤ 9223372036854775807 := by omega
  have x0 := blk_cell hbx 0
  have x1 := blk_cell hbx 1
  have a0 := blk_cell (hK.cells (by omega) F1.out) 0
  have k0 := blk_cell (hK.cells (by omega) F2.out) 0
  have n0 := blk_cell hNB 0
  have n1 := blk_frozen hNB 0
  have HHW := Lib.hid (HH.out t lm W (HB7.out.trans (hK.1.mono (Nat.le_refl _))))
  have HKW := Lib.hid hK
  have HNB := Lib.hid hNB
  clear hsb hsb2 hxb hs hK hNB hbx
  have e3 : (w.heap.size + 1 + 1 + 1 : Nat) = w.heap.size + 3 := rfl
  by_cases hla : la = acc
  case neg =>
   have hlb : (la == acc) = false := by simpa using hla
   have HNX2 := Lib.hid (show sumPd p acc ((pre ++ [(⟨(t, ⟨la, lm, lp⟩), hx⟩ : DL lineOk)]).map (fun z : DL lineOk => z.1)) = s by rw [HNX.out, if_neg (fun h => hla h.1)]; omega)
   clear hla
   simp only [lineL]
   gi_wp2_with (with_reducible refine And.intro (fun f hf => by cases hf) ?_)
   exact ⟨KeepsFrom.refl _ _, KeepN.refl _, HKW.out, by rw [HNX2.out]; exact HNB.out⟩
  case pos =>
   have hlb : (la == acc) = true := by simpa using hla
   obtain ⟨q, hq⟩ : ∃ q, p t lm = q := ⟨_, rfl⟩
   rw [hq] at HHW
   cases q with
   | false =>
    have HNX2 := Lib.hid (show sumPd p acc ((pre ++ [(⟨(t, ⟨la, lm, lp⟩), hx⟩ : DL lineOk)]).map (fun z : DL lineOk => z.1)) = s by rw [HNX.out, if_neg (fun h => by rw [hq] at h; cases h.2)]; omega)
    clear hla hq
    simp only [lineL]
    gi_wp2_with (first | (with_reducible refine And.intro (fun f hf => by cases hf) ?_) | (gi_at_fn h; refine (CallsIn.inRound l HHW.out).mono ?_; rintro e w' ⟨rfl, rfl⟩))
    exact ⟨KeepsFrom.refl _ _, KeepN.refl _, HKW.out, by rw [HNX2.out]; exact HNB.out⟩
   | true =>
    have HNX2 := Lib.hid (show sumPd p acc ((pre ++ [(⟨(t, ⟨la, lm, lp⟩), hx⟩ : DL lineOk)]).map (fun z : DL lineOk => z.1)) = s + lm by rw [HNX.out, if_pos ⟨hla, hq⟩])
    clear hla hq
    simp only [lineL]
    gi_wp2_with (first | (with_reducible refine And.intro (fun f hf => by cases hf) ?_) | (gi_at_fn h; refine (CallsIn.inRound l HHW.out).mono ?_; rintro e w' ⟨rfl, rfl⟩))
    exact ⟨(KeepsOthers.setCell _ _ _).from _, KeepN.set HNB.out rfl (by omega), HKW.out.trans (KeepN.set HNB.out rfl (by omega)), by rw [HNX2.out]; exact heap_setCell_same HNB.out 0 _⟩
 case done =>
  rintro D ys W hD hys ⟨hK, hNB⟩ hD2
  have n0 := blk_cell hNB 0
  rw [hys] at n0
  have HKW := Lib.hid hK
  have HHD := Lib.hid hD2
  clear hK hNB hys
  gi_wp2_with fail
  refine ⟨by simp, .inl ⟨_, _, rfl, run_takeDeferred HHD.out, ?_⟩⟩
  exact ⟨_, results_tmp rfl _ _ _, rfl, (HB7.out.trans (HKW.out.1.mono (Nat.le_refl _))).trans (belowK_b (w := w) (Nat.le_refl _) W D _ _ (by have := HS7.out; omega) HHD.out rfl rfl)⟩
end Go.Proofs.Ytekelchdbkjjjaa
