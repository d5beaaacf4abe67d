/- Charts: the way up, in plain Lean. Written by gen_b9.py. -/
import Derived.Test.YtekelchdbkjjjaaGreatG20xB0B2
import Derived.Test.YtekelchdbkjjjaaGreatG20xB3B8
import Derived.Test.YtekelchdbkjjjaaGreatProg
set_option linter.unusedVariables false
set_option linter.unusedSimpArgs false
set_option maxRecDepth 4000
attribute [local go_sem ↓] Go.wp_at_zero Go.wp_at_succ
namespace Go.Proofs.YtekelchdbkjjjaaGreat
open Go Go.RowKit
def upP (l : List XAccount) : Nat → List Int → Int → List Int × Int
 | 0, acc, c => (acc, c)
 | f + 1, acc, c => match findA l c with
  | none => (acc, c)
  | some a => if acc.contains c then (acc, c) else upP l f (acc ++ [c]) a.parent
def upR (l : List XAccount) : Nat → List Int → Int → List Int
 | 0, acc, _ => acc
 | f + 1, acc, c => match findA l c with
  | none => acc
  | some a => upR l f (acc ++ [c]) a.parent
theorem findA_mem {l : List XAccount} {c : Int} {a : XAccount} (h : findA l c = some a) : a ∈ l ∧ a.code = c := by
 unfold findA at h
 exact ⟨List.mem_of_find?_eq_some h, by simpa using List.find?_some h⟩
theorem findA_of_mem {l : List XAccount} {a : XAccount} (h : a ∈ l) : (findA l a.code).isSome = true := by
 unfold findA
 rw [List.find?_isSome]
 exact ⟨a, h, by simp⟩
def known (l : List XAccount) (acc : List Int) : Prop := acc.Nodup ∧ ∀ x ∈ acc, (findA l x).isSome = true
theorem nodup_le : ∀ (xs ys : List Int), xs.Nodup → (∀ x ∈ xs, x ∈ ys) → xs.length ≤ ys.length
 | [], _, _, _ => Nat.zero_le _
 | x :: xs, ys, h, hs => by
  rw [List.nodup_cons] at h
  have hx : x ∈ ys := hs x (by simp)
  have := nodup_le xs (ys.erase x) h.2 (fun y hy => (List.mem_erase_of_ne (by rintro rfl; exact h.1 hy)).2 (hs y (by simp [hy])))
  rw [List.length_erase_of_mem hx] at this
  have := List.length_pos_of_mem hx
  simp only [List.length_cons]
  omega
theorem known_le {l : List XAccount} {acc : List Int} (h : known l acc) : acc.length ≤ l.length := by
 have h1 : acc ⊆ l.map (·.code) := by
  intro x hx
  have := h.2 x hx
  obtain ⟨a, ha⟩ := Option.isSome_iff_exists.1 this
  obtain ⟨m, e⟩ := findA_mem ha
  exact List.mem_map.2 ⟨a, m, e⟩
 have := nodup_le acc _ h.1 (fun x hx => h1 hx)
 simpa using this
theorem known_nil (l : List XAccount) : known l [] := ⟨List.nodup_nil, by simp⟩
theorem known_snoc {l : List XAccount} {acc : List Int} {c : Int} {a : XAccount} (h : known l acc) (hc : acc.contains c = false) (ha : findA l c = some a) : known l (acc ++ [c]) := by
 have hn : c ∉ acc := by simpa using hc
 refine ⟨List.nodup_append.2 ⟨h.1, by simp, ?_⟩, ?_⟩
 · intro x hx y hy
   simp only [List.mem_singleton] at hy
   subst hy
   exact fun e => hn (e ▸ hx)
 · intro x hx
   rcases List.mem_append.1 hx with h1 | h1
   · exact h.2 x h1
   · simp only [List.mem_singleton] at h1
     subst h1
     rw [ha]; rfl
def leads (l : List XAccount) (acc : List Int) (c : Int) : Prop := ∀ x ∈ acc, ∃ a, findA l x = some a ∧ (a.parent ∈ acc ∨ a.parent = c)
theorem upR_ring {l : List XAccount} {S : List Int} (hS : ∀ x ∈ S, ∃ a, findA l x = some a ∧ a.parent ∈ S) : ∀ (f : Nat) (acc : List Int) (c : Int), c ∈ S → (upR l f acc c).length = acc.length + f
 | 0, acc, c, _ => rfl
 | f + 1, acc, c, hc => by
  obtain ⟨a, ha, hp⟩ := hS c hc
  unfold upR
  rw [ha]
  simp only
  rw [upR_ring hS f (acc ++ [c]) a.parent hp, List.length_append]
  simp only [List.length_cons, List.length_nil]
  omega
theorem up_both {l : List XAccount} : ∀ (f : Nat) (acc : List Int) (c : Int), known l acc → leads l acc c → acc.length + f = l.length + 1 →
 (findA l (upP l f acc c).2 = none ↔ (upR l f acc c).length ≤ l.length)
 | 0, acc, c, hk, _, hf => by have := known_le hk; omega
 | f + 1, acc, c, hk, hl, hf => by
  unfold upP upR
  cases ha : findA l c with
  | none =>
   simp only
   rw [ha]
   have := known_le hk
   simp [this]
  | some a =>
   simp only
   by_cases hc : acc.contains c = true
   · rw [if_pos hc]
     simp only [ha, reduceCtorEq, false_iff, Nat.not_le]
     have hcm : c ∈ acc := by simpa using hc
     have hS : ∀ x ∈ acc, ∃ a, findA l x = some a ∧ a.parent ∈ acc := by
      intro x hx
      obtain ⟨b, h1, h2⟩ := hl x hx
      refine ⟨b, h1, ?_⟩
      rcases h2 with h2 | h2
      · exact h2
      · rw [h2]; exact hcm
     obtain ⟨b, h1, h2⟩ := hS c hcm
     rw [ha] at h1
     cases h1
     rw [upR_ring hS f (acc ++ [c]) a.parent h2, List.length_append]
     simp only [List.length_cons, List.length_nil]
     omega
   · rw [if_neg hc]
     have hc' : acc.contains c = false := by simpa using hc
     refine up_both f (acc ++ [c]) a.parent (known_snoc hk hc' ha) ?_ (by simp only [List.length_append, List.length_cons, List.length_nil]; omega)
     intro x hx
     rcases List.mem_append.1 hx with h1 | h1
     · obtain ⟨b, h2, h3⟩ := hl x h1
       refine ⟨b, h2, ?_⟩
       rcases h3 with h3 | h3
       · exact .inl (List.mem_append_left _ h3)
       · exact .inl (h3 ▸ List.mem_append_right _ (by simp))
     · simp only [List.mem_singleton] at h1
       subst h1
       exact ⟨a, ha, .inr rfl⟩
theorem upP_last {l : List XAccount} : ∀ (f : Nat) (acc : List Int) (c : Int), (∀ x, acc.getLast? = some x → ∃ a, findA l x = some a ∧ a.parent = c) →
 ∀ x, (upP l f acc c).1.getLast? = some x → ∃ a, findA l x = some a ∧ a.parent = (upP l f acc c).2
 | 0, acc, c, h => h
 | f + 1, acc, c, h => by
  unfold upP
  cases ha : findA l c with
  | none => exact h
  | some a =>
   simp only
   by_cases hc : acc.contains c = true
   · rw [if_pos hc]; exact h
   · rw [if_neg hc]
     refine upP_last f (acc ++ [c]) a.parent ?_
     intro x hx
     rw [List.getLast?_append] at hx
     simp only [List.getLast?_singleton, Option.some_or, Option.some.injEq] at hx
     subst hx
     exact ⟨a, ha, rfl⟩
theorem upP_pos {l : List XAccount} : ∀ (f : Nat) (acc : List Int) (c : Int), acc.length ≤ (upP l f acc c).1.length
 | 0, acc, c => Nat.le_refl _
 | f + 1, acc, c => by
  unfold upP
  cases ha : findA l c with
  | none => exact Nat.le_refl _
  | some a =>
   simp only
   by_cases hc : acc.contains c = true
   · rw [if_pos hc]; exact Nat.le_refl _
   · rw [if_neg hc]
     have := upP_pos (l := l) f (acc ++ [c]) a.parent
     simp only [List.length_append, List.length_cons, List.length_nil] at this
     omega
def fieldB (g : Bool) (a : XAccount) : Bool := decide (1 ≤ a.code ∧ a.code ≤ 99999 ∧ 1 ≤ a.kind ∧ a.kind ≤ 5) && (if g then decide (1 ≤ a.basis ∧ a.basis ≤ 3) else a.basis == 0)
def parB (l : List XAccount) (a : XAccount) : Bool := match findA l a.parent with
 | none => false
 | some p => !(p.code == a.code) && p.kind == a.kind
def properP (l : List XAccount) (g : Bool) (a : XAccount) : Bool := fieldB g a && (a.parent == 0 || (parB l a && (upP l (l.length + 1) [] a.code).2 == 0))
def properR (l : List XAccount) (g : Bool) (a : XAccount) : Bool := fieldB g a && (a.parent == 0 || parB l a)
def rowP (l : List XAccount) (g : Bool) (i : Nat) : Bool := match l[i]? with
 | none => false
 | some a => !(decide (0 < i) && decide ((l.getD (i - 1) {}).code ≥ a.code)) && properP l g a
def rowR (l : List XAccount) (g : Bool) (i : Nat) : Bool := match l[i]? with
 | none => false
 | some a => properR l g a && !(decide (0 < i) && decide (a.code ≤ (l.getD (i - 1) {}).code)) && decide ((upR l (l.length + 1) [] a.code).length ≤ l.length)
def chartB (l : List XAccount) (g : Bool) : Bool := (List.range l.length).all (rowP l g) && decide (l.length ≤ 200)
def chartR (l : List XAccount) (g : Bool) : Bool := decide (l.length ≤ 200) && (List.range l.length).all (rowR l g)
theorem up_zero {l : List XAccount} (hc : ∀ a ∈ l, 1 ≤ a.code) (hp : ∀ a ∈ l, a.parent = 0 ∨ parB l a = true) {a : XAccount} (ha : a ∈ l) :
 (upP l (l.length + 1) [] a.code).2 = 0 ↔ (upR l (l.length + 1) [] a.code).length ≤ l.length := by
 rw [← up_both (l.length + 1) [] a.code (known_nil l) (fun x hx => by cases hx) (by simp)]
 have hlast := upP_last (l := l) (l.length + 1) [] a.code (fun x hx => by cases hx)
 obtain ⟨a0, ha0⟩ := Option.isSome_iff_exists.1 (findA_of_mem ha)
 have hlen : 1 ≤ (upP l (l.length + 1) [] a.code).1.length := by
  unfold upP
  rw [ha0]
  have := upP_pos (l := l) l.length ([] ++ [a.code]) a0.parent
  simpa using this
 generalize upP l (l.length + 1) [] a.code = P at *
 obtain ⟨p, e⟩ := P
 simp only at *
 have hne : p ≠ [] := by rintro rfl; simp at hlen
 obtain ⟨b, hb, hbe⟩ := hlast _ (List.getLast?_eq_some_getLast hne)
 constructor
 · rintro rfl
   cases h : findA l 0 with
   | none => rfl
   | some z =>
    obtain ⟨m, hz⟩ := findA_mem h
    have := hc z m
    omega
 · intro h
   rcases hp b (findA_mem hb).1 with h0 | h0
   · rw [← hbe]; exact h0
   · unfold parB at h0
     rw [hbe, h] at h0
     cases h0
theorem chart_both (l : List XAccount) (g : Bool) : chartB l g = chartR l g := by
 unfold chartB chartR
 rw [Bool.and_comm]
 congr 1
 have field : ∀ a, fieldB g a = true → 1 ≤ a.code := by
  intro a h
  unfold fieldB at h
  simp only [Bool.and_eq_true, decide_eq_true_eq] at h
  exact h.1.1
 rw [Bool.eq_iff_iff, List.all_eq_true, List.all_eq_true]
 constructor
 · intro h
   have h' : ∀ i (hi : i < l.length), (!(decide (0 < i) && decide ((l.getD (i - 1) {}).code ≥ l[i].code))) = true ∧ properP l g l[i] = true := by
    intro i hi
    have := h i (List.mem_range.2 hi)
    unfold rowP at this
    rw [List.getElem?_eq_getElem hi] at this
    simp only [Bool.and_eq_true] at this
    exact this
   have hf : ∀ a ∈ l, fieldB g a = true ∧ (a.parent = 0 ∨ parB l a = true ∧ (upP l (l.length + 1) [] a.code).2 = 0) := by
    intro a ha
    obtain ⟨i, hi, rfl⟩ := List.getElem_of_mem ha
    have := (h' i hi).2
    unfold properP at this
    simpa using this
   have hc : ∀ a ∈ l, 1 ≤ a.code := fun a ha => field a (hf a ha).1
   have hp : ∀ a ∈ l, a.parent = 0 ∨ parB l a = true := fun a ha => (hf a ha).2.imp id (·.1)
   intro i hi
   have hi' := List.mem_range.1 hi
   have hm : l[i] ∈ l := List.getElem_mem hi'
   unfold rowR
   rw [List.getElem?_eq_getElem hi']
   simp only [Bool.and_eq_true, decide_eq_true_eq]
   refine ⟨⟨?_, (h' i hi').1⟩, ?_⟩
   · unfold properR
     rw [(hf _ hm).1, Bool.true_and]
     simpa using hp _ hm
   · rw [← up_zero hc hp hm]
     rcases (hf _ hm).2 with h0 | h0
     · have hrise : ∀ (j : Nat) (i : Nat) (hi : i < l.length) (hj : j < i), (l[j]'(by omega)).code < l[i].code := by
        intro j i
        induction i with
        | zero => intro _ hj; omega
        | succ i ih =>
         intro hi hj
         have h1 := (h' (i + 1) hi).1
         simp only [Nat.add_sub_cancel, Nat.zero_lt_succ, decide_true, Bool.true_and, Bool.not_eq_true', decide_eq_false_iff_not] at h1
         rw [List.getD_eq_getElem?_getD, List.getElem?_eq_getElem (by omega), Option.getD_some] at h1
         rcases Nat.lt_or_ge j i with h2 | h2
         · have := ih (by omega) h2
           omega
         · have : j = i := by omega
           subst this
           omega
       have ha0 : findA l l[i].code = some l[i] := findA_some hi' rfl (fun j hj e => by have := hrise j i hi' hj; omega)
       have h00 : findA l 0 = none := findA_none (fun j hj e => by have := hc _ (List.getElem_mem hj); omega)
       unfold upP
       rw [ha0]
       simp only [List.contains_nil, Bool.false_eq_true, if_false]
       rw [h0]
       obtain ⟨m, hm2⟩ : ∃ m, l.length = m + 1 := ⟨l.length - 1, by omega⟩
       rw [hm2]
       unfold upP
       rw [h00]
     · exact h0.2
 · intro h
   have h' : ∀ i (hi : i < l.length), (properR l g l[i] = true ∧ (!(decide (0 < i) && decide (l[i].code ≤ (l.getD (i - 1) {}).code))) = true) ∧ (upR l (l.length + 1) [] l[i].code).length ≤ l.length := by
    intro i hi
    have := h i (List.mem_range.2 hi)
    unfold rowR at this
    rw [List.getElem?_eq_getElem hi] at this
    simp only [Bool.and_eq_true, decide_eq_true_eq] at this
    exact this
   have hf : ∀ a ∈ l, fieldB g a = true ∧ (a.parent = 0 ∨ parB l a = true) := by
    intro a ha
    obtain ⟨i, hi, rfl⟩ := List.getElem_of_mem ha
    have := (h' i hi).1.1
    unfold properR at this
    simpa using this
   have hc : ∀ a ∈ l, 1 ≤ a.code := fun a ha => field a (hf a ha).1
   have hp : ∀ a ∈ l, a.parent = 0 ∨ parB l a = true := fun a ha => (hf a ha).2
   intro i hi
   have hi' := List.mem_range.1 hi
   have hm : l[i] ∈ l := List.getElem_mem hi'
   unfold rowP
   rw [List.getElem?_eq_getElem hi']
   simp only [Bool.and_eq_true]
   refine ⟨(h' i hi').1.2, ?_⟩
   unfold properP
   rw [(hf _ hm).1, Bool.true_and, (up_zero hc hp hm).2 (h' i hi').2]
   rcases hp _ hm with h0 | h0
   · simp [h0]
   · simp [h0]
def iv (l : List Int) : List Value := l.map (Value.int .i64)
theorem grown_of_below {w w' : World} (h : Below w.heap.size w w') : w.grownBy w' none := ⟨h.os, h.tape, h.output, h.size, fun k hk _ => h.block k hk⟩
theorem info_int : (Tryz.prog.info? 3).map (fun i => (i.zero, i.size, i.bytes)) = some (some (.int .i64 0), 1, 8) := by kernel_rfl
theorem findV_none {l : List XAccount} {c : Int} (h : findA l c = none) : findV l c = .tuple #[.agg (accL {}).toArray, .bool false] := by unfold findV; rw [h]; rfl
theorem findV_some {l : List XAccount} {c : Int} {a : XAccount} (h : findA l c = some a) : findV l c = .tuple #[.agg (accL a).toArray, .bool true] := by unfold findV; rw [h]; rfl
theorem upP_none {l : List XAccount} {c : Int} {f : Nat} {acc : List Int} (h : findA l c = none) : upP l (f + 1) acc c = (acc, c) := by unfold upP; rw [h]
theorem upP_seen {l : List XAccount} {c : Int} {f : Nat} {acc : List Int} {a : XAccount} (h : findA l c = some a) (hs : acc.contains c = true) : upP l (f + 1) acc c = (acc, c) := by unfold upP; rw [h]; simp only; rw [if_pos hs]
theorem upP_on {l : List XAccount} {c : Int} {f : Nat} {acc : List Int} {a : XAccount} (h : findA l c = some a) (hs : acc.contains c = false) : upP l (f + 1) acc c = upP l f (acc ++ [c]) a.parent := by
 conv => lhs; unfold upP
 rw [h]; simp only; rw [if_neg (by rw [hs]; decide)]
def lenOf : Value → Nat
 | .slice _ n _ => n
 | _ => 0
theorem own_len {w : World} {base : Nat} {e : TypeId} {size n : Nat} {v : Value} {xs : List Value} (h : w.ownsRow base e size v n xs) : lenOf v = n := by
 rcases h.2 with ⟨rfl, rfl⟩ | ⟨g, cap, cur, rfl, _⟩
 · rfl
 · rfl
theorem ListC.accB {w : World} {Q : Nat → Prop} {cs : List Value} {l : List XAccount} (h : ListC AccountC 4 w Q cs l) : ∀ a ∈ l, accB a := by
 intro a ha
 obtain ⟨i, hi, rfl⟩ := List.getElem_of_mem ha
 obtain ⟨A, c, rfl, _, _⟩ := h.form
 obtain ⟨b, o, es, _, _, h1, _⟩ := h.get i hi
 exact (AccountC.lit h1).2
theorem chart_keep {w w' : World} {cs : List Value} {l : List XAccount} (h : ListC AccountC 4 w (· < w.heap.size) cs l) (hb : Below w.heap.size w w') : ListC AccountC 4 w' (· < w'.heap.size) cs l :=
 (h.fr (fun h => AccountC.fr h (Fr.ofBelow hb)) (Fr.ofBelow hb)).mono (fun h => AccountC.mono h (fun k hk => by have := hb.size; omega)) (fun k hk => by have := hb.size; omega)
theorem keep3 {w8 w9 : World} {o x : Obj} {g : Nat} {row : Option Nat} (h : w8.heap[g]? = some x) (hg9 : (w8.alloc o).grownBy w9 row) (hne : some g ≠ row) : w9.heap[g]? = some x :=
 (hg9.block g (by simp; have := blk_lt h; omega) hne).trans (alloc_keep h o)
theorem own_base {w : World} {base base' : Nat} {e : TypeId} {size n : Nat} {v : Value} {xs : List Value} (h : w.ownsRow base e size v n xs) (hb : base' ≤ base) : w.ownsRow base' e size v n xs := by
 refine ⟨h.1, ?_⟩
 rcases h.2 with h | ⟨g, cap, cur, h1, h2, h3⟩
 · exact .inl h
 · exact .inr ⟨g, cap, cur, h1, Nat.le_trans hb h2, h3⟩
theorem own_below {w w' : World} {base : Nat} {e : TypeId} {size n : Nat} {v : Value} {xs : List Value} (h : w.ownsRow base e size v n xs) (hb : Below w.heap.size w w') : w'.ownsRow base e size v n xs :=
 h.kept (grown_of_below hb) (by cases v.ownBlock <;> simp)
theorem own_ne {w : World} {base k : Nat} {e : TypeId} {size n : Nat} {v : Value} {xs : List Value} (h : w.ownsRow base e size v n xs) (hk : k < base) : v.ownBlock = none ∨ v.ownBlock ≠ some k := by
 cases hv : v.ownBlock with
 | none => exact .inl rfl
 | some g =>
  refine .inr (fun e => ?_)
  have h1 := (h.lt g hv).1
  injection e with e
  omega
theorem below_grown {B : Nat} {w w1 w2 : World} {row : Option Nat} (h : Below B w w1) (hg : w1.grownBy w2 row) (hr : ∀ k, row = some k → B ≤ k) (hB : B ≤ w.heap.size) : Below B w w2 :=
 ((Fr.ofBelow h).grown hg (fun k hk => by omega) (fun k hk hlt => by have := hr k hk; omega)).below
set_option maxHeartbeats 1000000 in
theorem climb_c (l : List XAccount) (A : Option Addr) (c : Nat) (code : Int) (w : World) (hl : ListC AccountC 4 w (· < w.heap.size) [.slice A l.length c] l) (hc : intBd code) (hn : l.length ≤ 1000) :
 Calls Tryz.prog 148 #[.slice A l.length c, .int .i64 code] w (fun e w' => ∃ v, e = .returned v ∧ w'.ownsRow w.heap.size 3 1 v (upP l (l.length + 1) [] code).1.length (iv (upP l (l.length + 1) [] code).1) ∧ Below w.heap.size w w') := by
 have hmm := @run_makeMap Tryz.prog
 obtain ⟨i0, hi0, hz0, hz1, hz2⟩ := info_parts info_int
 obtain ⟨R, hR⟩ : ∃ R, upP l (l.length + 1) [] code = R := ⟨_, rfl⟩
 rw [hR]
 have HR := Lib.hid hR
 clear hR
 obtain ⟨n, hnl⟩ : ∃ n, l.length = n := ⟨_, rfl⟩
 rw [hnl] at hn
 have HL := Lib.hid hl
 have HN := Lib.hid hnl
 have HC := Lib.hid hc
 rw [hnl]
 clear hl hnl hc
 go_enter Tryz.func148, Tryz.ntmps148
 go_wp2_with fail
 go_step3
 go_wp2_with fail
 go_step3
 have hs0 := SetK.made Tryz.prog 3 4 iKey w
 have HB := below1 w (.map #[] 0)
 have HS : w.heap.size < (w.alloc (.map #[] 0)).heap.size := by simp
 generalize hW : w.alloc (Obj.map #[] 0) = W at *
 clear hW
 go_wp2_with fail
 go_loopw [5, 1] (fun o i wr => ∃ (acc : List Int) (c' : Int) (f : Nat), wr.ownsRow W.heap.size 3 1 o acc.length (iv acc) ∧ i = .int .i64 c' ∧ intBd c' ∧ SetI wr w.heap.size acc.length (fun x => acc.contains x) ∧ Below w.heap.size w wr ∧ W.heap.size ≤ wr.heap.size ∧ known l acc ∧ acc.length + f = l.length + 1 ∧ upP l f acc c' = R) (fun o _ _ => n + 1 - lenOf o)
 case atStart => exact ⟨[], code, l.length + 1, World.ownsRow_nil _ _ _ _, rfl, HC.out, hs0.eqv (fun _ => rfl), HB, Nat.le_refl _, known_nil l, by simp, HR.out⟩
 case round =>
  obtain ⟨acc, c', f, hown, rfl, hc', hset, hb, hsz, hk, hf, hup⟩ := hrel
  have hal := known_le hk
  obtain ⟨f, rfl⟩ : ∃ g, f = g + 1 := ⟨f - 1, by omega⟩
  have HK := Lib.hid hk
  have HF := Lib.hid hf
  have HUP := Lib.hid hup
  have HC' := Lib.hid hc'
  have HO := Lib.hid hown
  have HAL := Lib.hid (show acc.length ≤ 1000 by have := HN.out; omega)
  have HLW := Lib.hid (chart_keep HL.out hb)
  clear hk hf hup hal
  obtain ⟨hc1, hc2⟩ := hc'
  go_wp2_with fail
  have hcall := find_c l A c c' wr HLW.out HC'.out (by rw [HN.out]; exact hn)
  rw [HN.out] at hcall
  refine hcall.mono ?_
  clear hcall
  rintro e w2 ⟨rfl, hb2⟩
  have hbw2 := hb.trans (hb2.mono hb.size)
  cases ha : findA l c' with
  | none =>
   have e0 : findV l c' = .tuple #[.agg (accL {}).toArray, .bool false] := findV_none ha
   rw [e0]
   clear e0
   have HA := Lib.hid ha
   clear ha
   go_wp2_with fail
   try rw [Exit.noGoto_ret]
   go_ret
   have e1 : R = (acc, c') := by rw [← HUP.out, upP_none HA.out]
   rw [e1]
   exact ⟨_, rfl, own_base ((own_below HO.out hb2).alloc _) (Nat.le_of_lt HS), hbw2.alloc hbw2.size _⟩
  | some a =>
   have e0 : findV l c' = .tuple #[.agg (accL a).toArray, .bool true] := findV_some ha
   rw [e0]
   clear e0
   have HA := Lib.hid ha
   have hab := HL.out.accB a (findA_mem ha).1
   have hset2 := hset.below hb2
   clear ha
   obtain ⟨c1, c2, c3, c4⟩ := a
   have hab4 := Lib.hid hab.2.2.2
   clear hab
   obtain ⟨F, hF⟩ : ∃ F : Int → Bool, (fun x => acc.contains x) = F := ⟨_, rfl⟩
   rw [hF] at hset2
   have HF2 := Lib.hid hF
   clear hF
   go_upto_region 4 with fail
   have H7 := heap_alloc_new w2 (.cells #[.int .i64 c1, .int .i64 c2, .int .i64 c3, .int .i64 c4] 87)
   have HB7 := below1 w2 (.cells #[.int .i64 c1, .int .i64 c2, .int .i64 c3, .int .i64 c4] 87)
   generalize hW7 : w2.alloc (Obj.cells #[.int .i64 c1, .int .i64 c2, .int .i64 c3, .int .i64 c4] 87) = W7 at *
   clear hW7
   have hset7 := hset2.below HB7
   have hb7 := hbw2.trans (HB7.mono hbw2.size)
   cases hcont : F c' with
   | true =>
    go_wp2_with (at_lookup; refine wpList_look_set rfl _ _ 147 rfl 3 4 int_keyed3 imap_uty bool_uty (bool_zero _) w.heap.size acc.length F rfl hset7 _ c' rfl (iKey_of HC'.out) ?_)
    try rw [Exit.noGoto_ret]
    go_ret
    have e1 : R = (acc, c') := by rw [← HUP.out, upP_seen HA.out ((congrFun HF2.out c').trans hcont)]
    rw [e1]
    exact ⟨_, rfl, own_base (own_below (own_below HO.out hb2) HB7) (Nat.le_of_lt HS), hb7⟩
   | false =>
    have hown7 := own_below (own_below HO.out hb2) HB7
    have G7 := Lib.hid H7
    have hs2 := hb2.size
    have hs7 := HB7.size
    clear H7
    go_wp2_with (first | (at_lookup; refine wpList_look_set rfl _ _ 147 rfl 3 4 int_keyed3 imap_uty bool_uty (bool_zero _) w.heap.size acc.length F rfl hset7 _ c' rfl (iKey_of HC'.out) ?_) | (at_mapUpdate; refine wpList_store_set rfl _ _ _ 147 rfl 3 4 int_keyed3 imap_uty bool_uty w.heap.size acc.length F rfl hset7 (by have := HAL.out; simp only [maxLen]; omega) iKey_inj iKey_lit _ c' rfl true rfl (iKey_of HC'.out) ?_; intro w8 hset8 hg8; replace hset8 := Lib.hid hset8; have hown8 := Lib.hid (hown7.kept hg8 ((own_ne hown7 HS))); have hsz8 := hg8.size) | (at_builtin; go_loud (refine wpList_append_own _ rfl (.tmp 25) (.tmp 27) _ rfl W.heap.size 3 i0 _ 1 8 Tryz.underlying129 hi0 hz0 hz1 hz2 rfl (by have := HAL.out; omega) _ acc.length (iv acc) rfl (hown8.out.alloc _) ⟨w8.heap.size, 0, none⟩ 1 1 [.int .i64 c'] rfl rfl (cell_one_new _ _ _) (by simp [Value.oneCell']) (by have := HAL.out; simp only [maxLen]; omega) (by have := HAL.out; omega) (by have := HAL.out; simp; omega) ?_); intro v9 w9 hown9 hg9 _; have d3 := blk_cell (keep3 ((hg8.block _ (by have := blk_lt G7.out; omega) (fun e => by injection e with e; omega)).trans G7.out) hg9 (fun e => by have := (HO.out.lt _ e.symm).2; omega)) 3))
    go_roundw
    case rel =>
     refine ⟨acc ++ [c'], c4, f, ?_, rfl, hab4.out, ?_, ?_, ?_, known_snoc HK.out ((congrFun HF2.out c').trans hcont) HA.out, ?_, ?_⟩
     · have e1 : iv (acc ++ [c']) = iv acc ++ [.int .i64 c'] := by simp [iv]
       rw [e1, List.length_append]
       exact hown9
     · rw [List.length_append]
       refine ((hset8.out.kept (World.grownBy_alloc _ _ none) (by simp)).kept hg9 (fun e => by have := (HO.out.lt _ e.symm).1; omega)).eqv (fun d => ?_)
       rw [← HF2.out]
       by_cases hd : d = c'
       · subst hd; simp
       · simp [hd]
     · exact below_grown ((below_grown hb7 hg8 (fun k hk => by injection hk with hk; omega) (Nat.le_refl _)).alloc (by omega) _) hg9 (fun k hk => by have := (HO.out.lt _ hk).1; omega) (Nat.le_refl _)
     · have := hg9.size
       simp at this
       omega
     · have := HF.out; simp only [List.length_append, List.length_cons, List.length_nil]; omega
     · rw [← HUP.out]
       exact (upP_on HA.out ((congrFun HF2.out c').trans hcont)).symm
    case measure =>
     rw [own_len hown9, own_len HO.out]
     have := HAL.out
     have := HF.out
     have := HN.out
     omega
theorem meas_up {n k : Nat} (h : k ≤ n) : n + 1 - (((k + 1 : Nat) : Int)).toNat < n + 1 - ((k : Int)).toNat := by omega
theorem upR_none {l : List XAccount} {c : Int} {f : Nat} {acc : List Int} (h : findA l c = none) : upR l (f + 1) acc c = acc := by unfold upR; rw [h]
theorem upR_on {l : List XAccount} {c : Int} {f : Nat} {acc : List Int} {a : XAccount} (h : findA l c = some a) : upR l (f + 1) acc c = upR l f (acc ++ [c]) a.parent := by
 conv => lhs; unfold upR
 rw [h]
set_option maxHeartbeats 1000000 in
theorem rclimb_c (l : List XAccount) (A : Option Addr) (c : Nat) (code : Int) (w : World) (hl : ListC AccountC 4 w (· < w.heap.size) [.slice A l.length c] l) (hc : intBd code) (hn : l.length ≤ 1000) :
 Calls Tryz.prog 123 #[.slice A l.length c, .int .i64 code] w (fun e w' => ∃ v, e = .returned v ∧ w'.ownsRow w.heap.size 3 1 v (upR l (l.length + 1) [] code).length (iv (upR l (l.length + 1) [] code)) ∧ Below w.heap.size w w') := by
 obtain ⟨i0, hi0, hz0, hz1, hz2⟩ := info_parts info_int
 obtain ⟨R, hR⟩ : ∃ R, upR l (l.length + 1) [] code = R := ⟨_, rfl⟩
 rw [hR]
 have HR := Lib.hid hR
 clear hR
 obtain ⟨n, hnl⟩ : ∃ n, l.length = n := ⟨_, rfl⟩
 rw [hnl] at hn
 have HL := Lib.hid hl
 have HN := Lib.hid hnl
 have HC := Lib.hid hc
 rw [hnl]
 clear hl hnl hc
 go_enter Tryz.func123, Tryz.ntmps123
 go_wp2_with fail
 go_loopw [5, 6, 1] (fun o j i wr => ∃ (acc : List Int) (c' : Int) (k f : Nat), wr.ownsRow w.heap.size 3 1 o acc.length (iv acc) ∧ j = .int .i64 (k : Int) ∧ i = .int .i64 c' ∧ intBd c' ∧ Below w.heap.size w wr ∧ acc.length ≤ k ∧ k + f = n + 1 ∧ upR l f acc c' = R) (fun _ j _ _ => n + 1 - (intOf j).toNat)
 case atStart => exact ⟨[], code, 0, n + 1, World.ownsRow_nil _ _ _ _, rfl, rfl, HC.out, Below.refl _ _, Nat.le_refl _, by omega, by rw [← HN.out]; exact HR.out⟩
 case round =>
  obtain ⟨acc, c', k, f, hown, rfl, rfl, hc', hb, hal, hf, hup⟩ := hrel
  have HUP := Lib.hid hup
  have HC' := Lib.hid hc'
  have HO := Lib.hid hown
  have HAL := Lib.hid hal
  have HLW := Lib.hid (chart_keep HL.out hb)
  have hsz := hb.size
  clear hup hal
  obtain ⟨hc1, hc2⟩ := hc'
  by_cases hlt : k ≤ n
  case pos =>
   have hltI : (k : Int) ≤ (n : Int) := by omega
   obtain ⟨f, rfl⟩ : ∃ g, f = g + 1 := ⟨f - 1, by omega⟩
   go_wp2_with fail
   have hcall := rfind_c l A c c' wr HLW.out HC'.out (by rw [HN.out]; exact hn)
   rw [HN.out] at hcall
   refine hcall.mono ?_
   clear hcall
   rintro e w2 ⟨rfl, hb2⟩
   have hbw2 := hb.trans (hb2.mono hb.size)
   cases ha : findA l c' with
   | none =>
    have e0 : findV l c' = .tuple #[.agg (accL {}).toArray, .bool false] := findV_none ha
    rw [e0]
    clear e0
    have HA := Lib.hid ha
    clear ha
    go_wp2_with fail
    go_ret
    have e1 : R = acc := by rw [← HUP.out, upR_none HA.out]
    rw [e1]
    exact ⟨_, rfl, (own_below HO.out hb2).alloc _, hbw2.alloc hbw2.size _⟩
   | some a =>
    have e0 : findV l c' = .tuple #[.agg (accL a).toArray, .bool true] := findV_some ha
    rw [e0]
    clear e0
    have HA := Lib.hid ha
    have hab := HL.out.accB a (findA_mem ha).1
    clear ha
    obtain ⟨c1, c2, c3, c4⟩ := a
    have hab4 := Lib.hid hab.2.2.2
    clear hab
    go_upto_region 6 with fail
    have H7 := heap_alloc_new w2 (.cells #[.int .i64 c1, .int .i64 c2, .int .i64 c3, .int .i64 c4] 87)
    have HB7 := below1 w2 (.cells #[.int .i64 c1, .int .i64 c2, .int .i64 c3, .int .i64 c4] 87)
    generalize hW7 : w2.alloc (Obj.cells #[.int .i64 c1, .int .i64 c2, .int .i64 c3, .int .i64 c4] 87) = W7 at *
    clear hW7
    have hb7 := hbw2.trans (HB7.mono hbw2.size)
    have hown7 := own_below (own_below HO.out hb2) HB7
    have G7 := Lib.hid H7
    clear H7
    have hs2 := hb2.size
    have hs7 := HB7.size
    go_wp2_with (at_builtin; go_loud (refine wpList_append_own _ rfl (.tmp 23) (.tmp 25) _ rfl w.heap.size 3 i0 _ 1 8 Tryz.underlying129 hi0 hz0 hz1 hz2 rfl (by have := HAL.out; omega) _ acc.length (iv acc) rfl (hown7.alloc _) ⟨W7.heap.size, 0, none⟩ 1 1 [.int .i64 c'] rfl rfl (cell_one_new _ _ _) (by simp [Value.oneCell']) (by have := HAL.out; simp only [maxLen]; omega) (by have := HAL.out; omega) (by have := HAL.out; simp; omega) ?_); intro v9 w9 hown9 hg9 _; have d3 := blk_cell (keep3 G7.out hg9 (fun e => by have := (HO.out.lt _ e.symm).2; omega)) 3)
    go_roundw
    case rel =>
     refine ⟨acc ++ [c'], c4, k + 1, f, ?_, by go_num, rfl, hab4.out, ?_, ?_, ?_, ?_⟩
     · have e1 : iv (acc ++ [c']) = iv acc ++ [.int .i64 c'] := by simp [iv]
       rw [e1, List.length_append]
       exact hown9
     · exact below_grown (hb7.alloc (by omega) _) hg9 (fun k hk => by have := (HO.out.lt _ hk).1; omega) (Nat.le_refl _)
     · have := HAL.out; simp only [List.length_append, List.length_cons, List.length_nil]; omega
     · omega
     · rw [← HUP.out]
       exact (upR_on HA.out).symm
    case measure =>
     have e : wrap64 ((k : Int) + 1) = ((k + 1 : Nat) : Int) := by unfold wrap64; omega
     simp only [intOf, e]
     exact meas_up hlt
  case neg =>
   have hltI : ¬ (k : Int) ≤ (n : Int) := by omega
   have hf0 : f = 0 := by omega
   have HF0 := Lib.hid hf0
   clear hf0
   go_wp2_with fail
   go_ret
   have e1 : R = acc := by rw [← HUP.out, HF0.out]; rfl
   rw [e1]
   exact ⟨_, rfl, HO.out, hb⟩
section
variable {l : List XAccount} {g : Bool} {a : XAccount}
theorem fieldB_f (h : ¬ (1 ≤ a.code ∧ a.code ≤ 99999 ∧ 1 ≤ a.kind ∧ a.kind ≤ 5)) : fieldB g a = false := by unfold fieldB; rw [decide_eq_false h]; rfl
theorem fieldB_t (h : ¬ (1 ≤ a.basis ∧ a.basis ≤ 3)) : fieldB true a = false := by unfold fieldB; rw [if_pos rfl, decide_eq_false h, Bool.and_false]
theorem fieldB_e (h : ¬ a.basis = 0) : fieldB false a = false := by
 unfold fieldB
 rw [if_neg (by decide), show (a.basis == 0) = false from by simpa using h, Bool.and_false]
theorem fieldB_T (h : 1 ≤ a.code ∧ a.code ≤ 99999 ∧ 1 ≤ a.kind ∧ a.kind ≤ 5) (h2 : 1 ≤ a.basis ∧ a.basis ≤ 3) : fieldB true a = true := by unfold fieldB; rw [decide_eq_true h, if_pos rfl, decide_eq_true h2]; rfl
theorem fieldB_E (h : 1 ≤ a.code ∧ a.code ≤ 99999 ∧ 1 ≤ a.kind ∧ a.kind ≤ 5) (h2 : a.basis = 0) : fieldB false a = true := by
 unfold fieldB
 rw [decide_eq_true h, if_neg (by decide), h2]; rfl
theorem properP_f (h : fieldB g a = false) : properP l g a = false := by unfold properP; rw [h]; rfl
theorem properR_f (h : fieldB g a = false) : properR l g a = false := by unfold properR; rw [h]; rfl
theorem properP_0 (h : fieldB g a = true) (h0 : a.parent = 0) : properP l g a = true := by unfold properP; rw [h, h0]; rfl
theorem properR_0 (h : fieldB g a = true) (h0 : a.parent = 0) : properR l g a = true := by unfold properR; rw [h, h0]; rfl
theorem properP_p (h0 : ¬ a.parent = 0) (hp : parB l a = false) : properP l g a = false := by
 unfold properP
 rw [hp, show (a.parent == 0) = false from by simpa using h0]; simp
theorem properR_p (h : fieldB g a = true) (h0 : ¬ a.parent = 0) : properR l g a = parB l a := by
 unfold properR
 rw [h, show (a.parent == 0) = false from by simpa using h0]; simp
theorem properP_up (h : fieldB g a = true) (h0 : ¬ a.parent = 0) (hp : parB l a = true) : properP l g a = ((upP l (l.length + 1) [] a.code).2 == 0) := by
 unfold properP
 rw [h, hp, show (a.parent == 0) = false from by simpa using h0]; simp
theorem parB_none (h : findA l a.parent = none) : parB l a = false := by unfold parB; rw [h]
theorem parB_some {p : XAccount} (h : findA l a.parent = some p) : parB l a = (!(p.code == a.code) && p.kind == a.kind) := by unfold parB; rw [h]
end
theorem upP_top {l : List XAccount} {c : Int} (h : (findA l c).isSome = true) : ∃ (j : Nat) (x : Int) (top : XAccount), (upP l (l.length + 1) [] c).1.length = j + 1 ∧ (upP l (l.length + 1) [] c).1[j]? = some x ∧ findA l x = some top ∧ top.parent = (upP l (l.length + 1) [] c).2 := by
 have hlast := upP_last (l := l) (l.length + 1) [] c (fun x hx => by cases hx)
 obtain ⟨a0, ha0⟩ := Option.isSome_iff_exists.1 h
 have hlen : 1 ≤ (upP l (l.length + 1) [] c).1.length := by
  unfold upP
  rw [ha0]
  have := upP_pos (l := l) l.length ([] ++ [c]) a0.parent
  simpa using this
 generalize upP l (l.length + 1) [] c = P at *
 obtain ⟨p, e⟩ := P
 simp only at *
 obtain ⟨j, hj⟩ : ∃ j, p.length = j + 1 := ⟨p.length - 1, by omega⟩
 obtain ⟨x, hx⟩ : ∃ x, p[j]? = some x := ⟨p[j], List.getElem?_eq_getElem (by omega)⟩
 have hl : p.getLast? = some x := by rw [List.getLast?_eq_getElem?, hj]; exact hx
 obtain ⟨top, h1, h2⟩ := hlast x hl
 exact ⟨j, x, top, hj, hx, h1, h2⟩
theorem upP_small {l : List XAccount} : ∀ (f : Nat) (acc : List Int) (c : Int), known l acc → acc.length + f = l.length + 1 → (upP l f acc c).1.length ≤ l.length ∧ (∀ x ∈ (upP l f acc c).1, (findA l x).isSome = true)
 | 0, acc, c, hk, hf => by have := known_le hk; omega
 | f + 1, acc, c, hk, hf => by
  unfold upP
  cases ha : findA l c with
  | none => exact ⟨known_le hk, hk.2⟩
  | some a =>
   simp only
   by_cases hc : acc.contains c = true
   · rw [if_pos hc]; exact ⟨known_le hk, hk.2⟩
   · rw [if_neg hc]
     have hc' : acc.contains c = false := by simpa using hc
     exact upP_small f (acc ++ [c]) a.parent (known_snoc hk hc' ha) (by simp only [List.length_append, List.length_cons, List.length_nil]; omega)
theorem iv_get {l : List Int} {j : Nat} {x : Int} (h : l[j]? = some x) : (iv l)[j]? = some (.int .i64 x) := by unfold iv; rw [List.getElem?_map, h]; rfl
set_option maxHeartbeats 2000000 in
theorem rproper_c (l : List XAccount) (A : Option Addr) (c : Nat) (a : XAccount) (g : Bool) (w : World) (hl : ListC AccountC 4 w (· < w.heap.size) [.slice A l.length c] l) (hab : accB a) (hn : l.length ≤ 1000) : Calls Tryz.prog 122 #[.slice A l.length c, .agg (accL a).toArray, .bool g] w (Quiet w (.bool (properR l g a))) := by
 obtain ⟨r, hr⟩ : ∃ r, properR l g a = r := ⟨_, rfl⟩
 rw [hr]
 have HR := Lib.hid hr
 clear hr
 obtain ⟨n, hnl⟩ : ∃ n, l.length = n := ⟨_, rfl⟩
 rw [hnl] at hn
 have HL := Lib.hid hl
 have HN := Lib.hid hnl
 rw [hnl]
 clear hl hnl
 obtain ⟨c1, c2, c3, c4⟩ := a
 simp only [accB] at hab
 obtain ⟨q1, q2, q3, q4⟩ := hab
 have Q4 := Lib.hid q4
 have Q1 := Lib.hid q1
 obtain ⟨q11, q12⟩ := q1
 obtain ⟨q21, q22⟩ := q2
 obtain ⟨q31, q32⟩ := q3
 obtain ⟨q41, q42⟩ := q4
 go_enter Tryz.func122, Tryz.ntmps122
 go_upto_region 1 with fail
 have H0 := heap_alloc_new w (.cells #[.int .i64 c1, .int .i64 c2, .int .i64 c3, .int .i64 c4] 87)
 have HB := below1 w (.cells #[.int .i64 c1, .int .i64 c2, .int .i64 c3, .int .i64 c4] 87)
 have HS := blk_lt H0
 generalize hW : w.alloc (Obj.cells #[.int .i64 c1, .int .i64 c2, .int .i64 c3, .int .i64 c4] 87) = W at *
 have d0 := blk_cell H0 0
 have d1 := blk_cell H0 1
 have d2 := blk_cell H0 2
 have d3 := blk_cell H0 3
 have HH0 := Lib.hid H0
 clear hW H0
 by_cases k0 : c1 < 1
 case pos =>
  have hf := Lib.hid (show r = false by rw [← HR.out]; exact properR_f (fieldB_f (fun h => by have h1 := h.1; simp only at h1; omega)))
  go_wp2_with fail
  go_ret
  exact ⟨by rw [hf.out]; first | done | rfl, HB⟩
 case neg =>
 by_cases k1 : 99999 < c1
 case pos =>
  have hf := Lib.hid (show r = false by rw [← HR.out]; exact properR_f (fieldB_f (fun h => by have h1 := h.2.1; simp only at h1; omega)))
  go_wp2_with fail
  go_ret
  exact ⟨by rw [hf.out]; first | done | rfl, HB⟩
 case neg =>
 by_cases k2 : c2 < 1
 case pos =>
  have hf := Lib.hid (show r = false by rw [← HR.out]; exact properR_f (fieldB_f (fun h => by have h1 := h.2.2.1; simp only at h1; omega)))
  go_wp2_with fail
  go_ret
  exact ⟨by rw [hf.out]; first | done | rfl, HB⟩
 case neg =>
 by_cases k3 : 5 < c2
 case pos =>
  have hf := Lib.hid (show r = false by rw [← HR.out]; exact properR_f (fieldB_f (fun h => by have h1 := h.2.2.2; simp only at h1; omega)))
  go_wp2_with fail
  go_ret
  exact ⟨by rw [hf.out]; first | done | rfl, HB⟩
 case neg =>
 have HF := Lib.hid (show 1 ≤ c1 ∧ c1 ≤ 99999 ∧ 1 ≤ c2 ∧ c2 ≤ 5 by omega)
 cases g with
 | true =>
  by_cases k4 : c3 < 1
  case pos =>
   have hf := Lib.hid (show r = false by rw [← HR.out]; exact properR_f (fieldB_t (fun h => by have h1 := h.1; simp only at h1; omega)))
   go_wp2_with fail
   go_ret
   exact ⟨by rw [hf.out]; first | done | rfl, HB⟩
  case neg =>
  by_cases k5 : 3 < c3
  case pos =>
   have hf := Lib.hid (show r = false by rw [← HR.out]; exact properR_f (fieldB_t (fun h => by have h1 := h.2; simp only at h1; omega)))
   go_wp2_with fail
   go_ret
   exact ⟨by rw [hf.out]; first | done | rfl, HB⟩
  case neg =>
  have HFB := Lib.hid (fieldB_T (a := ⟨c1, c2, c3, c4⟩) HF.out (show 1 ≤ c3 ∧ c3 ≤ 3 by omega))
  by_cases k7 : c4 = 0
  case pos =>
   have hf := Lib.hid (show r = true by rw [← HR.out]; exact properR_0 HFB.out k7)
   go_wp2_with fail
   go_ret
   exact ⟨by rw [hf.out]; first | done | rfl, HB⟩
  case neg =>
  have hf := Lib.hid (show r = parB l ⟨c1, c2, c3, c4⟩ by rw [← HR.out]; exact properR_p HFB.out k7)
  go_wp2_with fail
  have hcall := rfind_c l A c c4 W (chart_keep HL.out HB) Q4.out (by rw [HN.out]; exact hn)
  rw [HN.out] at hcall
  refine hcall.mono ?_
  clear hcall
  rintro e w2 ⟨rfl, hb2⟩
  have hbb := HB.trans (hb2.mono HB.size)
  have G0 := (hb2.block _ HS).trans HH0.out
  have GG := Lib.hid G0
  clear G0
  cases ha : findA l c4 with
  | none =>
   have e0 : findV l c4 = .tuple #[.agg (accL {}).toArray, .bool false] := findV_none ha
   rw [e0]
   have hf2 := Lib.hid (show r = false by rw [hf.out]; exact parB_none ha)
   clear e0 ha
   go_wp2_with fail
   go_ret
   exact ⟨by rw [hf2.out]; first | done | rfl, hbb.alloc hbb.size _⟩
  | some p =>
   have e0 : findV l c4 = .tuple #[.agg (accL p).toArray, .bool true] := findV_some ha
   rw [e0]
   have hpb := HL.out.accB p (findA_mem ha).1
   have hf2 := Lib.hid (show r = (!(p.code == c1) && p.kind == c2) by rw [hf.out]; exact parB_some (a := ⟨c1, c2, c3, c4⟩) ha)
   clear e0 ha
   obtain ⟨p1, p2, p3, p4⟩ := p
   have G0 := alloc_keep GG.out (Obj.cells #[.int .i64 p1, .int .i64 p2, .int .i64 p3, .int .i64 p4] 87)
   go_upto_region 8 with fail
   have H7 := heap_alloc_new w2 (.cells #[.int .i64 p1, .int .i64 p2, .int .i64 p3, .int .i64 p4] 87)
   have HB7 := hbb.alloc hbb.size (.cells #[.int .i64 p1, .int .i64 p2, .int .i64 p3, .int .i64 p4] 87)
   generalize hW7 : w2.alloc (Obj.cells #[.int .i64 p1, .int .i64 p2, .int .i64 p3, .int .i64 p4] 87) = W7 at *
   have f0 := blk_cell H7 0
   have f1 := blk_cell H7 1
   have g0 := blk_cell G0 0
   have g1 := blk_cell G0 1
   clear hW7 H7 G0
   by_cases hp : p1 = c1
   case pos =>
    have hf3 := Lib.hid (show r = false by rw [hf2.out, hp]; simp)
    go_wp2_with fail
    go_ret
    exact ⟨by rw [hf3.out]; first | done | rfl, HB7⟩
   case neg =>
   by_cases hq : p2 = c2
   case pos =>
    have hf3 := Lib.hid (show r = true by rw [hf2.out, hq]; simp [hp])
    have hp' : (p1 != c1) = true := by simpa using hp
    go_wp2_with fail
    go_ret
    exact ⟨by rw [hf3.out]; first | done | rfl, HB7⟩
   case neg =>
   have hf3 := Lib.hid (show r = false by rw [hf2.out]; simp [hq])
   have hp' : (p1 != c1) = true := by simpa using hp
   have hq' : (p2 == c2) = false := by simpa using hq
   go_wp2_with fail
   go_ret
   exact ⟨by rw [hf3.out]; first | done | rfl, HB7⟩
 | false =>
  by_cases k4 : ¬ c3 = 0
  case pos =>
   have k5 : (c3 == 0) = false := by simpa using k4
   have hf := Lib.hid (show r = false by rw [← HR.out]; exact properR_f (fieldB_e k4))
   go_wp2_with fail
   go_ret
   exact ⟨by rw [hf.out]; first | done | rfl, HB⟩
  case neg =>
  have k5 : c3 = 0 := by omega
  have HFB := Lib.hid (fieldB_E (a := ⟨c1, c2, c3, c4⟩) HF.out k5)
  by_cases k7 : c4 = 0
  case pos =>
   have hf := Lib.hid (show r = true by rw [← HR.out]; exact properR_0 HFB.out k7)
   go_wp2_with fail
   go_ret
   exact ⟨by rw [hf.out]; first | done | rfl, HB⟩
  case neg =>
  have hf := Lib.hid (show r = parB l ⟨c1, c2, c3, c4⟩ by rw [← HR.out]; exact properR_p HFB.out k7)
  go_wp2_with fail
  have hcall := rfind_c l A c c4 W (chart_keep HL.out HB) Q4.out (by rw [HN.out]; exact hn)
  rw [HN.out] at hcall
  refine hcall.mono ?_
  clear hcall
  rintro e w2 ⟨rfl, hb2⟩
  have hbb := HB.trans (hb2.mono HB.size)
  have G0 := (hb2.block _ HS).trans HH0.out
  have GG := Lib.hid G0
  clear G0
  cases ha : findA l c4 with
  | none =>
   have e0 : findV l c4 = .tuple #[.agg (accL {}).toArray, .bool false] := findV_none ha
   rw [e0]
   have hf2 := Lib.hid (show r = false by rw [hf.out]; exact parB_none ha)
   clear e0 ha
   go_wp2_with fail
   go_ret
   exact ⟨by rw [hf2.out]; first | done | rfl, hbb.alloc hbb.size _⟩
  | some p =>
   have e0 : findV l c4 = .tuple #[.agg (accL p).toArray, .bool true] := findV_some ha
   rw [e0]
   have hpb := HL.out.accB p (findA_mem ha).1
   have hf2 := Lib.hid (show r = (!(p.code == c1) && p.kind == c2) by rw [hf.out]; exact parB_some (a := ⟨c1, c2, c3, c4⟩) ha)
   clear e0 ha
   obtain ⟨p1, p2, p3, p4⟩ := p
   have G0 := alloc_keep GG.out (Obj.cells #[.int .i64 p1, .int .i64 p2, .int .i64 p3, .int .i64 p4] 87)
   go_upto_region 8 with fail
   have H7 := heap_alloc_new w2 (.cells #[.int .i64 p1, .int .i64 p2, .int .i64 p3, .int .i64 p4] 87)
   have HB7 := hbb.alloc hbb.size (.cells #[.int .i64 p1, .int .i64 p2, .int .i64 p3, .int .i64 p4] 87)
   generalize hW7 : w2.alloc (Obj.cells #[.int .i64 p1, .int .i64 p2, .int .i64 p3, .int .i64 p4] 87) = W7 at *
   have f0 := blk_cell H7 0
   have f1 := blk_cell H7 1
   have g0 := blk_cell G0 0
   have g1 := blk_cell G0 1
   clear hW7 H7 G0
   by_cases hp : p1 = c1
   case pos =>
    have hf3 := Lib.hid (show r = false by rw [hf2.out, hp]; simp)
    go_wp2_with fail
    go_ret
    exact ⟨by rw [hf3.out]; first | done | rfl, HB7⟩
   case neg =>
   by_cases hq : p2 = c2
   case pos =>
    have hf3 := Lib.hid (show r = true by rw [hf2.out, hq]; simp [hp])
    have hp' : (p1 != c1) = true := by simpa using hp
    go_wp2_with fail
    go_ret
    exact ⟨by rw [hf3.out]; first | done | rfl, HB7⟩
   case neg =>
   have hf3 := Lib.hid (show r = false by rw [hf2.out]; simp [hq])
   have hp' : (p1 != c1) = true := by simpa using hp
   have hq' : (p2 == c2) = false := by simpa using hq
   go_wp2_with fail
   go_ret
   exact ⟨by rw [hf3.out]; first | done | rfl, HB7⟩
set_option maxHeartbeats 2000000 in
theorem proper_c (l : List XAccount) (A : Option Addr) (c : Nat) (a : XAccount) (g : Bool) (w : World) (hl : ListC AccountC 4 w (· < w.heap.size) [.slice A l.length c] l) (hab : accB a) (hn : l.length ≤ 1000) (hin : (findA l a.code).isSome = true) : Calls Tryz.prog 117 #[.slice A l.length c, .agg (accL a).toArray, .bool g] w (Quiet w (.bool (properP l g a))) := by
 obtain ⟨r, hr⟩ : ∃ r, properP l g a = r := ⟨_, rfl⟩
 rw [hr]
 have HR := Lib.hid hr
 clear hr
 obtain ⟨n, hnl⟩ : ∃ n, l.length = n := ⟨_, rfl⟩
 rw [hnl] at hn
 have HL := Lib.hid hl
 have HN := Lib.hid hnl
 rw [hnl]
 clear hl hnl
 obtain ⟨c1, c2, c3, c4⟩ := a
 simp only [accB] at hab
 obtain ⟨q1, q2, q3, q4⟩ := hab
 have Q4 := Lib.hid q4
 have Q1 := Lib.hid q1
 obtain ⟨q11, q12⟩ := q1
 obtain ⟨q21, q22⟩ := q2
 obtain ⟨q31, q32⟩ := q3
 obtain ⟨q41, q42⟩ := q4
 go_enter Tryz.func117, Tryz.ntmps117
 go_upto_region 1 with fail
 have H0 := heap_alloc_new w (.cells #[.int .i64 c1, .int .i64 c2, .int .i64 c3, .int .i64 c4] 87)
 have HB := below1 w (.cells #[.int .i64 c1, .int .i64 c2, .int .i64 c3, .int .i64 c4] 87)
 have HS := blk_lt H0
 generalize hW : w.alloc (Obj.cells #[.int .i64 c1, .int .i64 c2, .int .i64 c3, .int .i64 c4] 87) = W at *
 have d0 := blk_cell H0 0
 have d1 := blk_cell H0 1
 have d2 := blk_cell H0 2
 have d3 := blk_cell H0 3
 have HH0 := Lib.hid H0
 clear hW H0
 by_cases k0 : c1 < 1
 case pos =>
  have hf := Lib.hid (show r = false by rw [← HR.out]; exact properP_f (fieldB_f (fun h => by have h1 := h.1; simp only at h1; omega)))
  go_wp2_with fail
  go_ret
  exact ⟨by rw [hf.out]; first | done | rfl, HB⟩
 case neg =>
 by_cases k1 : 99999 < c1
 case pos =>
  have hf := Lib.hid (show r = false by rw [← HR.out]; exact properP_f (fieldB_f (fun h => by have h1 := h.2.1; simp only at h1; omega)))
  go_wp2_with fail
  go_ret
  exact ⟨by rw [hf.out]; first | done | rfl, HB⟩
 case neg =>
 by_cases k2 : c2 < 1
 case pos =>
  have hf := Lib.hid (show r = false by rw [← HR.out]; exact properP_f (fieldB_f (fun h => by have h1 := h.2.2.1; simp only at h1; omega)))
  go_wp2_with fail
  go_ret
  exact ⟨by rw [hf.out]; first | done | rfl, HB⟩
 case neg =>
 by_cases k3 : 5 < c2
 case pos =>
  have hf := Lib.hid (show r = false by rw [← HR.out]; exact properP_f (fieldB_f (fun h => by have h1 := h.2.2.2; simp only at h1; omega)))
  go_wp2_with fail
  go_ret
  exact ⟨by rw [hf.out]; first | done | rfl, HB⟩
 case neg =>
 have HF := Lib.hid (show 1 ≤ c1 ∧ c1 ≤ 99999 ∧ 1 ≤ c2 ∧ c2 ≤ 5 by omega)
 cases g with
 | true =>
  by_cases k4 : c3 < 1
  case pos =>
   have hf := Lib.hid (show r = false by rw [← HR.out]; exact properP_f (fieldB_t (fun h => by have h1 := h.1; simp only at h1; omega)))
   go_wp2_with fail
   go_ret
   exact ⟨by rw [hf.out]; first | done | rfl, HB⟩
  case neg =>
  by_cases k5 : 3 < c3
  case pos =>
   have hf := Lib.hid (show r = false by rw [← HR.out]; exact properP_f (fieldB_t (fun h => by have h1 := h.2; simp only at h1; omega)))
   go_wp2_with fail
   go_ret
   exact ⟨by rw [hf.out]; first | done | rfl, HB⟩
  case neg =>
  have HFB := Lib.hid (fieldB_T (a := ⟨c1, c2, c3, c4⟩) HF.out (show 1 ≤ c3 ∧ c3 ≤ 3 by omega))
  by_cases k7 : c4 = 0
  case pos =>
   have hf := Lib.hid (show r = true by rw [← HR.out]; exact properP_0 HFB.out k7)
   go_wp2_with fail
   go_ret
   exact ⟨by rw [hf.out]; first | done | rfl, HB⟩
  case neg =>
  have K7 := Lib.hid k7
  go_wp2_with fail
  have hcall := find_c l A c c4 W (chart_keep HL.out HB) Q4.out (by rw [HN.out]; exact hn)
  rw [HN.out] at hcall
  refine hcall.mono ?_
  clear hcall
  rintro e w2 ⟨rfl, hb2⟩
  have hbb := HB.trans (hb2.mono HB.size)
  have G0 := (hb2.block _ HS).trans HH0.out
  have GG := Lib.hid G0
  clear G0
  cases ha : findA l c4 with
  | none =>
   have e0 : findV l c4 = .tuple #[.agg (accL {}).toArray, .bool false] := findV_none ha
   rw [e0]
   have hf2 := Lib.hid (show r = false by rw [← HR.out]; exact properP_p k7 (parB_none ha))
   clear e0 ha
   go_wp2_with fail
   go_ret
   exact ⟨by rw [hf2.out]; first | done | rfl, hbb.alloc hbb.size _⟩
  | some p =>
   have e0 : findV l c4 = .tuple #[.agg (accL p).toArray, .bool true] := findV_some ha
   rw [e0]
   have hpb := HL.out.accB p (findA_mem ha).1
   have hf2 := Lib.hid (show parB l ⟨c1, c2, c3, c4⟩ = (!(p.code == c1) && p.kind == c2) from parB_some (a := ⟨c1, c2, c3, c4⟩) ha)
   clear e0 ha
   obtain ⟨p1, p2, p3, p4⟩ := p
   have G0 := alloc_keep GG.out (Obj.cells #[.int .i64 p1, .int .i64 p2, .int .i64 p3, .int .i64 p4] 87)
   go_upto_region 8 with fail
   have H7 := heap_alloc_new w2 (.cells #[.int .i64 p1, .int .i64 p2, .int .i64 p3, .int .i64 p4] 87)
   have HB7 := hbb.alloc hbb.size (.cells #[.int .i64 p1, .int .i64 p2, .int .i64 p3, .int .i64 p4] 87)
   generalize hW7 : w2.alloc (Obj.cells #[.int .i64 p1, .int .i64 p2, .int .i64 p3, .int .i64 p4] 87) = W7 at *
   have f0 := blk_cell H7 0
   have f1 := blk_cell H7 1
   have g0 := blk_cell G0 0
   have g1 := blk_cell G0 1
   clear hW7 H7 G0
   by_cases hp : p1 = c1
   case pos =>
    have hf3 := Lib.hid (show r = false by rw [← HR.out]; exact properP_p K7.out (by rw [hf2.out, hp]; simp))
    go_wp2_with fail
    go_ret
    exact ⟨by rw [hf3.out]; first | done | rfl, HB7⟩
   case neg =>
   have hp' : (p1 == c1) = false := by simpa using hp
   by_cases hq : p2 = c2
   case neg =>
    have hq' : (p2 != c2) = true := by simpa using hq
    have hf3 := Lib.hid (show r = false by rw [← HR.out]; exact properP_p K7.out (by rw [hf2.out]; simp [hq]))
    go_wp2_with fail
    go_ret
    exact ⟨by rw [hf3.out]; first | done | rfl, HB7⟩
   case pos =>
   have hq' : (p2 != c2) = false := by simpa using hq
   have hf3 := Lib.hid (show r = ((upP l (l.length + 1) [] c1).2 == 0) by rw [← HR.out]; exact properP_up HFB.out K7.out (by rw [hf2.out, hq]; simp [hp]))
   go_wp2_with fail
   have hcall := climb_c l A c c1 W7 (chart_keep HL.out HB7) Q1.out (by rw [HN.out]; exact hn)
   rw [HN.out] at hcall
   refine hcall.mono ?_
   clear hcall
   rintro e w8 ⟨v, rfl, hown, hb8⟩
   have HB8 := HB7.trans (hb8.mono HB7.size)
   obtain ⟨j, x, top, hj, hx, ht, htp⟩ := upP_top (l := l) (c := c1) (by simpa using hin)
   have hsm := upP_small (l := l) (l.length + 1) [] c1 (known_nil l) (by simp)
   rw [HN.out] at hj hx htp hsm
   rw [hj] at hown hsm
   have hjn : j + 1 ≤ 1000 := by have := hsm.1; omega
   obtain ⟨g8, cap, rfl, hcap1, hcap2⟩ := hown.form (by omega)
   have hcell := hown.cells (g := g8) rfl j _ (iv_get hx)
   rw [Addr.add_lit, Nat.zero_add] at hcell
   have hxb : intBd x := by
    obtain ⟨m, hm⟩ := findA_mem ht
    rw [← hm]; exact (HL.out.accB _ m).1
   have HJ := Lib.hid hj
   have HOW := Lib.hid hown
   have HT := Lib.hid ht
   have htb := HL.out.accB top (findA_mem ht).1
   clear hj hown hx ht hsm
   obtain ⟨t1, t2, t3, t4⟩ := top
   simp only at htp
   have HTP := Lib.hid htp
   clear htp htb
   have hf4 := Lib.hid (show r = (t4 == 0) by rw [hf3.out, HN.out, ← HTP.out])
   go_wp2_with fail
   have hcall := find_c l A c x w8 (chart_keep HL.out HB8) hxb (by rw [HN.out]; exact hn)
   rw [HN.out] at hcall
   refine hcall.mono ?_
   clear hcall
   rintro e w9 ⟨rfl, hb9⟩
   have HB9 := HB8.trans (hb9.mono HB8.size)
   have e0 : findV l x = .tuple #[.agg (accL ⟨t1, t2, t3, t4⟩).toArray, .bool true] := findV_some HT.out
   rw [e0]
   clear e0
   by_cases ht4 : t4 = 0
   case pos =>
    have hf5 := Lib.hid (show r = true by rw [hf4.out, ht4]; rfl)
    go_wp2_with fail
    go_ret
    exact ⟨by rw [hf5.out]; first | done | rfl, HB9.alloc HB9.size _⟩
   case neg =>
    have ht4' : (t4 == 0) = false := by simpa using ht4
    have hf5 := Lib.hid (show r = false by rw [hf4.out, ht4'])
    go_wp2_with fail
    go_ret
    exact ⟨by rw [hf5.out]; first | done | rfl, HB9.alloc HB9.size _⟩
 | false =>
  by_cases k4 : ¬ c3 = 0
  case pos =>
   have k5 : (c3 == 0) = false := by simpa using k4
   have hf := Lib.hid (show r = false by rw [← HR.out]; exact properP_f (fieldB_e k4))
   go_wp2_with fail
   go_ret
   exact ⟨by rw [hf.out]; first | done | rfl, HB⟩
  case neg =>
  have k5 : c3 = 0 := by omega
  have HFB := Lib.hid (fieldB_E (a := ⟨c1, c2, c3, c4⟩) HF.out k5)
  by_cases k7 : c4 = 0
  case pos =>
   have hf := Lib.hid (show r = true by rw [← HR.out]; exact properP_0 HFB.out k7)
   go_wp2_with fail
   go_ret
   exact ⟨by rw [hf.out]; first | done | rfl, HB⟩
  case neg =>
  have K7 := Lib.hid k7
  go_wp2_with fail
  have hcall := find_c l A c c4 W (chart_keep HL.out HB) Q4.out (by rw [HN.out]; exact hn)
  rw [HN.out] at hcall
  refine hcall.mono ?_
  clear hcall
  rintro e w2 ⟨rfl, hb2⟩
  have hbb := HB.trans (hb2.mono HB.size)
  have G0 := (hb2.block _ HS).trans HH0.out
  have GG := Lib.hid G0
  clear G0
  cases ha : findA l c4 with
  | none =>
   have e0 : findV l c4 = .tuple #[.agg (accL {}).toArray, .bool false] := findV_none ha
   rw [e0]
   have hf2 := Lib.hid (show r = false by rw [← HR.out]; exact properP_p k7 (parB_none ha))
   clear e0 ha
   go_wp2_with fail
   go_ret
   exact ⟨by rw [hf2.out]; first | done | rfl, hbb.alloc hbb.size _⟩
  | some p =>
   have e0 : findV l c4 = .tuple #[.agg (accL p).toArray, .bool true] := findV_some ha
   rw [e0]
   have hpb := HL.out.accB p (findA_mem ha).1
   have hf2 := Lib.hid (show parB l ⟨c1, c2, c3, c4⟩ = (!(p.code == c1) && p.kind == c2) from parB_some (a := ⟨c1, c2, c3, c4⟩) ha)
   clear e0 ha
   obtain ⟨p1, p2, p3, p4⟩ := p
   have G0 := alloc_keep GG.out (Obj.cells #[.int .i64 p1, .int .i64 p2, .int .i64 p3, .int .i64 p4] 87)
   go_upto_region 8 with fail
   have H7 := heap_alloc_new w2 (.cells #[.int .i64 p1, .int .i64 p2, .int .i64 p3, .int .i64 p4] 87)
   have HB7 := hbb.alloc hbb.size (.cells #[.int .i64 p1, .int .i64 p2, .int .i64 p3, .int .i64 p4] 87)
   generalize hW7 : w2.alloc (Obj.cells #[.int .i64 p1, .int .i64 p2, .int .i64 p3, .int .i64 p4] 87) = W7 at *
   have f0 := blk_cell H7 0
   have f1 := blk_cell H7 1
   have g0 := blk_cell G0 0
   have g1 := blk_cell G0 1
   clear hW7 H7 G0
   by_cases hp : p1 = c1
   case pos =>
    have hf3 := Lib.hid (show r = false by rw [← HR.out]; exact properP_p K7.out (by rw [hf2.out, hp]; simp))
    go_wp2_with fail
    go_ret
    exact ⟨by rw [hf3.out]; first | done | rfl, HB7⟩
   case neg =>
   have hp' : (p1 == c1) = false := by simpa using hp
   by_cases hq : p2 = c2
   case neg =>
    have hq' : (p2 != c2) = true := by simpa using hq
    have hf3 := Lib.hid (show r = false by rw [← HR.out]; exact properP_p K7.out (by rw [hf2.out]; simp [hq]))
    go_wp2_with fail
    go_ret
    exact ⟨by rw [hf3.out]; first | done | rfl, HB7⟩
   case pos =>
   have hq' : (p2 != c2) = false := by simpa using hq
   have hf3 := Lib.hid (show r = ((upP l (l.length + 1) [] c1).2 == 0) by rw [← HR.out]; exact properP_up HFB.out K7.out (by rw [hf2.out, hq]; simp [hp]))
   go_wp2_with fail
   have hcall := climb_c l A c c1 W7 (chart_keep HL.out HB7) Q1.out (by rw [HN.out]; exact hn)
   rw [HN.out] at hcall
   refine hcall.mono ?_
   clear hcall
   rintro e w8 ⟨v, rfl, hown, hb8⟩
   have HB8 := HB7.trans (hb8.mono HB7.size)
   obtain ⟨j, x, top, hj, hx, ht, htp⟩ := upP_top (l := l) (c := c1) (by simpa using hin)
   have hsm := upP_small (l := l) (l.length + 1) [] c1 (known_nil l) (by simp)
   rw [HN.out] at hj hx htp hsm
   rw [hj] at hown hsm
   have hjn : j + 1 ≤ 1000 := by have := hsm.1; omega
   obtain ⟨g8, cap, rfl, hcap1, hcap2⟩ := hown.form (by omega)
   have hcell := hown.cells (g := g8) rfl j _ (iv_get hx)
   rw [Addr.add_lit, Nat.zero_add] at hcell
   have hxb : intBd x := by
    obtain ⟨m, hm⟩ := findA_mem ht
    rw [← hm]; exact (HL.out.accB _ m).1
   have HJ := Lib.hid hj
   have HOW := Lib.hid hown
   have HT := Lib.hid ht
   have htb := HL.out.accB top (findA_mem ht).1
   clear hj hown hx ht hsm
   obtain ⟨t1, t2, t3, t4⟩ := top
   simp only at htp
   have HTP := Lib.hid htp
   clear htp htb
   have hf4 := Lib.hid (show r = (t4 == 0) by rw [hf3.out, HN.out, ← HTP.out])
   go_wp2_with fail
   have hcall := find_c l A c x w8 (chart_keep HL.out HB8) hxb (by rw [HN.out]; exact hn)
   rw [HN.out] at hcall
   refine hcall.mono ?_
   clear hcall
   rintro e w9 ⟨rfl, hb9⟩
   have HB9 := HB8.trans (hb9.mono HB8.size)
   have e0 : findV l x = .tuple #[.agg (accL ⟨t1, t2, t3, t4⟩).toArray, .bool true] := findV_some HT.out
   rw [e0]
   clear e0
   by_cases ht4 : t4 = 0
   case pos =>
    have hf5 := Lib.hid (show r = true by rw [hf4.out, ht4]; rfl)
    go_wp2_with fail
    go_ret
    exact ⟨by rw [hf5.out]; first | done | rfl, HB9.alloc HB9.size _⟩
   case neg =>
    have ht4' : (t4 == 0) = false := by simpa using ht4
    have hf5 := Lib.hid (show r = false by rw [hf4.out, ht4'])
    go_wp2_with fail
    go_ret
    exact ⟨by rw [hf5.out]; first | done | rfl, HB9.alloc HB9.size _⟩
end Go.Proofs.YtekelchdbkjjjaaGreat
