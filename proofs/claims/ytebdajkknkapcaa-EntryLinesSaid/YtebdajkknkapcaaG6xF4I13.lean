/- The normal form in the program: the sums. Written by gen_f4.py. -/
import Derived.Test.YtebdajkknkapcaaG6xB0B10
import Derived.Test.YtebdajkknkapcaaG6xB14E6
import Derived.Test.YtebdajkknkapcaaG6xE8F6
import Derived.Test.YtebdajkknkapcaaProg
import Derived.IntWalk
set_option linter.unusedVariables false
set_option linter.unusedSimpArgs false
set_option maxRecDepth 4000
attribute [local go_sem ↓] Go.wp_at_zero Go.wp_at_succ
namespace Go.Proofs.Ytebdajkknkapcaa
open Go Go.RowKit Go.ChangeMaps
open Go.Maps (Keyed)
def IsEnt (mb : Nat) (es1 : Array MapEntry) (clock1 : Nat) (c0 : Int) (st : Nat) (v : Value) (w : World) : Prop := v = .tuple #[.int .i64 c0, goInt st] ∧ w.heap[mb]? = some (.map es1 clock1)
theorem IsEnt.keep (mb : Nat) (es1 : Array MapEntry) (clock1 : Nat) (c0 : Int) (st : Nat) : ∀ v w w', Below w.heap.size w w' → IsEnt mb es1 clock1 c0 st v w → IsEnt mb es1 clock1 c0 st v w' :=
 fun v w w' hb h => ⟨h.1, (hb.block mb (blk_lt h.2)).trans h.2⟩
def SMap (mb : Nat) (es : Array MapEntry) (clock : Nat) (es1 : Array MapEntry) (clock1 : Nat) (W w : World) : Prop := Fr (fun q => q ≠ mb) W w ∧ w.heap.size = W.heap.size ∧ (w.heap[mb]? = some (.map es clock) ∨ w.heap[mb]? = some (.map es1 clock1))
theorem ks_ent {W w2 w3 : World} {ks : List Kind} {mb : Nat} {es1 : Array MapEntry} {clock1 : Nat} {c0 : Int} {st : Nat} (hks : ∀ k ∈ ks, (∃ u, k = .val u) ∨ k = .own (IsEnt mb es1 clock1 c0 st) (IsEnt.keep mb es1 clock1 c0 st)) (hb : w3.heap[mb]? = some (.map es1 clock1)) : ∀ (i : Nat) (v : Value), Ks W ks i v w2 → Ks W ks i v w3 := fun i v h k hk => by
 have h1 := h k hk
 rcases hks k (List.mem_of_getElem? hk) with ⟨u, rfl⟩ | rfl
 · exact h1
 · exact ⟨h1.1, hb⟩
theorem fr_setBlock {w : World} {b : Nat} {o : Obj} : Fr (fun q => q ≠ b) w (setBlock w b o) :=
 ⟨rfl, rfl, rfl, by simp [setBlock], fun k hk => by simp only [setBlock]; rw [Array.getElem?_setIfInBounds_ne (fun e => hk e.symm)]⟩
theorem setBlock_size {w : World} {b : Nat} {o : Obj} : (setBlock w b o).heap.size = w.heap.size := by simp [setBlock]
theorem line_bd {l : List XLine} {w : World} {A : Option Addr} {n c : Nat} (hl : ListC LineC 3 w (· < w.heap.size) [.slice A n c] l) {k : Nat} (hk : k < l.length) : lineBd l[k] := by
 obtain ⟨b, o, es, _, _, hes, _⟩ := ListC.get hl k hk
 exact (LineC.lit hes).2
theorem sums_step {l : List XLine} {k : Nat} (hk : k < l.length) (x : XLine) (hx : l[k] = x) (hb : intBd x.account ∧ intBd x.partner) (c : PK) : (if c = (⟨(x.account, x.partner), hb⟩ : PK) then sumAt (l.take k) x.account x.partner + x.amount else sumAt (l.take k) c.1.1 c.1.2) = sumAt (l.take (k + 1)) c.1.1 c.1.2 := by
 rw [sumAt_succ hk, hx]
 by_cases h : c = (⟨(x.account, x.partner), hb⟩ : PK)
 · rw [if_pos h]
   subst h
   simp [isAt]
 · rw [if_neg h]
   have : isAt c.1.1 c.1.2 x = false := by
    unfold isAt
    rw [Bool.and_eq_false_iff]
    by_cases e1 : x.account = c.1.1
    · right
      have : ¬ x.partner = c.1.2 := fun e2 => h (Subtype.ext (Prod.ext e1.symm e2.symm))
      simpa using this
    · left; simpa using e1
   rw [this]; simp
def SumsAt (l : List XLine) (k : Nat) (c : PK) : Int := sumAt (l.take k) c.1.1 c.1.2
theorem owns_size {w : World} {P : Program} {k : TypeId} {R : Value → Option (DataW Unit × List MemPlace)} {b n : Nat} {D : UD} (h : w.ownsMap P k R b n D) : Maps.size D ≤ n := by
 obtain ⟨es, clock, _, _, hs, rfl⟩ := h
 show (List.foldr DataW.insert [] _).length ≤ n
 rw [length_sorted]
 simpa using hs
theorem pair_inv {v : Value} {l : Lit} (h : keyOf Try.prog 113 v = some l) : ∃ c : PK, v = .agg #[.int .i64 c.1.1, .int .i64 c.1.2] := by
 unfold keyOf at h
 rw [Try.underlying113] at h
 simp only [pair_keyType, Bool.true_and] at h
 split at h
 case isFalse => cases h
 case isTrue hf =>
  cases v <;> simp [Value.formed, Try.underlying113, pair_cells, int_cells] at hf
  rename_i cs
  obtain ⟨d, hd⟩ := types_size
  rw [hd] at h
  obtain ⟨a, z, rfl⟩ : ∃ a z, cs = #[a, z] := by
   obtain ⟨l⟩ := cs
   match l, hf with
   | [], h => simp at h
   | [_], h => simp at h
   | [a, z], _ => exact ⟨a, z, rfl⟩
   | _ :: _ :: _ :: _, h => simp at h
  unfold Program.keyLits at h
  rw [Try.underlying113] at h
  simp only [Value.cells] at h
  have hk : ∀ (v : Value) (r : List Lit), Try.prog.keyLits (d + 1) 3 [v] = some r → ∃ n : Int, v = .int .i64 n ∧ intBd n := by
   intro v r hr
   unfold Program.keyLits at hr
   rw [int_uty] at hr
   cases v <;> simp at hr
   rename_i q n
   obtain ⟨⟨rfl, hw⟩, _⟩ := hr
   refine ⟨n, rfl, ?_⟩
   simp [Lit.wf, IntKind.min, IntKind.max, IntKind.signed, IntKind.bits] at hw
   unfold intBd; omega
  cases h1 : Try.prog.keyLits (d + 1) 3 [a] with
  | none => simp [int_cells, pair_cells, List.range_succ, h1] at h
  | some r1 =>
   cases h2 : Try.prog.keyLits (d + 1) 3 [z] with
   | none => simp [int_cells, pair_cells, List.range_succ, h1, h2] at h
   | some r2 =>
    obtain ⟨n1, rfl, b1⟩ := hk _ _ h1
    obtain ⟨n2, rfl, b2⟩ := hk _ _ h2
    exact ⟨⟨(n1, n2), b1, b2⟩, rfl⟩
theorem info_lineA : (Try.prog.info? 64).map (fun i => (i.zero, i.size, i.bytes)) = some (some (.agg #[.int .i64 0, .int .i64 0, .int .i64 0]), 3, 24) := by kernel_rfl
theorem lines_uty : Try.prog.underlying 40 = some (.slice 64) := by kernel_rfl
def NormInv (l : List XLine) (k : Nat) (left : Lit → Bool) (out : List XLine) : Prop :=
 (∀ x ∈ out, lineBd x ∧ x.amount = sumAt (l.take k) x.account x.partner ∧ x.amount ≠ 0 ∧ ∀ hb, left (pKey ⟨(x.account, x.partner), hb⟩) = false) ∧
 out.Pairwise (fun x y => ¬ (x.account = y.account ∧ x.partner = y.partner)) ∧
 ∀ c : PK, SumsAt l k c ≠ 0 → left (pKey c) = true ∨ ∃ x ∈ out, x.account = c.1.1 ∧ x.partner = c.1.2
theorem NormInv.start {l : List XLine} {k : Nat} {D : UD} (hat : ∀ c : PK, D.atKey (pKey c) (.lit (.int .i64 0)) = .lit (.int .i64 (SumsAt l k c))) : NormInv l k (Maps.has D) [] := by
 refine ⟨(fun x hx => by cases hx), List.Pairwise.nil, fun c hc => Or.inl ?_⟩
 cases hh : Maps.has D (pKey c) with
 | true => rfl
 | false =>
  have h1 := hat c
  rw [Maps.atKey_of_not_has hh] at h1
  simp only [DataW.lit.injEq, Lit.int.injEq, true_and] at h1
  exact absurd h1.symm hc
theorem pKey_same {a c : PK} : (pKey a).sameKey (pKey c) = true ↔ a = c :=
 ⟨fun h => pKey_inj _ _ (WideAt.sameKey_eq h), fun h => by rw [h]; exact WideAt.sameKey_self (pKey_lit c)⟩
theorem NormInv.skip {l : List XLine} {k : Nat} {left : Lit → Bool} {out : List XLine} (h : NormInv l k left out) {c : PK} (h0 : SumsAt l k c = 0) : NormInv l k (fun z => left z && !z.sameKey (pKey c)) out := by
 obtain ⟨h1, h2, h3⟩ := h
 refine ⟨fun x hx => ?_, h2, fun d hd => ?_⟩
 · obtain ⟨a1, a2, a3, a4⟩ := h1 x hx
   exact ⟨a1, a2, a3, fun hb => by show (left (pKey _) && _) = false; rw [a4 hb]; rfl⟩
 · rcases h3 d hd with h4 | h4
   · left
     have : ¬ (pKey d).sameKey (pKey c) = true := fun e => hd (by rw [pKey_same.1 e]; exact h0)
     simp [h4, this]
   · exact Or.inr h4
theorem NormInv.step {l : List XLine} {k : Nat} {left : Lit → Bool} {out : List XLine} (h : NormInv l k left out) {c : PK} (hlk : left (pKey c) = true) (h0 : SumsAt l k c ≠ 0) (hbd : intBd (SumsAt l k c)) : NormInv l k (fun z => left z && !z.sameKey (pKey c)) (out ++ [⟨c.1.1, SumsAt l k c, c.1.2⟩]) := by
 obtain ⟨h1, h2, h3⟩ := h
 refine ⟨fun x hx => ?_, ?_, fun d hd => ?_⟩
 · rcases List.mem_append.1 hx with hx | hx
   · obtain ⟨a1, a2, a3, a4⟩ := h1 x hx
     exact ⟨a1, a2, a3, fun hb => by show (left (pKey _) && _) = false; rw [a4 hb]; rfl⟩
   · simp only [List.mem_singleton] at hx
     subst hx
     refine ⟨⟨c.2.1, hbd, c.2.2⟩, rfl, h0, fun hb => ?_⟩
     have : (pKey ⟨(c.1.1, c.1.2), hb⟩).sameKey (pKey c) = true := pKey_same.2 (Subtype.ext rfl)
     simp only [this]
     simp
 · rw [List.pairwise_append]
   refine ⟨h2, by simp, fun x hx y hy hxy => ?_⟩
   simp only [List.mem_singleton] at hy
   subst hy
   obtain ⟨a1, _, _, a4⟩ := h1 x hx
   have hb : intBd x.account ∧ intBd x.partner := ⟨a1.1, a1.2.2⟩
   have e : (⟨(x.account, x.partner), hb⟩ : PK) = c := Subtype.ext (Prod.ext hxy.1 hxy.2)
   have := a4 hb
   rw [e, hlk] at this
   cases this
 · by_cases e : d = c
   · subst e
     exact Or.inr ⟨_, List.mem_append_right _ (List.mem_singleton.2 rfl), rfl, rfl⟩
   · rcases h3 d hd with h4 | ⟨x, hx, h5⟩
     · left
       have : ¬ (pKey d).sameKey (pKey c) = true := fun e' => e (pKey_same.1 e')
       simp [h4, this]
     · exact Or.inr ⟨x, List.mem_append_left _ hx, h5⟩
theorem wpList_next_pairs (w : World) {ops : Array Oper} {rest : List Oper} {o : Oper} {a : Act} {Q : Exit → Act → World → Prop} (hg : o.guard = none) (it : Operand) (hop : o.op = Op.next it false) (b r n : Nat) (D : UD) (left : Lit → Bool) (cnt : Nat) (f : PK → Int)
 (hit : a.eval it = .pointer (some ⟨r, 0, none⟩)) (h : w.ranges Try.prog 113 (plainElem Try.prog 3) b r n D left cnt) (hat : ∀ c : PK, D.atKey (pKey c) (.lit (.int .i64 0)) = .lit (.int .i64 (f c)))
 (hDone : (∀ kl, left kl = false) → wpList Try.prog ops Q rest (a.put o.dst (.tuple #[.bool false])) w)
 (hMore : ∀ (c : PK) (w' : World) (cnt' : Nat), left (pKey c) = true → w'.ranges Try.prog 113 (plainElem Try.prog 3) b r n D (fun z => left z && !z.sameKey (pKey c)) cnt' → cnt' < cnt → w.grownBy w' (some r) → w'.heap.size = w.heap.size →
  (Instr.entry (.pointer (some ⟨r, 0, none⟩))).run Try.prog w' = .ok (.tuple #[.agg #[.int .i64 c.1.1, .int .i64 c.1.2], .int .i64 (f c)]) w' → wpList Try.prog ops Q rest (a.put o.dst (.tuple #[.bool true, .agg #[.int .i64 c.1.1, .int .i64 c.1.2], .int .i64 (f c)])) w') :
 wpList Try.prog ops Q (o :: rest) a w :=
 wpList_next_ranges w hg it hop 113 pair_keyed (plainElem Try.prog 3) (fun c : PK => .agg #[.int .i64 c.1.1, .int .i64 c.1.2]) (Value.int .i64)
  (fun key kl hkey => pair_inv hkey) (fun v y hv => by obtain ⟨c, rfl, _⟩ := plainElem_int_inv int_uty hv; exact ⟨c, rfl⟩)
  b r n D left cnt hit h (fun _ hl => hDone hl) (fun c v kl y w' cnt' hkey hlk hv hat' hrg hlt hgr hsz hen => by
   rw [pKey_of c] at hkey
   obtain rfl := Option.some.inj hkey
   obtain ⟨v', ev, rfl, hwf⟩ := plainElem_int_inv int_uty hv
   cases ev
   have h1 := hat c
   rw [hat' _] at h1
   simp only [DataW.lit.injEq, Lit.int.injEq, true_and] at h1
   subst h1
   exact hMore c w' cnt' hlk hrg hlt hgr hsz hen)
theorem sumAt_some : ∀ {l : List XLine} {a p : Int}, sumAt l a p ≠ 0 → ∃ y ∈ l, y.account = a ∧ y.partner = p
 | [], a, p, h => absurd rfl h
 | x :: l, a, p, h => by
  rw [sumAt_cons] at h
  by_cases hx : isAt a p x = true
  · refine ⟨x, List.mem_cons_self, ?_⟩
    unfold isAt at hx
    simpa using hx
  · rw [if_neg hx] at h
    obtain ⟨y, hy, e⟩ := sumAt_some (l := l) (a := a) (p := p) (by omega)
    exact ⟨y, List.mem_cons_of_mem _ hy, e⟩
theorem norm_of {l out out' : List XLine} {left : Lit → Bool} (h : NormInv l l.length left out) (hl : ∀ kl, left kl = false) (hbd : ∀ y ∈ l, lineBd y) (hp : out'.Perm out) (hs : out'.Pairwise (fun x y => ¬ ltL y x)) : IsNorm l out' := by
 obtain ⟨h1, h2, h3⟩ := h
 rw [List.take_length] at h1
 have h2' : out'.Pairwise (fun x y => ¬ (x.account = y.account ∧ x.partner = y.partner)) := (hp.pairwise_iff (fun {x y} hne e => hne ⟨e.1.symm, e.2.symm⟩)).2 h2
 refine ⟨?_, fun x => ?_⟩
 · refine (hs.and h2').imp (fun {x y} hxy => ?_)
   rcases ltL_tri x y with h | h | h
   · exact h
   · exact absurd h hxy.2
   · exact absurd h hxy.1
 · rw [hp.mem_iff]
   constructor
   · intro hx
     obtain ⟨_, a2, a3, _⟩ := h1 x hx
     exact ⟨a2, a3⟩
   · rintro ⟨e, hne⟩
     rw [e] at hne
     obtain ⟨y, hy, ya, yp⟩ := sumAt_some hne
     have hyb := hbd y hy
     have hpk : intBd x.account ∧ intBd x.partner := ⟨ya ▸ hyb.1, yp ▸ hyb.2.2⟩
     rcases h3 ⟨(x.account, x.partner), hpk⟩ (by unfold SumsAt; rw [List.take_length]; exact hne) with h4 | ⟨z, hz, za, zp⟩
     · rw [hl] at h4
       cases h4
     · have hza : z.account = x.account := za
       have hzp : z.partner = x.partner := zp
       obtain ⟨_, z2, _, _⟩ := h1 z hz
       have : z = x := by
        obtain ⟨z1, zz, z3⟩ := z
        obtain ⟨x1, xx, x3⟩ := x
        simp only at hza hzp z2 e
        subst hza hzp
        rw [z2, e]
       rw [← this]
       exact hz
def NormPost (l : List XLine) (w : World) (e : Ending) (w' : World) : Prop := ∃ A out c, e = .returned (.slice A out.length c) ∧ IsNorm l out ∧ out.length ≤ l.length ∧ ListC LineC 3 w' (fun q => w.heap.size ≤ q ∧ q < w'.heap.size) [.slice A out.length c] out ∧ Below w.heap.size w w'
set_option maxHeartbeats 4000000 in
theorem normal_c (l : List XLine) (A : Option Addr) (c : Nat) (w : World) (hl : ListC LineC 3 w (· < w.heap.size) [.slice A l.length c] l) (hs : absL l ≤ 4611686018427387904) (hn9 : l.length ≤ 1000) : Calls Try.prog 27 #[.slice A l.length c] w (NormPost l w) := by
 have hmm := @run_makeMap Try.prog
 obtain ⟨ia, hia, hzia, hsia, hbia⟩ := info_parts info_lineA
 obtain ⟨n, hnl⟩ : ∃ n, l.length = n := ⟨_, rfl⟩
 have HL := Lib.hid hl
 have HN := Lib.hid hnl
 have HS := Lib.hid hs
 rw [hnl] at hn9 ⊢
 clear hl hnl hs
 go_enter Try.func27, Try.ntmps27
 go_wp2_with fail
 have HM0 := MapN.made Try.prog 113 3 pKey w
 have hb0 := below1 w (.map #[] 0)
 have hs0 : w.heap.size < (w.alloc (.map #[] 0)).heap.size := by simp
 generalize hW0 : w.alloc (.map #[] 0) = W0 at *
 clear hW0
 have HM := Lib.hid HM0
 clear HM0
 go_loopw [12] (fun i wr => ∃ k : Nat, k ≤ n ∧ i = .int .i64 (k : Int) ∧ Below w.heap.size w wr ∧ MapP wr w.heap.size k (SumsAt l k)) (fun i _ => n - (intOf i).toNat)
 case atStart => exact ⟨0, by omega, rfl, hb0, HM.out.eqv (fun c => rfl)⟩
 case round =>
  obtain ⟨k, hk, rfl, hb, hm⟩ := hrel
  have HMW := Lib.hid hm
  have HML0 := Lib.hid hm.lt
  clear hm
  by_cases hlt : k < n
  case pos =>
   have hltI : (k : Int) < (n : Int) := by omega
   have hkl : k < l.length := by rw [HN.out]; exact hlt
   obtain ⟨b, o, es, hAe, hbw, hes, hat⟩ := ListC.get HL.out k hkl
   subst hAe
   have hes1 := (LineC.lit hes).1
   have hbd := (LineC.lit hes).2
   rw [hes1] at hat
   have hq := sumAt_abs (l.take k) l[k].account l[k].partner
   have hq2 := sumAt_abs (l.take (k + 1)) l[k].account l[k].partner
   rw [sumAt_succ hkl] at hq2
   have hab1 := absL_take l k
   have hab2 := absL_take l (k + 1)
   have habs := HS.out
   obtain ⟨x, hx⟩ : ∃ x, l[k] = x := ⟨_, rfl⟩
   have HSTEP := Lib.hid (fun (hb : intBd x.account ∧ intBd x.partner) (c : PK) => sums_step hkl x hx hb c)
   rw [hx] at hat hbd hq hq2
   have hpos : isAt x.account x.partner x = true := by simp [isAt]
   rw [if_pos hpos] at hq2
   obtain ⟨la, lm, lp⟩ := x
   simp only at hat hq hq2
   obtain ⟨hla, hlm, hlp⟩ := hbd
   have HKB := Lib.hid (show intBd la ∧ intBd lp from ⟨hla, hlp⟩)
   have hatw := hat.fr (Fr.ofBelow hb)
   have HAR := Lib.hid hatw.range
   obtain ⟨c0, hc0⟩ : ∃ c0, sumAt (l.take k) la lp = c0 := ⟨_, rfl⟩
   rw [hc0] at hq hq2
   have HWR := Lib.hid (show IntKind.i64.wrap (c0 + lm) = c0 + lm from IntWalk.i64_in _ (by omega))
   have HWF := Lib.hid (show (Lit.int .i64 (c0 + lm)).wf = true from WalkArith.wf_i64 (show intBd (c0 + lm) by unfold intBd; omega))
   have HC0 := Lib.hid hc0
   clear hes hes1 hat hatw hx hq hq2 hab1 hab2 habs hpos hla hlm hlp hc0
   go_upto_region 5 with (show wpList _ _ _ (Oper.mk (some 15) _ _ _ _ _ :: _) _ _; refine wpList_load_mid rfl 64 (.tmp 14) rfl b (o + k * 3) rfl [.int .i64 la, .int .i64 lm, .int .i64 lp] _ HAR.out Try.underlying64 rfl info_line ?_)
   have H6 := heap_alloc_new wr (.cells #[.int .i64 la, .int .i64 lm, .int .i64 lp] 64)
   have HB6 := below1 wr (.cells #[.int .i64 la, .int .i64 lm, .int .i64 lp] 64)
   have HS6 : wr.heap.size < (wr.alloc (.cells #[.int .i64 la, .int .i64 lm, .int .i64 lp] 64)).heap.size := blk_lt H6
   generalize hW6 : wr.alloc (Obj.cells #[.int .i64 la, .int .i64 lm, .int .i64 lp] 64) = W6 at *
   clear hW6
   have C0 := Lib.hid (blk_cell H6 0)
   have C1 := Lib.hid (blk_cell H6 1)
   have C2 := Lib.hid (blk_cell H6 2)
   clear H6
   have hb6 := hb.trans (HB6.mono hb.size)
   have HNE := Lib.hid (show wr.heap.size ≠ w.heap.size by have := HML0.out; omega)
   have HMW6 := Lib.hid (MapN.below HMW.out HB6)
   have HML := Lib.hid HMW6.out.lt
   obtain ⟨st, es, clock, es1, clock1, hbk, hrun, hstore⟩ := HMW6.out.assign pair_keyed pmap_uty int_uty int_zero (by unfold maxLen; omega) pKey_inj pKey_lit (pKey_of ⟨(la, lp), HKB.out⟩)
   have hfc : SumsAt l k ⟨(la, lp), HKB.out⟩ = c0 := HC0.out
   rw [hfc] at hrun
   obtain ⟨es', clock', hst, hmap⟩ := hstore (c0 + lm) HWF.out
   have HBK := Lib.hid hbk
   have HRUN := Lib.hid hrun
   have HST := Lib.hid hst
   have HMAP := Lib.hid hmap
   clear hbk hrun hstore hst hmap hfc
   refine wp_region_inv2' 12 (Ks W6 [.val (.map (some w.heap.size)), .val (.pointer (some ⟨wr.heap.size, 0, none⟩)), .val (.int .i64 la), .val (.pointer (some ⟨wr.heap.size, 2, none⟩)), .val (.int .i64 lp), .val (.agg #[.int .i64 la, .int .i64 lp]), .val (.int .i64 c0), .val (.pointer (some ⟨wr.heap.size, 1, none⟩)), .val (.int .i64 lm), .val (.int .i64 (c0 + lm)), .own (IsEnt w.heap.size es1 clock1 c0 st) (IsEnt.keep _ _ _ _ _), .val (goInt st)])
    (SMap w.heap.size es clock es1 clock1 W6) (by kernel_rfl) (by kernel_rfl) (by kernel_rfl) (by decide) (by kernel_rfl) (by kernel_rfl) ⟨(Fr.refl _ _).drew, rfl, Or.inl HBK.out⟩ ?_ ?_
   · refine ⟨?_, ?_, ?_, ?_, ?_, ?_, ?_, ?_, ?_, ?_, ?_, ?_, trivial⟩
     · intro listed A0 w2 hI hd hnd K hK
       have e0 := hI.slot hnd 3 _ rfl (by kernel_rfl)
       have hS := hI.world
       refine wanted_go rfl ?_
       clear hI hd hnd
       go_simp
       exact kq hK hS rfl
     · intro listed A0 w2 hI hd hnd K hK
       have e0 := hI.slot hnd 5 _ rfl (by kernel_rfl)
       have hS := hI.world
       refine wanted_go rfl ?_
       clear hI hd hnd
       go_simp
       exact kq hK hS rfl
     · intro listed A0 w2 hI hd hnd K hK
       have e0 := hI.depv hd 1 17 _ rfl rfl rfl (by kernel_rfl)
       have hS := hI.world
       have hcc : w2.cell? ⟨wr.heap.size, 0, none⟩ = _ := (hS.1.cell (p := ⟨wr.heap.size, 0, none⟩) HNE.out).trans C0.out
       refine wanted_go rfl ?_
       clear hI hd hnd
       go_simp
       exact kq hK hS rfl
     · intro listed A0 w2 hI hd hnd K hK
       have e0 := hI.slot hnd 5 _ rfl (by kernel_rfl)
       have hS := hI.world
       refine wanted_go rfl ?_
       clear hI hd hnd
       go_simp
       exact kq hK hS rfl
     · intro listed A0 w2 hI hd hnd K hK
       have e0 := hI.depv hd 3 19 _ rfl rfl rfl (by kernel_rfl)
       have hS := hI.world
       have hcc : w2.cell? ⟨wr.heap.size, 2, none⟩ = _ := (hS.1.cell (p := ⟨wr.heap.size, 2, none⟩) HNE.out).trans C2.out
       refine wanted_go rfl ?_
       clear hI hd hnd
       go_simp
       exact kq hK hS rfl
     · intro listed A0 w2 hI hd hnd K hK
       have e0 := hI.depv hd 2 18 _ rfl rfl rfl (by kernel_rfl)
       have e1 := hI.depv hd 4 20 _ rfl rfl rfl (by kernel_rfl)
       have hS := hI.world
       refine wanted_go rfl ?_
       clear hI hd hnd
       go_simp
       exact kq hK hS rfl
     · intro listed A0 w2 hI hd hnd K hK
       have e0 := hI.depv hd 0 16 _ rfl rfl rfl (by kernel_rfl)
       have e1 := hI.depv hd 5 21 _ rfl rfl rfl (by kernel_rfl)
       have hS := hI.world
       have hlk := (HRUN.out w2 hS.2.2).1
       refine wanted_go rfl ?_
       clear hI hd hnd
       go_simp
       exact kq hK hS rfl
     · intro listed A0 w2 hI hd hnd K hK
       have e0 := hI.slot hnd 5 _ rfl (by kernel_rfl)
       have hS := hI.world
       refine wanted_go rfl ?_
       clear hI hd hnd
       go_simp
       exact kq hK hS rfl
     · intro listed A0 w2 hI hd hnd K hK
       have e0 := hI.depv hd 7 23 _ rfl rfl rfl (by kernel_rfl)
       have hS := hI.world
       have hcc : w2.cell? ⟨wr.heap.size, 1, none⟩ = _ := (hS.1.cell (p := ⟨wr.heap.size, 1, none⟩) HNE.out).trans C1.out
       refine wanted_go rfl ?_
       clear hI hd hnd
       go_simp
       exact kq hK hS rfl
     · intro listed A0 w2 hI hd hnd K hK
       have e0 := hI.depv hd 6 22 _ rfl rfl rfl (by kernel_rfl)
       have e1 := hI.depv hd 8 24 _ rfl rfl rfl (by kernel_rfl)
       have hS := hI.world
       have hwr := HWR.out
       refine wanted_go rfl ?_
       clear hI hd hnd
       go_simp
       exact kq hK hS rfl
     · intro listed A0 w2 hI hd hnd K hK
       have e0 := hI.depv hd 0 16 _ rfl rfl rfl (by kernel_rfl)
       have e1 := hI.depv hd 5 21 _ rfl rfl rfl (by kernel_rfl)
       have hS := hI.world
       have hme := (HRUN.out w2 hS.2.2).2
       refine wanted_go rfl ?_
       clear hI hd hnd
       go_simp
       have hsb : (setBlock w2 w.heap.size (.map es1 clock1)).heap[w.heap.size]? = some (.map es1 clock1) := setBlock_at (by rw [hS.2.1]; exact HML.out)
       exact hK.out _ _ ⟨hS.1.trans fr_setBlock, setBlock_size.trans hS.2.1, Or.inr hsb⟩ (Ks.of rfl ⟨rfl, hsb⟩) (ks_ent (by simp only [List.forall_mem_cons]; exact ⟨Or.inl ⟨_, rfl⟩, Or.inl ⟨_, rfl⟩, Or.inl ⟨_, rfl⟩, Or.inl ⟨_, rfl⟩, Or.inl ⟨_, rfl⟩, Or.inl ⟨_, rfl⟩, Or.inl ⟨_, rfl⟩, Or.inl ⟨_, rfl⟩, Or.inl ⟨_, rfl⟩, Or.inl ⟨_, rfl⟩, Or.inr rfl, Or.inl ⟨_, rfl⟩, fun _ h => by cases h⟩) hsb)
     · intro listed A0 w2 hI hd hnd K hK
       obtain ⟨x0, e0, h0⟩ := hI.dep hd 10 26 rfl rfl rfl (by kernel_rfl)
       have hS := hI.world
       obtain ⟨rfl, hB⟩ := h0
       refine wanted_go rfl ?_
       clear hI hd hnd
       go_simp
       exact kq hK hS rfl
   · intro f A0 w2 hI
     obtain ⟨x0, g0, h0⟩ := hI.got 0 _ 16 rfl rfl rfl
     obtain ⟨x1, g1, h1⟩ := hI.got 1 _ 17 rfl rfl rfl
     obtain ⟨x2, g2, h2⟩ := hI.got 2 _ 18 rfl rfl rfl
     obtain ⟨x3, g3, h3⟩ := hI.got 3 _ 19 rfl rfl rfl
     obtain ⟨x4, g4, h4⟩ := hI.got 4 _ 20 rfl rfl rfl
     obtain ⟨x5, g5, h5⟩ := hI.got 5 _ 21 rfl rfl rfl
     obtain ⟨x6, g6, h6⟩ := hI.got 6 _ 22 rfl rfl rfl
     obtain ⟨x7, g7, h7⟩ := hI.got 7 _ 23 rfl rfl rfl
     obtain ⟨x8, g8, h8⟩ := hI.got 8 _ 24 rfl rfl rfl
     obtain ⟨x9, g9, h9⟩ := hI.got 9 _ 25 rfl rfl rfl
     obtain ⟨x10, g10, h10⟩ := hI.got 10 _ 26 rfl rfl rfl
     obtain ⟨x11, g11, h11⟩ := hI.got 11 _ 27 rfl rfl rfl
     have hS := hI.world
     have hA : A0 = _ := hI.tmps [(16, x0), (17, x1), (18, x2), (19, x3), (20, x4), (21, x5), (22, x6), (23, x7), (24, x8), (25, x9), (26, x10), (27, x11)] (by simp only [List.mem_cons, List.not_mem_nil, or_false, forall_eq_or_imp, forall_eq]; exact ⟨g0, g1, g2, g3, g4, g5, g6, g7, g8, g9, g10, g11⟩) (by kernel_rfl)
     obtain rfl : x0 = .map (some w.heap.size) := h0 _ rfl
     obtain rfl : x9 = .int .i64 (c0 + lm) := h9 _ rfl
     have k10 : (IsEnt w.heap.size es1 clock1 c0 st) x10 w2 := h10 _ rfl
     obtain rfl : x11 = goInt st := h11 _ rfl
     clear h0 g0 h1 g1 h2 g2 h3 g3 h4 g4 h5 g5 h6 g6 h7 g7 h8 g8 h9 g9 h10 g10 h11 g11 hI
     simp only [setAll, List.foldl, List.setIfInBounds_toArray, List.set_cons_zero, List.set_cons_succ] at hA
     rw [hA]
     clear hA
     obtain ⟨hx10, hB10⟩ := k10
     subst hx10
     have hst := HST.out w2 hB10
     try unfold goInt at hst
     show wpAny _ _ _ _ (f + 1) _ _ _
     refine wpAny_all (rs := [12]) (by kernel_rfl) (by simp) ?_
     intro i hi
     obtain rfl : i = 12 := by simpa using hi
     refine wpOp_step (o := _) rfl (fun K hK => ?_)
     refine wanted_go rfl ?_
     go_simp
     refine hK _ _ ?_
     refine wpAny_done (by kernel_rfl) ?_ _
     clear hK
     have hmap := HMAP.out w2 (by rw [hS.2.1]; exact HML.out)
     have hbE : Below w.heap.size w (setBlock w2 w.heap.size (.map es' clock')) := ((Fr.ofBelow hb6).trans (((hS.1).trans fr_setBlock).mono (fun q (hq : q < w.heap.size) => by show q ≠ w.heap.size; omega))).below
     have hmap2 := hmap.eqv (g := SumsAt l (k + 1)) (fun c => by
      have h := HSTEP.out HKB.out c
      simp only [HC0.out] at h
      exact h)
     have HBE := Lib.hid hbE
     have HMAP2 := Lib.hid hmap2
     clear hmap hmap2 hbE hS hst hB10
     generalize setBlock w2 w.heap.size (.map es' clock') = w3 at *
     go_wp2_with fail
     go_roundw
     case rel => exact ⟨k + 1, by omega, by go_num, HBE.out, HMAP2.out⟩
     case measure => first | exact meas_v hlt | (simp only [intOf]; omega)
  case neg =>
   have hltI : ¬ (k : Int) < (n : Int) := by omega
   have hkn : k = n := by omega
   subst hkn
   obtain ⟨D, hown, hat⟩ := HMW.out
   have HAT := Lib.hid hat
   clear hat
   go_wp2_with (first | (at_range; refine wpList_range_own _ rfl _ 112 rfl 113 3 pair_keyed pmap_uty _ w.heap.size k D rfl hown ?_; intro w0 hrg0 hg0 hs0))
   have hsz := owns_size hown
   have hb1 : Below w.heap.size w w0 := hb.grown hg0 (Nat.le_of_lt HML0.out) (fun _ h => by cases h)
   have HS0 := Lib.hid hs0
   have HRG0 := Lib.hid hrg0
   have HSZ := Lib.hid hsz
   have HNI := Lib.hid (NormInv.start HAT.out)
   clear hs0 hrg0 hsz hown hg0
   obtain ⟨rI, hrI⟩ : ∃ r, wr.heap.size = r := ⟨_, rfl⟩
   rw [hrI] at HRG0 HS0 HML0 ⊢
   have HRI := Lib.hid hrI
   clear hrI
   go_loopw [6] (fun v wx => ∃ (left : Lit → Bool) (cnt : Nat) (out : List XLine), wx.ranges Try.prog 113 (plainElem Try.prog 3) w.heap.size rI k D left cnt ∧ Below w.heap.size w wx ∧ wx.ownsRow w0.heap.size 64 3 v out.length (out.flatMap lineL) ∧ NormInv l k left out ∧ out.length + cnt ≤ k ∧ w0.heap.size ≤ wx.heap.size) (fun _ wx => wx.rangeLeft w.heap.size rI)
   case atStart => exact ⟨_, _, [], HRG0.out, hb1, World.ownsRow_nil _ _ _ _, HNI.out, by simpa using HSZ.out, Nat.le_refl _⟩
   case round =>
    obtain ⟨left, cnt, out, hrg, hbx, hown, hni, hcnt, hsx⟩ := hrel
    have HRG := Lib.hid hrg
    have HOWN := Lib.hid hown
    have HNI2 := Lib.hid hni
    clear hrg hown hni
    go_upto_block 3 with (at_next; refine wpList_next_pairs _ rfl _ rfl w.heap.size rI k D left cnt (SumsAt l k) rfl HRG.out HAT.out (fun hl0 => ?_) (fun c w1 cnt1 hlk hrg1 hlt1 hg1 hs1 hen => ?_))
    · have HX := Lib.hid (fun out' hp hs => norm_of (out' := out') (by have h := HNI2.out; rw [← HN.out] at h; exact h) hl0 (fun y hy => by
       obtain ⟨j, hj, rfl⟩ := List.getElem_of_mem hy
       have h := HL.out
       exact line_bd h hj) hp hs)
      have hbdo := Lib.hid (fun x hx => (HNI2.out.1 x hx).1)
      refine (sort_c out u6 w0.heap.size wr HOWN.out hbdo.out (by omega) hsx).mono ?_
      rintro e w9 ⟨rfl, out', hp, hs, hlc, hb9, hz9⟩
      have HIS := Lib.hid (HX.out out' hp hs)
      have HLC := Lib.hid hlc
      have HPL := Lib.hid (show out'.length ≤ l.length by rw [hp.length_eq, HN.out]; omega)
      have hbE : Below w.heap.size w w9 := hbx.trans (hb9.mono (by have := HS0.out; have := HML0.out; omega))
      have HBE := Lib.hid hbE
      obtain ⟨A9, c9, rfl⟩ : ∃ A9 c9, u6 = .slice A9 out'.length c9 := by
       obtain ⟨A9, c9, e, _⟩ := hlc
       exact ⟨A9, c9, by simpa using e⟩
      clear hp hs hlc hb9 hbE
      go_wp2_with fail
      go_ret
      exact ⟨A9, out', c9, rfl, HIS.out, HPL.out, HLC.out.mono (fun h => LineC.mono h (fun q (hq : w0.heap.size ≤ q ∧ q < w9.heap.size) => ⟨by have := HS0.out; have := HML0.out; omega, hq.2⟩)) (fun q (hq : w0.heap.size ≤ q ∧ q < w9.heap.size) => ⟨by have := HS0.out; have := HML0.out; omega, hq.2⟩), HBE.out⟩
    · obtain ⟨⟨ka, kp⟩, hka, hkp⟩ := c
      have hsb := sumAt_abs (l.take k) ka kp
      have hsb2 := absL_take l k
      have hsb3 := HS.out
      have HSK := Lib.hid (show intBd (SumsAt l k ⟨(ka, kp), hka, hkp⟩) by unfold SumsAt; unfold intBd; simp only; omega)
      have HSKIP := Lib.hid (fun h0 => HNI2.out.skip (c := ⟨(ka, kp), hka, hkp⟩) h0)
      have HSTP := Lib.hid (fun h0 => HNI2.out.step (c := ⟨(ka, kp), hka, hkp⟩) hlk h0 HSK.out)
      obtain ⟨s, hs⟩ : ∃ s, SumsAt l k ⟨(ka, kp), hka, hkp⟩ = s := ⟨_, rfl⟩
      simp only at hen
      rw [hs] at hen HSKIP HSTP
      have hbx1 : Below w.heap.size w w1 := hbx.grown hg1 (by have := HML0.out; have := HS0.out; omega) (fun q h => by cases h; exact Nat.le_of_lt HML0.out)
      have how1 := own_same (w' := w1) HOWN.out (fun g hg => hg1.block g (HOWN.out.lt _ hg).2 (fun e => by have := (HOWN.out.lt _ hg).1; have := HS0.out; cases e; omega))
      have hs1' := hs1
      have HS1 := Lib.hid hs1'
      have HRG1 := Lib.hid hrg1
      have HLT1 := Lib.hid hlt1
      have NE1 := Lib.hid (show some w.heap.size ≠ u6.ownBlock from fun e => by have := (HOWN.out.lt _ e.symm).1; have := HS0.out; have := HML0.out; omega)
      have NE2 := Lib.hid (show some rI ≠ u6.ownBlock from fun e => by have := (HOWN.out.lt _ e.symm).1; have := HS0.out; omega)
      clear hsb hsb2 hsb3 hlk hs hs1 hs1' hlt1 hg1
      go_upto_region 11 with fail
      have H6 := heap_alloc_new w1 (.cells #[.int .i64 ka, .int .i64 kp] 113)
      have HB6 := below1 w1 (.cells #[.int .i64 ka, .int .i64 kp] 113)
      have HS6 : w1.heap.size < (w1.alloc (.cells #[.int .i64 ka, .int .i64 kp] 113)).heap.size := blk_lt H6
      have HRG6 := hrg1.alloc (.cells #[.int .i64 ka, .int .i64 kp] 113)
      have HOWX := how1.alloc (.cells #[.int .i64 ka, .int .i64 kp] 113)
      generalize hW6 : w1.alloc (Obj.cells #[.int .i64 ka, .int .i64 kp] 113) = W6 at *
      clear hW6
      have HRGX := Lib.hid HRG6
      have HOW6 := Lib.hid HOWX
      have hbx6 := hbx1.trans (HB6.mono hbx1.size)
      have hsz6 := HB6.size
      have HH6 := Lib.hid H6
      clear H6 HRG6 HOWX hrg1 how1 hen
      by_cases hz : s = 0
      case pos =>
       have hz1 : (s != 0) = false := by simpa using hz
       have HNX := Lib.hid (HSKIP.out hz)
       clear hz
       go_wp2_with fail
       go_roundw
       case rel => exact ⟨_, cnt1, out, HRGX.out, hbx6, HOW6.out, HNX.out, by have := HLT1.out; omega, by have := HS1.out; omega⟩
       case measure => rw [HRGX.out.left_eq, HRG.out.left_eq]; exact HLT1.out
      case neg =>
       have hz1 : (s != 0) = true := by simpa using hz
       have HNX := Lib.hid (HSTP.out hz)
       clear hz
       have c0 := blk_cell HH6.out 0
       have c1 := blk_cell HH6.out 1
       go_wp2_with (at_builtin; go_loud (refine wpList_app _ rfl (.tmp 38) (.tmp 45) 40 rfl w0.heap.size 64 ia _ 3 24 lines_uty hia hzia hsia hbia rfl (by decide) u6 out.length (out.flatMap lineL) rfl (HOW6.out.alloc _) (fun _ => True) (some ⟨W6.heap.size, 0, none⟩) 1 1 [.int .i64 ka, .int .i64 s, .int .i64 kp] rfl (rd_new (heap_alloc_new _ _) rfl) (by simp [Value.oneCell']) (by simp only [maxLen]; omega) (by omega) (by have := HS1.out; simp; omega) ?_); intro v9 w9 hown9 hg9 _)
       go_roundw
       case rel => exact ⟨_, cnt1, out ++ [⟨ka, s, kp⟩], (HRGX.out.alloc _).kept hg9 NE1.out NE2.out, (hbx6.alloc hbx6.size _).grown hg9 (by have := hbx6.size; simp; omega) (fun q hq => by have := (HOWN.out.lt _ hq).1; have := HS0.out; have := HML0.out; omega), by simpa using hown9, HNX.out, by have := HLT1.out; simp; omega, by have := HS1.out; have := hg9.size; simp at this; omega⟩
       case measure => rw [((HRGX.out.alloc _).kept hg9 NE1.out NE2.out).left_eq, HRG.out.left_eq]; exact HLT1.out
end Go.Proofs.Ytebdajkknkapcaa
namespace Go.Proofs.Ytebdajkknkapcaa
open Go Go.RowKit
theorem lines_lay (l : List XLine) (hb : ∀ x ∈ l, lineBd x) (hn : l.length ≤ 1000) (w W : World) (T : TypeId) (cs : Array Value) (hcs : cs = (l.flatMap lineL).toArray) (hW : W.heap[w.heap.size]? = some (.cells cs T (0, 0))) : ListC LineC 3 W (· < W.heap.size) [.slice (some ⟨w.heap.size, 0, none⟩) l.length l.length] l := by
 subst hcs
 have h2 := box_at hW
 refine ⟨_, _, rfl, Nat.le_refl _, by unfold maxLen; omega, fun _ => ⟨w.heap.size, 0, rfl, blk_lt hW, fun i x hx => ?_⟩⟩
 have hbx := hb x (List.mem_of_getElem? hx)
 exact ⟨lineL x, ⟨[_], [_], [_], rfl, ⟨rfl, hbx.1⟩, ⟨rfl, hbx.2.1⟩, ⟨rfl, hbx.2.2⟩⟩, flat_at lineL (fun _ => rfl) l 0 h2 i x hx⟩
def awA : List XLine := [⟨1000, 5, -1⟩, ⟨2000, -5, 1⟩, ⟨1000, -2, -1⟩, ⟨2000, 2, 1⟩]
def awB : List XLine := [⟨1000, 3, -1⟩, ⟨2000, -3, 1⟩]
theorem awA_bd : ∀ x ∈ awA, lineBd x := by
 show ∀ x ∈ awA, intBd x.account ∧ intBd x.amount ∧ intBd x.partner
 decide
theorem awB_bd : ∀ x ∈ awB, lineBd x := by
 show ∀ x ∈ awB, intBd x.account ∧ intBd x.amount ∧ intBd x.partner
 decide
theorem awA_sum (a p : Int) : sumAt awA a p = if a = 1000 ∧ p = -1 then 3 else if a = 2000 ∧ p = 1 then -3 else 0 := by
 unfold awA
 rw [sumAt_cons, sumAt_cons, sumAt_cons, sumAt_cons, show sumAt [] a p = 0 from rfl]
 unfold isAt
 simp only [Bool.and_eq_true, beq_iff_eq]
 by_cases h1 : a = 1000 ∧ p = -1
 · obtain ⟨rfl, rfl⟩ := h1
   decide
 · by_cases h2 : a = 2000 ∧ p = 1
   · obtain ⟨rfl, rfl⟩ := h2
     decide
   · have e1 : ¬ ((1000 : Int) = a ∧ (-1 : Int) = p) := fun h => h1 ⟨h.1.symm, h.2.symm⟩
     have e2 : ¬ ((2000 : Int) = a ∧ (1 : Int) = p) := fun h => h2 ⟨h.1.symm, h.2.symm⟩
     rw [if_neg h1, if_neg h2, if_neg e1, if_neg e2, if_neg e1, if_neg e2]
     rfl
theorem aw_norm : IsNorm awA awB := by
 refine ⟨by unfold awB ltL; simp, fun x => ?_⟩
 obtain ⟨a, m, p⟩ := x
 simp only [awA_sum]
 unfold awB
 simp only [List.mem_cons, List.not_mem_nil, or_false, XLine.mk.injEq]
 by_cases h1 : a = 1000 ∧ p = -1
 · rw [if_pos h1]
   obtain ⟨rfl, rfl⟩ := h1
   omega
 · rw [if_neg h1]
   by_cases h2 : a = 2000 ∧ p = 1
   · rw [if_pos h2]
     obtain ⟨rfl, rfl⟩ := h2
     omega
   · rw [if_neg h2]
     omega
theorem normal_n {l : List XLine} {A : Option Addr} {c n : Nat} {w : World} (hN : l.length = n) (hl : ListC LineC 3 w (· < w.heap.size) [.slice A l.length c] l) (hs : absL l ≤ 4611686018427387904) (hn : l.length ≤ 1000) : Calls Try.prog 27 #[.slice A n c] w (NormPost l w) := by
 subst hN
 exact normal_c l A c w hl hs hn
set_option maxHeartbeats 1000000 in
theorem awake11_c (w : World) : Calls Try.prog 25 #[] w (Quiet w (.bool true)) := by
 go_enter Try.func25, Try.ntmps25
 go_upto_region 2 with fail
 have H := heap_alloc_new w (.cells #[.int .i64 1000, .int .i64 5, .int .i64 (-1), .int .i64 2000, .int .i64 (-5), .int .i64 1, .int .i64 1000, .int .i64 (-2), .int .i64 (-1), .int .i64 2000, .int .i64 2, .int .i64 1] 64)
 have HB := below1 w (.cells #[.int .i64 1000, .int .i64 5, .int .i64 (-1), .int .i64 2000, .int .i64 (-5), .int .i64 1, .int .i64 1000, .int .i64 (-2), .int .i64 (-1), .int .i64 2000, .int .i64 2, .int .i64 1] 64)
 generalize w.alloc (.cells #[.int .i64 1000, .int .i64 5, .int .i64 (-1), .int .i64 2000, .int .i64 (-5), .int .i64 1, .int .i64 1000, .int .i64 (-2), .int .i64 (-1), .int .i64 2000, .int .i64 2, .int .i64 1] 64) = W at *
 have HL := Lib.hid (lines_lay awA awA_bd (by decide) w W _ _ rfl H)
 clear H
 go_wp2_with fail
 refine (normal_n (l := awA) rfl HL.out (by decide) (by decide)).mono ?_
 rintro e w2 ⟨A, out, c, rfl, hn, _, hlc, hb2⟩
 obtain rfl := hn.uniq aw_norm
 have HLC := Lib.hid hlc
 clear hn hlc
 have hb02 := HB.trans (hb2.mono HB.size)
 go_wp2_with fail
 have H2 := heap_alloc_new w2 (.cells #[.int .i64 1000, .int .i64 3, .int .i64 (-1), .int .i64 2000, .int .i64 (-3), .int .i64 1] 64)
 have HB2 := below1 w2 (.cells #[.int .i64 1000, .int .i64 3, .int .i64 (-1), .int .i64 2000, .int .i64 (-3), .int .i64 1] 64)
 generalize w2.alloc (.cells #[.int .i64 1000, .int .i64 3, .int .i64 (-1), .int .i64 2000, .int .i64 (-3), .int .i64 1] 64) = W3 at *
 have hL3 := lines_lay awB awB_bd (by decide) w2 W3 _ _ rfl H2
 have hA3 := lines_keep (HLC.out.mono (fun h => LineC.mono h (fun q hq => hq.2)) (fun q hq => hq.2)) HB2
 refine (show Calls Try.prog 28 #[.slice A 2 c, .slice (some ⟨w2.heap.size, 0, none⟩) 2 2] W3 _ from same_c awB awB A _ c 2 W3 hA3 hL3).mono ?_
 rintro e w4 ⟨rfl, hb4⟩
 rw [decide_eq_true (show awB = awB from rfl)]
 clear HLC
 go_wp2_with fail
 go_ret
 exact ⟨rfl, hb02.trans ((HB2.trans (hb4.mono HB2.size)).mono hb02.size)⟩
end Go.Proofs.Ytebdajkknkapcaa
namespace Go.Proofs.Ytebdajkknkapcaa
open Go Go.RowKit
theorem rd_lines {l : List XLine} {w : World} {Q : Nat → Prop} {A : Option Addr} {n c : Nat} (h : ListC LineC 3 w Q [.slice A n c] l) (k : Nat) (hk : k ≤ l.length) : Rd w Q A k 3 ((l.take k).flatMap lineL) := by
 have hlen : (l.take k).length = k := by simp; omega
 refine ⟨?_, fun hp => ?_⟩
 · have : ∀ m : List XLine, (m.flatMap lineL).length = m.length * 3 := fun m => by
    induction m with
    | nil => rfl
    | cons x m ih => rw [List.flatMap_cons, List.length_append, ih, List.length_cons]; simp; omega
   rw [this, hlen]
 · obtain ⟨A', c', e, _, _, hel⟩ := h
   simp only [List.cons.injEq, and_true, Value.slice.injEq] at e
   obtain ⟨rfl, rfl, rfl⟩ := e
   obtain ⟨b, o, rfl, hb, hx⟩ := hel (by omega)
   refine ⟨_, rfl, hb, fun j u hj => ?_⟩
   have hj3 : j < (l.take k).length * 3 := by
    have := (List.getElem?_eq_some_iff.1 hj).1
    have h2 : ∀ m : List XLine, (m.flatMap lineL).length = m.length * 3 := fun m => by
     induction m with
     | nil => rfl
     | cons x m ih => rw [List.flatMap_cons, List.length_append, ih, List.length_cons]; simp; omega
    rw [h2] at this
    exact this
   rw [flat_get (f := lineL) (k := 3) (by omega) (fun _ => rfl) _ j hj3] at hj
   have hq : j / 3 < k := by omega
   have hql : j / 3 < l.length := by omega
   have he : (l.take k)[j / 3]! = l[j / 3] := by
    rw [getElem!_pos _ _ (by omega)]
    simp
   rw [he] at hj
   obtain ⟨es, hes, hat⟩ := hx (j / 3) l[j / 3] (List.getElem?_eq_getElem hql)
   rw [(LineC.lit hes).1] at hat
   have h3 := hat.2 (j % 3) u hj
   rw [Addr.add_lit] at h3 ⊢
   have e3 : o + j / 3 * 3 + j % 3 = o + j := by omega
   rw [e3] at h3
   exact h3
theorem flat_one (l : List XLine) : ∀ u ∈ l.flatMap lineL, u.oneCell' = true := fun u hu => by
 obtain ⟨x, _, hx⟩ := List.mem_flatMap.1 hu
 simp [lineL] at hx
 rcases hx with rfl | rfl | rfl <;> rfl
end Go.Proofs.Ytebdajkknkapcaa
namespace Go.Proofs.Ytebdajkknkapcaa
open Go Go.RowKit
def negL (x : XLine) : XLine := ⟨x.account, -x.amount, x.partner⟩
def oppB (a b : List XLine) : Bool := decide (a = b.map negL)
def midL (x : XLine) : Prop := -4611686018427387904 ≤ x.amount ∧ x.amount ≤ 4611686018427387904
set_option maxHeartbeats 1000000 in
theorem oppcl_c (x y : XLine) (w : World) (hy : midL y) : Calls Try.prog 72 #[.agg (lineL x).toArray, .agg (lineL y).toArray] w (Quiet w (.bool (decide (x = negL y)))) := by
 obtain ⟨r, hr⟩ : ∃ r, decide (x = negL y) = r := ⟨_, rfl⟩
 rw [hr]
 obtain ⟨xa, xm, xp⟩ := x
 obtain ⟨ya, ym, yp⟩ := y
 have HR := Lib.hid (show r = decide (xa = ya ∧ xm = -ym ∧ xp = yp) by rw [← hr]; simp [negL])
 obtain ⟨hy1, hy2⟩ := hy
 simp only at hy1 hy2
 clear hr
 show Calls Try.prog 72 #[.agg #[.int .i64 xa, .int .i64 xm, .int .i64 xp], .agg #[.int .i64 ya, .int .i64 ym, .int .i64 yp]] w (Quiet w (.bool r))
 go_enter Try.func72, Try.ntmps72
 go_upto_region 1 with fail
 have H := heap_alloc_new w (.cells #[.int .i64 xa, .int .i64 xm, .int .i64 xp] 64)
 have HB := below1 w (.cells #[.int .i64 xa, .int .i64 xm, .int .i64 xp] 64)
 have HS : w.heap.size < (w.alloc (.cells #[.int .i64 xa, .int .i64 xm, .int .i64 xp] 64)).heap.size := blk_lt H
 generalize hW : w.alloc (Obj.cells #[.int .i64 xa, .int .i64 xm, .int .i64 xp] 64) = W at *
 have H2 := heap_alloc_new W (.cells #[.int .i64 ya, .int .i64 ym, .int .i64 yp] 64)
 have HB2 := below1 W (.cells #[.int .i64 ya, .int .i64 ym, .int .i64 yp] 64)
 have HS2 : W.heap.size < (W.alloc (.cells #[.int .i64 ya, .int .i64 ym, .int .i64 yp] 64)).heap.size := blk_lt H2
 replace H := alloc_keep H (Obj.cells #[.int .i64 ya, .int .i64 ym, .int .i64 yp] 64)
 generalize hW2 : W.alloc (Obj.cells #[.int .i64 ya, .int .i64 ym, .int .i64 yp] 64) = W2 at *
 clear hW2
 have eW : W.heap.size = w.heap.size + 1 := by rw [← hW]; simp
 rw [eW] at H2
 clear hW
 have hb2 := HB.trans (HB2.mono HB.size)
 have hs2 := HB2.size
 have LT1 := blk_lt H2
 have LT0 : w.heap.size < W2.heap.size := by omega
 have HH := Lib.hid H
 have HZ := Lib.hid H2
 have EW := Lib.hid eW
 clear H H2 eW
 have c0 := blk_cell HH.out 0
 have c1 := blk_cell HH.out 1
 have c2 := blk_cell HH.out 2
 have e0 := blk_cell HZ.out 0
 have e1 := blk_cell HZ.out 1
 have e2 := blk_cell HZ.out 2
 by_cases h1 : xa = ya
 case neg =>
  have h1' : (xa == ya) = false := by simpa using h1
  have hf := Lib.hid (show r = false from HR.out.trans (decide_eq_false (fun h => h1 h.1)))
  go_wp2_with fail
  go_ret
  exact ⟨by rw [hf.out]; first | done | rfl, hb2⟩
 case pos =>
 have h1' : (xa == ya) = true := by simpa using h1
 have HA := Lib.hid h1
 clear h1
 by_cases h2 : xp = yp
 case neg =>
  have h2' : (xp == yp) = false := by simpa using h2
  have hf := Lib.hid (show r = false from HR.out.trans (decide_eq_false (fun h => h2 h.2.2)))
  go_wp2_with fail
  go_ret
  exact ⟨by rw [hf.out]; first | done | rfl, hb2⟩
 case pos =>
 have h2' : (xp == yp) = true := by simpa using h2
 have HP := Lib.hid h2
 clear h2
 by_cases h3 : xm = -ym
 case neg =>
  have h3' : (xm == -ym) = false := by simpa using h3
  have hf := Lib.hid (show r = false from HR.out.trans (decide_eq_false (fun h => h3 h.2.1)))
  go_wp2_with fail
  go_ret
  exact ⟨by rw [hf.out]; first | done | rfl, hb2⟩
 case pos =>
  have h3' : (xm == -ym) = true := by simpa using h3
  have hf := Lib.hid (show r = true from HR.out.trans (decide_eq_true ⟨HA.out, h3, HP.out⟩))
  clear h3
  go_wp2_with fail
  go_ret
  exact ⟨by rw [hf.out]; first | done | rfl, hb2⟩
set_option maxHeartbeats 2000000 in
theorem eqf_c (a b' : List XLine) (A B : Option Addr) (c c4 : Nat) (w : World) (ha : ListC LineC 3 w (· < w.heap.size) [.slice A a.length c] a) (hb' : ListC LineC 3 w (· < w.heap.size) [.slice B b'.length c4] b') (hmid : ∀ x ∈ b', midL x) : Calls Try.prog 71 #[.slice A a.length c, .slice B b'.length c4, .func (.func 72) #[] #[]] w (Quiet w (.bool (oppB a b'))) := by
 obtain ⟨r, hr⟩ : ∃ r, oppB a b' = r := ⟨_, rfl⟩
 rw [hr]
 have HR := Lib.hid (show decide (a = b'.map negL) = r from hr)
 have hbn := ha.cap
 have hbn2 := hb'.cap
 obtain ⟨n, hnl⟩ : ∃ n, a.length = n := ⟨_, rfl⟩
 obtain ⟨m, hml⟩ : ∃ n, b'.length = n := ⟨_, rfl⟩
 have HA := Lib.hid ha
 have HB := Lib.hid hb'
 have HN := Lib.hid hnl
 have HM := Lib.hid hml
 have HMID := Lib.hid hmid
 rw [hnl] at hbn ⊢
 rw [hml] at hbn2 ⊢
 unfold maxLen at hbn hbn2
 have hn9 : n ≤ 9223372036854775807 := by omega
 have hm9 : m ≤ 9223372036854775807 := by omega
 clear hr ha hb' hnl hml hbn hbn2 hmid
 by_cases hl : n = m
 case neg =>
  have hf := Lib.hid (show r = false by rw [← HR.out]; exact decide_eq_false (fun e => hl (by rw [← HN.out, ← HM.out, e, List.length_map])))
  have hl1 : ((n : Int) != (m : Int)) = true := by simp; omega
  clear hl
  go_enter Try.func71, Try.ntmps71
  go_wp2_with fail
  go_ret
  exact ⟨by rw [hf.out]; first | done | rfl, Below.refl _ _⟩
 case pos =>
 subst hl
 go_enter Try.func71, Try.ntmps71
 go_wp2_with fail
 go_loopw [17] (fun i wr => ∃ k : Nat, k ≤ n ∧ i = .int .i64 (k : Int) ∧ Below w.heap.size w wr ∧ ∀ j, j < k → a[j]? = (b'.map negL)[j]?) (fun i _ => n - (intOf i).toNat)
 case atStart => exact ⟨0, by omega, rfl, Below.refl _ _, fun j h => by omega⟩
 case round =>
  obtain ⟨k, hk, rfl, hb, hall⟩ := hrel
  have HALL := Lib.hid hall
  clear hall
  by_cases hlt : k < n
  case pos =>
   have hltI : (k : Int) < (n : Int) := by omega
   have hkl : k < a.length := by rw [HN.out]; exact hlt
   have hkm : k < b'.length := by rw [HM.out]; exact hlt
   obtain ⟨b, o, es, hAe, hbw, hes, hat⟩ := ListC.get HA.out k hkl
   obtain ⟨b4, o4, es4, hAe4, hbw4, hes4, hat4⟩ := ListC.get HB.out k hkm
   subst hAe hAe4
   have hes1 := (LineC.lit hes).1
   have hes2 := (LineC.lit hes4).1
   rw [hes1] at hat
   rw [hes2] at hat4
   have hmd := HMID.out _ (List.getElem_mem hkm)
   obtain ⟨x, hx⟩ : ∃ x, a[k] = x := ⟨_, rfl⟩
   obtain ⟨y, hy⟩ : ∃ x, b'[k] = x := ⟨_, rfl⟩
   rw [hx] at hat
   rw [hy] at hat4 hmd
   have HX := Lib.hid (show a[k]? = some x by rw [List.getElem?_eq_getElem hkl, hx])
   have HY := Lib.hid (show (b'.map negL)[k]? = some (negL y) by rw [List.getElem?_map, List.getElem?_eq_getElem hkm, hy]; rfl)
   have HCL := Lib.hid (fun w2 : World => oppcl_c x y w2 hmd)
   obtain ⟨q, hq⟩ : ∃ q, decide (x = negL y) = q := ⟨_, rfl⟩
   rw [hq] at HCL
   have HQ := Lib.hid hq
   obtain ⟨xa, xm, xp⟩ := x
   obtain ⟨ya, ym, yp⟩ := y
   have HCL2 := Lib.hid (show ∀ w2, Calls Try.prog 72 #[.agg #[.int .i64 xa, .int .i64 xm, .int .i64 xp], .agg #[.int .i64 ya, .int .i64 ym, .int .i64 yp]] w2 (Quiet w2 (.bool q)) from HCL.out)
   try simp only at hat hat4
   have HAR := Lib.hid ((hat.fr (Fr.ofBelow hb)).range)
   have HAR4 := Lib.hid ((hat4.fr (Fr.ofBelow hb)))
   clear hes hes4 hes1 hes2 hat hat4 hx hy hmd hq HCL
   go_upto_region 6 with (show wpList _ _ _ (Oper.mk (some 21) _ _ _ _ _ :: _) _ _; refine wpList_load_mid rfl 64 (.tmp 20) rfl b (o + k * 3) rfl [.int .i64 xa, .int .i64 xm, .int .i64 xp] _ HAR.out Try.underlying64 rfl info_line ?_)
   have H6 := heap_alloc_new wr (.cells #[.int .i64 xa, .int .i64 xm, .int .i64 xp] 64)
   have HB6 := below1 wr (.cells #[.int .i64 xa, .int .i64 xm, .int .i64 xp] 64)
   have HS6 : wr.heap.size < (wr.alloc (.cells #[.int .i64 xa, .int .i64 xm, .int .i64 xp] 64)).heap.size := blk_lt H6
   have ez6 : (wr.alloc (.cells #[.int .i64 xa, .int .i64 xm, .int .i64 xp] 64)).heap.size = wr.heap.size + 1 := by simp
   generalize hW6 : wr.alloc (Obj.cells #[.int .i64 xa, .int .i64 xm, .int .i64 xp] 64) = W6 at *
   clear hW6
   have HK6 := Lib.hid H6
   have EZ6 := Lib.hid ez6
   clear H6 ez6
   have hb6 := hb.trans (HB6.mono hb.size)
   have HAR6 := Lib.hid ((HAR4.out.fr ((Fr.ofBelow HB6).mono (fun q (hq : q < w.heap.size) => by have := hb.size; omega))).range)
   go_upto_region 7 with (show wpList _ _ _ (Oper.mk (some 25) _ _ _ _ _ :: _) _ _; refine wpList_load_mid rfl 64 (.tmp 24) rfl b4 (o4 + k * 3) rfl [.int .i64 ya, .int .i64 ym, .int .i64 yp] _ HAR6.out Try.underlying64 rfl info_line ?_)
   have H7 := heap_alloc_new W6 (.cells #[.int .i64 ya, .int .i64 ym, .int .i64 yp] 64)
   have HB7 := below1 W6 (.cells #[.int .i64 ya, .int .i64 ym, .int .i64 yp] 64)
   have HS7 : W6.heap.size < (W6.alloc (.cells #[.int .i64 ya, .int .i64 ym, .int .i64 yp] 64)).heap.size := blk_lt H7
   generalize hW7 : W6.alloc (Obj.cells #[.int .i64 ya, .int .i64 ym, .int .i64 yp] 64) = W7 at *
   clear hW7
   have HK7 := Lib.hid H7
   have HK67 := Lib.hid ((HB7.block _ HS6).trans HK6.out)
   clear H7
   have hb7 := hb6.trans (HB7.mono hb6.size)
   go_wp2_with (first | (show wpList _ _ _ (Oper.mk (some 27) _ _ _ _ _ :: _) _ _; refine wpList_load_row_g rfl 64 (.tmp 8) rfl wr.heap.size rfl _ _ _ _ HK67.out Try.underlying64 rfl info_line ?_) | (show wpList _ _ _ (Oper.mk (some 28) _ _ _ _ _ :: _) _ _; refine wpList_load_row_g rfl 64 (.tmp 9) rfl W6.heap.size rfl _ _ _ _ HK7.out Try.underlying64 rfl info_line ?_))
   refine (HCL2.out W7).mono ?_
   rintro e w8 ⟨rfl, hb8⟩
   have hb08 := hb7.trans (hb8.mono hb7.size)
   cases q with
   | false =>
    have hf := Lib.hid (show r = false by
     rw [← HR.out]
     refine decide_eq_false (fun e => ?_)
     have h1 := HX.out
     rw [e, HY.out] at h1
     exact of_decide_eq_false HQ.out (Option.some.inj h1).symm)
    go_wp2_with fail
    go_ret
    exact ⟨by rw [hf.out]; first | done | rfl, hb08⟩
   | true =>
    go_wp2_with fail
    go_roundw
    case rel => exact ⟨k + 1, by omega, by go_num, hb08, fun j hj => by
     rcases Nat.lt_or_ge j k with h | h
     · exact HALL.out j h
     · have : j = k := by omega
       subst this
       rw [HX.out, HY.out, of_decide_eq_true HQ.out]⟩
    case measure => first | exact meas_v hlt | (simp only [intOf]; omega)
  case neg =>
   have hltI : ¬ (k : Int) < (n : Int) := by omega
   have hf := Lib.hid (show r = true by
    rw [← HR.out]
    refine decide_eq_true (List.ext_getElem? (fun i => ?_))
    rcases Nat.lt_or_ge i k with h | h
    · exact HALL.out i h
    · rw [List.getElem?_eq_none (by rw [HN.out]; omega), List.getElem?_eq_none (by rw [List.length_map, HM.out]; omega)])
   go_wp2_with fail
   go_ret
   exact ⟨by rw [hf.out]; first | done | rfl, hb⟩
theorem opp_c (a b' : List XLine) (A B : Option Addr) (c c4 : Nat) (w : World) (ha : ListC LineC 3 w (· < w.heap.size) [.slice A a.length c] a) (hb' : ListC LineC 3 w (· < w.heap.size) [.slice B b'.length c4] b') (hmid : ∀ x ∈ b', midL x) : Calls Try.prog 32 #[.slice A a.length c, .slice B b'.length c4] w (Quiet w (.bool (oppB a b'))) := by
 have hc := eqf_c a b' A B c c4 w ha hb' hmid
 obtain ⟨n, hnl⟩ : ∃ n, a.length = n := ⟨_, rfl⟩
 obtain ⟨m, hml⟩ : ∃ n, b'.length = n := ⟨_, rfl⟩
 obtain ⟨r, hr⟩ : ∃ r, oppB a b' = r := ⟨_, rfl⟩
 rw [hnl, hml, hr] at hc ⊢
 have HC := Lib.hid hc
 clear hc hnl hml hr ha hb' hmid
 go_enter Try.func32, Try.ntmps32
 go_wp2_with fail
 refine HC.out.mono ?_
 rintro e w2 ⟨rfl, hb2⟩
 go_wp2_with fail
 go_ret
 exact ⟨rfl, hb2⟩
end Go.Proofs.Ytebdajkknkapcaa
namespace Go.Proofs.Ytebdajkknkapcaa
open Go Go.RowKit
theorem neg_step {l : List XLine} {k : Nat} (hk : k < l.length) : ((l.take (k + 1)).map negL).flatMap lineL = ((l.take k).map negL).flatMap lineL ++ lineL (negL l[k]) := by
 rw [List.take_add_one, List.getElem?_eq_getElem hk, List.map_append, List.flatMap_append]
 simp
end Go.Proofs.Ytebdajkknkapcaa
namespace Go.Proofs.Ytebdajkknkapcaa
open Go Go.RowKit
def IsMade (W : World) (v : Value) (w : World) : Prop := ∃ g, v = .slice (some ⟨g, 0, none⟩) 0 0 ∧ W.heap.size ≤ g ∧ w.heap[g]? = some (.cells #[] 64 (0, 0))
theorem IsMade.keep (W : World) : ∀ v w w', Below w.heap.size w w' → IsMade W v w → IsMade W v w' := fun v w w' hb ⟨g, e, h1, h2⟩ => ⟨g, e, h1, (hb.block g (blk_lt h2)).trans h2⟩
theorem IsMade.made {W w : World} (h : W.heap.size ≤ w.heap.size) : IsMade W (.slice (some ⟨w.heap.size, 0, none⟩) 0 0) (w.alloc (.cells #[] 64)) := ⟨_, rfl, h, heap_alloc_new _ _⟩
def IsOwn (W : World) (n : Nat) (xs : List Value) (v : Value) (w : World) : Prop := w.ownsRow W.heap.size 64 3 v n xs
theorem IsOwn.keep (W : World) (n : Nat) (xs : List Value) : ∀ v w w', Below w.heap.size w w' → IsOwn W n xs v w → IsOwn W n xs v w' := fun v w w' hb h => own_below h hb
end Go.Proofs.Ytebdajkknkapcaa
namespace Go.Proofs.Ytebdajkknkapcaa
open Go Go.RowKit
def idxE (es : List XEntry) (id : Int) : Option Nat := es.findIdx? (fun x => x.id == id)
def revId : List XEntry → Int → Int
 | [], _ => 0
 | x :: es, id => if x.kind = 3 ∧ x.of_ = id then x.id else revId es id
def rvsE (es : List XEntry) (x : XEntry) : Int :=
 match idxE es x.of_ with
 | none => 8
 | some k => if (es.getD k {}).kind = 3 ∨ revId es x.of_ ≠ 0 then 7 else if (es.getD k {}).entity ≠ x.entity ∨ x.date < (es.getD k {}).date ∨ oppB x.lines (es.getD k {}).lines = false then 18 else 0
def postE (g : XGroup) (es : List XEntry) (x : XEntry) : Int :=
 if checkE g x ≠ 0 then checkE g x
 else if (idxE es x.id).isSome then 9
 else if x.kind = 3 ∧ rvsE es x ≠ 0 then rvsE es x
 else if 2000 ≤ es.length then 6 else 0
def okJ (g : XGroup) (es : List XEntry) : Prop := ∀ k (h : k < es.length), postE g (es.take k) es[k] = 0
def revO (es : List XEntry) (id : Int) : Option Int := if revId es id = 0 then none else some (revId es id)
end Go.Proofs.Ytebdajkknkapcaa
namespace Go.Proofs.Ytebdajkknkapcaa
open Go Go.RowKit Go.ChangeMaps
open Go.Maps (Keyed)
theorem iimap_uty : Try.prog.underlying 107 = some (.map 3 3) := by kernel_rfl
def MapO (w : World) (b n : Nat) (f : Int → Option Int) : Prop :=
 ∃ D : UD, w.ownsMap Try.prog 3 (plainElem Try.prog 3) b n D ∧ ∀ c : Int, Maps.has D (iKey c) = (f c).isSome ∧ D.atKey (iKey c) (.lit (.int .i64 0)) = .lit (.int .i64 ((f c).getD 0))
section
variable {w w' : World} {b n : Nat} {f : Int → Option Int}
theorem MapO.made (w : World) : MapO (w.alloc (.map #[] 0)) w.heap.size 0 (fun _ => none) := ⟨_, World.ownsMap_made w Try.prog 3 _, fun _ => ⟨rfl, rfl⟩⟩
theorem MapO.lt (h : MapO w b n f) : b < w.heap.size := by
 obtain ⟨D, h1, h2⟩ := h
 exact h1.lt
theorem MapO.same (h : MapO w b n f) (hb : w'.heap[b]? = w.heap[b]?) : MapO w' b n f := by
 obtain ⟨D, ⟨es, clock, h1, h3, h4, h5⟩, h2⟩ := h
 exact ⟨D, ⟨es, clock, hb.trans h1, h3, h4, h5⟩, h2⟩
theorem MapO.fr {Q : Nat → Prop} (h : MapO w b n f) (hf : Fr Q w w') (hb : Q b) : MapO w' b n f := h.same (hf.block b hb)
theorem MapO.below (h : MapO w b n f) (hb : Below w.heap.size w w') : MapO w' b n f := h.fr (Fr.ofBelow hb) h.lt
theorem MapO.mono (h : MapO w b n f) {n' : Nat} (hn : n ≤ n') : MapO w b n' f := by
 obtain ⟨D, h1, h2⟩ := h
 exact ⟨D, h1.mono hn, h2⟩
theorem MapO.eqv {g : Int → Option Int} (h : MapO w b n f) (hg : ∀ c, f c = g c) : MapO w b n g := by
 obtain ⟨D, h1, h2⟩ := h
 exact ⟨D, h1, fun c => by rw [← hg c]; exact h2 c⟩
theorem MapO.look (h : MapO w b n f) {c : Int} (hc : intBd c) : (Instr.lookup 107 (.map (some b)) (.int .i64 c) true).run Try.prog w = .ok (.tuple #[.int .i64 ((f c).getD 0), .bool (f c).isSome]) w := by
 obtain ⟨D, h1, h2⟩ := h
 obtain ⟨v, ps, hrun, hv⟩ := h1.look_ok int_keyed3 iimap_uty (int_zero w) (plainElem_int int_uty (by decide)) (iKey_of hc)
 obtain ⟨a, rfl, ha, _⟩ := plainElem_int_inv int_uty hv
 rw [(h2 c).2] at ha
 simp only [Prod.mk.injEq, DataW.lit.injEq, Lit.int.injEq, true_and] at ha
 rw [hrun, ← ha.1, (h2 c).1]
theorem MapO.store (h : MapO w b n f) (hn : n < maxLen) {c x : Int} (hc : intBd c) (hx : intBd x) :
 ∃ w', (Instr.mapUpdate 107 (.map (some b)) (.int .i64 c) (.int .i64 x)).run Try.prog w = .ok () w' ∧ MapO w' b (n + 1) (fun d => if d = c then some x else f d) ∧ Fr (fun q => q ≠ b) w w' := by
 obtain ⟨D, h1, h2⟩ := h
 obtain ⟨w2, hrun, h3, h4⟩ := h1.store int_keyed3 iimap_uty hn (iKey_of hc) (plainElem_int int_uty (WalkArith.wf_i64 hx))
 have hm : Maps.IsMap D := h1.isMap
 refine ⟨w2, hrun, ⟨_, h3, fun d => ?_⟩, ?_⟩
 · by_cases hd : d = c
   · subst hd
     rw [Maps.atKey_put_same hm (iKey_lit d), Maps.has_put_same hm (iKey_lit d)]; simp
   · have hne : iKey d ≠ iKey c := fun e => hd (iKey_inj _ _ e)
     rw [Maps.atKey_put_other hne, Maps.has_put_other hne]; simp only [if_neg hd]; exact h2 d
 · obtain ⟨es, clock, es', clock', hb, rfl⟩ := h4
   exact ⟨rfl, rfl, rfl, by simp [setBlock], fun i hi => heap_setBlock_other hb _ hi⟩
end
end Go.Proofs.Ytebdajkknkapcaa
namespace Go.Proofs.Ytebdajkknkapcaa
open Go Go.RowKit
theorem At.flat {w : World} {Q : Nat → Prop} {b size : Nat} : ∀ {css : List (List Value)} (h : ∀ cs ∈ css, cs.length = size) (o : Nat), At w Q ⟨b, o, none⟩ css.flatten → ∀ (i : Nat) cs, css[i]? = some cs → At w Q ⟨b, o + i * size, none⟩ cs
 | [], _, _, _, i, cs, hi => by simp at hi
 | c :: css, h, o, ha, 0, cs, hi => by
  rw [List.flatten_cons] at ha
  have := (ha.split).1
  simp at hi
  subst hi
  simpa using this
 | c :: css, h, o, ha, i + 1, cs, hi => by
  rw [List.flatten_cons] at ha
  have h2 := (ha.split).2
  rw [h c (by simp)] at h2
  simp only [List.getElem?_cons_succ] at hi
  have := At.flat (fun x hx => h x (by simp [hx])) (o + size) h2 i cs hi
  have e : o + (i + 1) * size = o + size + i * size := by rw [Nat.add_mul]; omega
  rw [e]
  exact this
theorem own_at {w : World} {base : Nat} {e : TypeId} {size g n c : Nat} {xs : List Value} (h : w.ownsRow base e size (.slice (some ⟨g, 0, none⟩) n c) n xs) {Q : Nat → Prop} (hQ : Q g) : At w Q ⟨g, 0, none⟩ xs :=
 ⟨hQ, fun j u hu => ⟨h.cells (g := g) rfl j u hu, own_unfrozen h (g := g) rfl j⟩⟩
theorem own_list {α : Type} {El : World → (Nat → Prop) → List Value → α → Prop} {size : Nat} {w : World} {Q : Nat → Prop} {base : Nat} {e : TypeId} {v : Value} {xs : List α} {css : List (List Value)} (hl : ∀ cs ∈ css, cs.length = size)
 (h : w.ownsRow base e size v xs.length css.flatten) (hE : ∀ (i : Nat) x, xs[i]? = some x → ∃ cs, css[i]? = some cs ∧ El w Q cs x) (hQ : ∀ g, v.ownBlock = some g → Q g) : ListC El size w Q [v] xs := by
 rcases h.2 with ⟨rfl, h0⟩ | ⟨g, cap, cur, rfl, _, _, h3, h4, _⟩
 · exact ⟨none, 0, by rw [h0], by omega, by simp [maxLen], fun hp => by omega⟩
 · refine ⟨_, cap, rfl, h3, h4, fun _ => ⟨g, 0, rfl, hQ g rfl, fun i x hx => ?_⟩⟩
   obtain ⟨cs, h1, h2⟩ := hE i x hx
   exact ⟨cs, h2, At.flat hl 0 (own_at h (hQ g rfl)) i cs h1⟩
structure JAt (w : World) (D O : Nat → Prop) (J : Nat) (g : XGroup) (es : List XEntry) (gl : List Value) (css : List (List Value)) (v : Value) (bi br : Nat) : Prop where
 blk : w.heap[J]? = some (.cells (gl ++ [v, .map (some bi), .map (some br)]).toArray 109 (0, 0))
 grp : GroupC w D gl g
 len : css.length = es.length
 row : w.ownsRow 0 42 7 v es.length css.flatten
 ent : ∀ (i : Nat) x, es[i]? = some x → ∃ cs, css[i]? = some cs ∧ EntryC w D cs x
 idx : MapO w bi es.length (fun id => Option.map (fun k : Nat => (k : Int)) (idxE es id))
 rev : MapO w br es.length (revO es)
 oj : O J
 oi : O bi
 orr : O br
 ov : ∀ q, v.ownBlock = some q → O q
 ne1 : J ≠ bi
 ne2 : J ≠ br
 ne3 : bi ≠ br
 ne4 : ∀ q, v.ownBlock = some q → q ≠ J ∧ q ≠ bi ∧ q ≠ br
 dis : ∀ q, D q → ¬ O q
 ltD : ∀ q, D q → q < w.heap.size
 ltO : ∀ q, O q → q < w.heap.size
 ok : okJ g es
def JC (w : World) (D O : Nat → Prop) (J : Nat) (g : XGroup) (es : List XEntry) : Prop := ∃ gl css v bi br, JAt w D O J g es gl css v bi br
section
variable {w w' : World} {D O : Nat → Prop} {J : Nat} {g : XGroup} {es : List XEntry} {gl : List Value} {css : List (List Value)} {v : Value} {bi br : Nat}
theorem JAt.fr (h : JAt w D O J g es gl css v bi br) (hf : Fr (fun q => D q ∨ O q) w w') : JAt w' D O J g es gl css v bi br where
 blk := (hf.block J (.inr h.oj)).trans h.blk
 grp := GroupC.fr h.grp (hf.mono fun q hq => .inl hq)
 len := h.len
 row := own_same h.row fun q hq => hf.block q (.inr (h.ov q hq))
 ent := fun i x hx => by
  obtain ⟨cs, h1, h2⟩ := h.ent i x hx
  exact ⟨cs, h1, EntryC.fr h2 (hf.mono fun q hq => .inl hq)⟩
 idx := h.idx.fr hf (.inr h.oi)
 rev := h.rev.fr hf (.inr h.orr)
 oj := h.oj
 oi := h.oi
 orr := h.orr
 ov := h.ov
 ne1 := h.ne1
 ne2 := h.ne2
 ne3 := h.ne3
 ne4 := h.ne4
 dis := h.dis
 ltD := fun q hq => Nat.lt_of_lt_of_le (h.ltD q hq) hf.size
 ltO := fun q hq => Nat.lt_of_lt_of_le (h.ltO q hq) hf.size
 ok := h.ok
theorem JC.fr (h : JC w D O J g es) (hf : Fr (fun q => D q ∨ O q) w w') : JC w' D O J g es := by
 obtain ⟨gl, css, v, bi, br, h⟩ := h
 exact ⟨gl, css, v, bi, br, h.fr hf⟩
theorem JC.below (h : JC w D O J g es) (hb : Below w.heap.size w w') : JC w' D O J g es := by
 obtain ⟨gl, css, v, bi, br, h⟩ := h
 exact ⟨gl, css, v, bi, br, h.fr ((Fr.ofBelow hb).mono fun q hq => hq.elim (h.ltD q) (h.ltO q))⟩
theorem JC.ok (h : JC w D O J g es) : okJ g es := by
 obtain ⟨gl, css, v, bi, br, h⟩ := h
 exact h.ok
theorem JC.lt (h : JC w D O J g es) : J < w.heap.size := by
 obtain ⟨gl, css, v, bi, br, h⟩ := h
 exact blk_lt h.blk
theorem JAt.glen (h : JAt w D O J g es gl css v bi br) : gl.length = 21 := h.grp.len
theorem JAt.clen (h : JAt w D O J g es gl css v bi br) : ∀ cs ∈ css, cs.length = 7 := fun cs hc => by
 obtain ⟨i, hi, rfl⟩ := List.getElem_of_mem hc
 have hi2 : i < es.length := by rw [← h.len]; exact hi
 obtain ⟨cs, h1, h2⟩ := h.ent i _ (List.getElem?_eq_getElem hi2)
 rw [List.getElem?_eq_getElem hi] at h1
 obtain rfl := Option.some.inj h1
 exact h2.len
theorem JAt.list (h : JAt w D O J g es gl css v bi br) : ListC EntryC 7 w (fun q => D q ∨ O q) [v] es :=
 own_list h.clen h.row (fun i x hx => by
  obtain ⟨cs, h1, h2⟩ := h.ent i x hx
  exact ⟨cs, h1, EntryC.mono h2 (fun q hq => .inl hq)⟩) (fun q hq => .inr (h.ov q hq))
end
def JPost (D O : Nat → Prop) (J : Nat) (g : XGroup) (es es' : List XEntry) (w w' : World) : Prop :=
 ∃ m, w.heap.size ≤ m ∧ m ≤ w'.heap.size ∧ JC w' (fun q => D q ∨ (w.heap.size ≤ q ∧ q < m)) (fun q => O q ∨ (m ≤ q ∧ q < w'.heap.size)) J g es' ∧ Fr (fun q => q < w.heap.size ∧ ¬ O q) w w'
end Go.Proofs.Ytebdajkknkapcaa
namespace Go.Proofs.Ytebdajkknkapcaa
open Go Go.RowKit
theorem own_empty {w : World} {base g size : Nat} {e : TypeId} (hb : base ≤ g) (hg : w.heap[g]? = some (.cells #[] e (0, 0))) : w.ownsRow base e size (.slice (some ⟨g, 0, none⟩) 0 0) 0 [] := ⟨by simp, .inr ⟨g, 0, #[], rfl, hb, hg, Nat.le_refl _, by simp [maxLen], by simp, by simp⟩⟩
end Go.Proofs.Ytebdajkknkapcaa
namespace Go.Proofs.Ytebdajkknkapcaa
open Go Go.RowKit
theorem ListC.elt {α : Type} {El : World → (Nat → Prop) → List Value → α → Prop} {size : Nat} {w : World} {Q : Nat → Prop} {A : Option Addr} {n c : Nat} {l : List α} (h : ListC El size w Q [.slice A n c] l) {x : α} (hx : x ∈ l) : ∃ cs, El w Q cs x := by
 obtain ⟨i, hi, rfl⟩ := List.getElem_of_mem hx
 obtain ⟨b, o, es, _, _, h1, _⟩ := ListC.get h i hi
 exact ⟨es, h1⟩
theorem EntryC.mk {w : World} {Q : Nat → Prop} {x : XEntry} {A : Option Addr} {c : Nat} (hb : intBd x.id ∧ intBd x.entity ∧ intBd x.date ∧ intBd x.kind ∧ intBd x.of_) (hl : ListC LineC 3 w Q [.slice A x.lines.length c] x.lines) : EntryC w Q [.int .i64 x.id, .int .i64 x.entity, .int .i64 x.date, .int .i64 x.kind, .int .i64 x.of_, .string x.text, .slice A x.lines.length c] x :=
 ⟨[_], [_], [_], [_], [_], [_], [_], rfl, ⟨rfl, hb.1⟩, ⟨rfl, hb.2.1⟩, ⟨rfl, hb.2.2.1⟩, ⟨rfl, hb.2.2.2.1⟩, ⟨rfl, hb.2.2.2.2⟩, rfl, hl⟩
theorem EntityC.mk {w : World} {Q : Nat → Prop} {x : XEntity} {A B : Option Addr} {c d : Nat} (hc : ListC AccountC 4 w Q [.slice A x.chart.length c] x.chart) (hl : ListC LinkC 3 w Q [.slice B x.links.length d] x.links) : EntityC w Q (entL x.name x.currency A x.chart.length c B x.links.length d x.joint) x :=
 ⟨[_], [_], [_], [_], [_], rfl, rfl, rfl, hc, hl, rfl⟩
theorem GroupC.parts {w : World} {Q : Nat → Prop} {cs : List Value} {g : XGroup} (h : GroupC w Q cs g) : ∃ c0 c1 Ac cc c3 Ae ce, cs = c0 ++ c1 ++ [.slice Ac g.chart.length cc] ++ c3 ++ [.slice Ae g.entities.length ce] ∧ c0.length = 1 ∧ c1.length = 3 ∧ c3.length = 15 ∧
 ListC AccountC 4 w Q [.slice Ac g.chart.length cc] g.chart ∧ ListC EntityC 5 w Q [.slice Ae g.entities.length ce] g.entities ∧
 ∀ (w' : World) (Q' : Nat → Prop) A c B d, Below w.heap.size w w' → (∀ q, Q q → q < w.heap.size) → ListC AccountC 4 w' Q' [.slice A g.chart.length c] g.chart → ListC EntityC 5 w' Q' [.slice B g.entities.length d] g.entities → GroupC w' Q' (c0 ++ c1 ++ [.slice A g.chart.length c] ++ c3 ++ [.slice B g.entities.length d]) g := by
 obtain ⟨c0, c1, c2, c3, c4, rfl, h0, h1, h2, h3, h4⟩ := h
 have l0 := StrC.len h0
 have l1 := CalC.len h1
 have l3 := RolesC.len h3
 obtain ⟨Ac, cc, rfl, _⟩ := h2.form
 obtain ⟨Ae, ce, rfl, _⟩ := h4.form
 refine ⟨c0, c1, Ac, cc, c3, Ae, ce, rfl, l0, l1, l3, h2, h4, fun w' Q' A c B d hb hq k2 k4 => ⟨c0, c1, _, c3, _, rfl, h0, ?_, k2, ?_, k4⟩⟩
 · obtain ⟨a, b, c, e, k⟩ := h1
   exact ⟨a, b, c, e, k⟩
 · obtain ⟨d0, d1, d2, d3, d4, d5, d6, d7, d8, d9, d10, d11, d12, d13, d14, e, k⟩ := h3
   exact ⟨d0, d1, d2, d3, d4, d5, d6, d7, d8, d9, d10, d11, d12, d13, d14, e, k⟩
end Go.Proofs.Ytebdajkknkapcaa
namespace Go.Proofs.Ytebdajkknkapcaa
open Go Go.RowKit
theorem own_listL {l : List XLine} {w : World} {Q : Nat → Prop} {base : Nat} {v : Value} (h : w.ownsRow base 64 3 v l.length (l.flatMap lineL)) (hb : ∀ x ∈ l, lineBd x) (hQ : ∀ g, v.ownBlock = some g → Q g) : ListC LineC 3 w Q [v] l :=
 own_list (css := l.map lineL) (fun cs hc => by obtain ⟨x, _, rfl⟩ := List.mem_map.1 hc; rfl) (by rw [← List.flatMap_def]; exact h)
  (fun i x hi => ⟨lineL x, by rw [List.getElem?_map, hi]; rfl, [_], [_], [_], rfl, ⟨rfl, (hb x (List.mem_of_getElem? hi)).1⟩, ⟨rfl, (hb x (List.mem_of_getElem? hi)).2.1⟩, ⟨rfl, (hb x (List.mem_of_getElem? hi)).2.2⟩⟩) hQ
theorem lines_bd {l : List XLine} {w : World} {Q : Nat → Prop} {A : Option Addr} {n c : Nat} (h : ListC LineC 3 w Q [.slice A n c] l) : ∀ x ∈ l, lineBd x := fun x hx => by
 obtain ⟨cs, h1⟩ := h.elt hx
 exact (LineC.lit h1).2
end Go.Proofs.Ytebdajkknkapcaa
namespace Go.Proofs.Ytebdajkknkapcaa
open Go Go.RowKit
def IsRow (W : World) (T : TypeId) (size n : Nat) (xs : List Value) (v : Value) (w : World) : Prop := w.ownsRow W.heap.size T size v n xs
theorem IsRow.keep (W : World) (T : TypeId) (size n : Nat) (xs : List Value) : ∀ v w w', Below w.heap.size w w' → IsRow W T size n xs v w → IsRow W T size n xs v w' := fun v w w' hb h => own_below h hb
def QE (B gE n i k q : Nat) : Prop := (i < k ∧ gE < q ∧ q < n) ∨ (¬ i < k ∧ q < B)
def EntsAt (es : List XEntity) (B gE k : Nat) (w : World) : Prop := ∀ i (h : i < es.length), ∃ cs, EntityC w (QE B gE w.heap.size i k) cs es[i] ∧ At w (fun q => q = gE) ⟨gE, i * 5, none⟩ cs
theorem EntsAt.fr {es : List XEntity} {B gE k : Nat} {w w' : World} (h : EntsAt es B gE k w) (hg : B ≤ gE) (hgw : gE < w.heap.size) (hb : Below w.heap.size w w') : EntsAt es B gE k w' := fun i hi => by
 obtain ⟨cs, h1, h2⟩ := h i hi
 refine ⟨cs, ?_, h2.fr ((Fr.ofBelow hb).mono (fun q hq => by subst hq; exact hgw))⟩
 have hsz := hb.size
 exact EntityC.mono (EntityC.fr h1 ((Fr.ofBelow hb).mono (fun q hq => by unfold QE at hq; omega))) (fun q hq => by unfold QE at hq ⊢; omega)
theorem set_other (w : World) (b p o : Nat) (u : Value) (h : p ≠ o) : (w.setCell ⟨b, p, none⟩ u).cell? ⟨b, o, none⟩ = w.cell? ⟨b, o, none⟩ := World.cell?_setCell_other _ _ _ _ (fun e => h (by injection e))
theorem set_same {w : World} {b o : Nat} {u v : Value} (h : w.cell? ⟨b, o, none⟩ = some v) : (w.setCell ⟨b, o, none⟩ u).cell? ⟨b, o, none⟩ = some u := World.cell?_setCell_same _ _ _ h
theorem at_set {w : World} {b o p : Nat} {cs : List Value} {u : Value} (h : At w (fun q => q = b) ⟨b, o, none⟩ cs) (hp : p < o ∨ o + cs.length ≤ p) : At (w.setCell ⟨b, p, none⟩ u) (fun q => q = b) ⟨b, o, none⟩ cs :=
 ⟨rfl, fun j x hj => by
  have hl := (List.getElem?_eq_some_iff.1 hj).1
  obtain ⟨h1, h2⟩ := h.2 j x hj
  rw [Addr.add_lit] at h1 h2 ⊢
  refine ⟨?_, ?_⟩
  · rw [← h1]; exact World.cell?_setCell_other _ _ _ _ (fun e => by injection e; omega)
  · rw [← h2]; exact World.frozen?_setCell _ _ _ _⟩
theorem own_listF {α : Type} {El : World → (Nat → Prop) → List Value → α → Prop} {f : α → List Value} {size : Nat} {l : List α} {w : World} {Q : Nat → Prop} {base : Nat} {T : TypeId} {v : Value} (hf : ∀ x, (f x).length = size) (h : w.ownsRow base T size v l.length (l.flatMap f)) (hE : ∀ x ∈ l, El w Q (f x) x) (hQ : ∀ g, v.ownBlock = some g → Q g) : ListC El size w Q [v] l :=
 own_list (css := l.map f) (fun cs hc => by obtain ⟨x, _, rfl⟩ := List.mem_map.1 hc; exact hf x) (by rw [← List.flatMap_def]; exact h)
  (fun i x hi => ⟨f x, by rw [List.getElem?_map, hi]; rfl, hE x (List.mem_of_getElem? hi)⟩) hQ
theorem own_val {w : World} {base : Nat} {T : TypeId} {size n m c : Nat} {A : Option Addr} {xs : List Value} (h : w.ownsRow base T size (.slice A m c) n xs) : m = n := by
 rcases h.2 with ⟨e, h0⟩ | ⟨g, cap, cur, e, _⟩
 · injection e with _ e2 _; omega
 · injection e with _ e2 _
theorem EntsAt.step {es : List XEntity} {B gE k : Nat} {w : World} (h : EntsAt es B gE k w) (hg : B ≤ gE) (hgw : gE < w.heap.size) (hk : k < es.length) {A1 A2 : Option Addr} {c1 c2 : Nat}
 (h1 : w.ownsRow (gE + 1) 152 4 (.slice A1 es[k].chart.length c1) es[k].chart.length (es[k].chart.flatMap accL)) (b1 : ∀ x ∈ es[k].chart, accB x)
 (h2 : w.ownsRow (gE + 1) 161 3 (.slice A2 es[k].links.length c2) es[k].links.length (es[k].links.flatMap linkL)) (b2 : ∀ x ∈ es[k].links, linkBd x) :
 EntsAt es B gE (k + 1) ((w.setCell ⟨gE, k * 5 + 2, none⟩ (.slice A1 es[k].chart.length c1)).setCell ⟨gE, k * 5 + 3, none⟩ (.slice A2 es[k].links.length c2)) := by
 have hf : Fr (fun q => q ≠ gE) w ((w.setCell ⟨gE, k * 5 + 2, none⟩ (.slice A1 es[k].chart.length c1)).setCell ⟨gE, k * 5 + 3, none⟩ (.slice A2 es[k].links.length c2)) :=
  ((Fr.refl _ _).setCell (p := ⟨gE, k * 5 + 2, none⟩) (by simp) _).setCell (p := ⟨gE, k * 5 + 3, none⟩) (by simp) _
 intro i hi
 obtain ⟨cs, k1, k2⟩ := h i hi
 have hl := k1.len
 rcases Nat.lt_trichotomy i k with hik | rfl | hik
 · refine ⟨cs, ?_, at_set (at_set k2 (.inr (by rw [hl]; omega))) (.inr (by rw [hl]; omega))⟩
   have hsz := hf.size
   exact EntityC.mono (EntityC.fr k1 (hf.mono fun q hq => by unfold QE at hq; omega)) (fun q hq => by unfold QE at hq ⊢; omega)
 · obtain ⟨Ec, c3, Al, cl, rfl, _, _⟩ := EntityC.lit k1
   have hsz := hf.size
   have q1 : ∀ g, Value.ownBlock (.slice A1 es[i].chart.length c1) = some g → g ≠ gE ∧ g < w.heap.size ∧ gE < g := fun g hg' => by have := h1.lt _ hg'; omega
   have q2 : ∀ g, Value.ownBlock (.slice A2 es[i].links.length c2) = some g → g ≠ gE ∧ g < w.heap.size ∧ gE < g := fun g hg' => by have := h2.lt _ hg'; omega
   refine ⟨entL es[i].name es[i].currency A1 es[i].chart.length c1 A2 es[i].links.length c2 es[i].joint, ?_, rfl, fun j u hj => ?_⟩
   · refine EntityC.mk ?_ ?_
     · exact own_listF (fun _ => rfl) (own_same h1 (fun g hg' => hf.block g (q1 g hg').1)) (fun x hx => accC_of (b1 x hx)) (fun g hg' => by have := q1 g hg'; unfold QE; omega)
     · exact own_listF (fun _ => rfl) (own_same h2 (fun g hg' => hf.block g (q2 g hg').1)) (fun x hx => linkC_of (b2 x hx)) (fun g hg' => by have := q2 g hg'; unfold QE; omega)
   · rw [Addr.add_lit]
     have hj5 : j < 5 := (List.getElem?_eq_some_iff.1 hj).1
     have hold := fun (j : Nat) (u : Value) (hj : (entL es[i].name es[i].currency Ec es[i].chart.length c3 Al es[i].links.length cl es[i].joint)[j]? = some u) => k2.2 j u hj
     simp only [Addr.add_lit] at hold
     have hfz : ∀ p : Addr, ((w.setCell ⟨gE, i * 5 + 2, none⟩ (.slice A1 es[i].chart.length c1)).setCell ⟨gE, i * 5 + 3, none⟩ (.slice A2 es[i].links.length c2)).frozen? p = w.frozen? p := fun p => by simp
     have hj' : j = 0 ∨ j = 1 ∨ j = 2 ∨ j = 3 ∨ j = 4 := by omega
     rcases hj' with rfl | rfl | rfl | rfl | rfl
     · obtain rfl := Option.some.inj hj
       obtain ⟨h3, h4⟩ := hold 0 _ rfl
       exact ⟨(set_other _ _ _ _ _ (by omega)).trans ((set_other _ _ _ _ _ (by omega)).trans h3), by rw [hfz]; exact h4⟩
     · obtain rfl := Option.some.inj hj
       obtain ⟨h3, h4⟩ := hold 1 _ rfl
       exact ⟨(set_other _ _ _ _ _ (by omega)).trans ((set_other _ _ _ _ _ (by omega)).trans h3), by rw [hfz]; exact h4⟩
     · obtain rfl := Option.some.inj hj
       obtain ⟨h3, h4⟩ := hold 2 _ rfl
       exact ⟨(set_other _ _ _ _ _ (by omega)).trans (set_same h3), by rw [hfz]; exact h4⟩
     · obtain rfl := Option.some.inj hj
       obtain ⟨h3, h4⟩ := hold 3 _ rfl
       exact ⟨set_same ((set_other _ _ _ _ _ (by omega)).trans h3), by rw [hfz]; exact h4⟩
     · obtain rfl := Option.some.inj hj
       obtain ⟨h3, h4⟩ := hold 4 _ rfl
       exact ⟨(set_other _ _ _ _ _ (by omega)).trans ((set_other _ _ _ _ _ (by omega)).trans h3), by rw [hfz]; exact h4⟩
 · refine ⟨cs, ?_, at_set (at_set k2 (.inl (by omega))) (.inl (by omega))⟩
   exact EntityC.mono (EntityC.fr k1 (hf.mono fun q hq => by unfold QE at hq; omega)) (fun q hq => by unfold QE at hq ⊢; omega)
end Go.Proofs.Ytebdajkknkapcaa
namespace Go.Proofs.Ytebdajkknkapcaa
open Go Go.RowKit
theorem Ks.cells {W w w' : World} {ks : List Kind} {b : Nat} (hb : b < W.heap.size) (hw : ∀ q, q ≠ b → w'.heap[q]? = w.heap[q]?) (hks : ∀ k ∈ ks, (∃ u, k = .val u) ∨ ∃ T size n xs, k = .own (IsRow W T size n xs) (IsRow.keep W T size n xs)) (i : Nat) (v : Value) (h : Ks W ks i v w) : Ks W ks i v w' := fun k hk => by
 have h1 := h k hk
 rcases hks k (List.mem_of_getElem? hk) with ⟨u, rfl⟩ | ⟨T, size, n, xs, rfl⟩
 · exact h1
 · exact own_same (show w.ownsRow W.heap.size T size v n xs from h1) (fun g hg => hw g (by have := ((show w.ownsRow W.heap.size T size v n xs from h1).lt _ hg).1; omega))
end Go.Proofs.Ytebdajkknkapcaa
namespace Go.Proofs.Ytebdajkknkapcaa
open Go Go.RowKit
theorem neg_bd {x : XLine} (h : lineBd x) (hm : midL x) : lineBd (negL x) := ⟨h.1, by have h1 := hm.1; have h2 := hm.2; show intBd (-x.amount); unfold intBd; omega, h.2.2⟩
set_option maxHeartbeats 4000000 in
theorem ropp_c (a ls : List XLine) (Aa Al : Option Addr) (ca cl : Nat) (w : World) (ha : ListC LineC 3 w (· < w.heap.size) [.slice Aa a.length ca] a) (hl : ListC LineC 3 w (· < w.heap.size) [.slice Al ls.length cl] ls) (hm : ∀ x ∈ ls, midL x) (hn : ls.length ≤ 1000) : Calls Try.prog 33 #[.slice Aa a.length ca, .slice Al ls.length cl] w (Quiet w (.bool (oppB a ls))) := by
 obtain ⟨ia, hia, hzia, hsia, hbia⟩ := info_parts info_lineA
 have HL := Lib.hid hl
 have HMD := Lib.hid hm
 have HA := Lib.hid ha
 obtain ⟨r, hr⟩ : ∃ r, oppB a ls = r := ⟨_, rfl⟩
 rw [hr]
 have HR := Lib.hid hr
 obtain ⟨na, hna⟩ : ∃ n, a.length = n := ⟨_, rfl⟩
 obtain ⟨nl, hnl⟩ : ∃ n, ls.length = n := ⟨_, rfl⟩
 have HN := Lib.hid hnl
 have HNA := Lib.hid hna
 rw [hnl] at hn
 rw [hna, hnl]
 clear hl hm hnl ha hr hna
 go_enter Try.func33, Try.ntmps33
 go_wp2_with fail
 go_loopw [5, 6] (fun v i wr => ∃ (k : Nat), k ≤ nl ∧ i = .int .i64 (k : Int) ∧ Below w.heap.size w wr ∧ wr.ownsRow w.heap.size 64 3 v k (((ls.take k).map negL).flatMap lineL)) (fun _ i _ => nl - (intOf i).toNat)
 case atStart => exact ⟨0, by omega, rfl, Below.refl _ _, World.ownsRow_nil _ _ _ _⟩
 case round =>
  obtain ⟨k, hk, rfl, hb, how⟩ := hrel
  have HOW := Lib.hid how
  have HBW := Lib.hid hb
  have hsz := hb.size
  by_cases hlt : k < nl
  case pos =>
   have hltI : (k : Int) < (nl : Int) := by omega
   have hkl : k < ls.length := by rw [HN.out]; exact hlt
   obtain ⟨b, o, es, hAe, hbw, hes, hat⟩ := ListC.get HL.out k hkl
   subst hAe
   have hes1 := (LineC.lit hes).1
   rw [hes1] at hat
   have hmd := HMD.out _ (List.getElem_mem hkl)
   have HST := Lib.hid (neg_step hkl)
   obtain ⟨x, hx⟩ : ∃ x, ls[k] = x := ⟨_, rfl⟩
   rw [hx] at hat hmd HST
   obtain ⟨la, lm, lp⟩ := x
   obtain ⟨hm1, hm2⟩ := hmd
   try simp only at hat hm1 hm2
   have HAR := Lib.hid ((hat.fr (Fr.ofBelow hb)).range)
   clear hes hes1 hat hx
   go_upto_region 6 with (show wpList _ _ _ (Oper.mk (some 17) _ _ _ _ _ :: _) _ _; refine wpList_load_mid rfl 64 (.tmp 16) rfl b (o + k * 3) rfl [.int .i64 la, .int .i64 lm, .int .i64 lp] _ HAR.out Try.underlying64 rfl info_line ?_)
   have H6 := heap_alloc_new wr (.cells #[.int .i64 la, .int .i64 lm, .int .i64 lp] 64)
   have HB6 := below1 wr (.cells #[.int .i64 la, .int .i64 lm, .int .i64 lp] 64)
   have HS6 : wr.heap.size < (wr.alloc (.cells #[.int .i64 la, .int .i64 lm, .int .i64 lp] 64)).heap.size := blk_lt H6
   have HOX := how.alloc (.cells #[.int .i64 la, .int .i64 lm, .int .i64 lp] 64)
   generalize hW6 : wr.alloc (Obj.cells #[.int .i64 la, .int .i64 lm, .int .i64 lp] 64) = W6 at *
   clear hW6
   have q1 := blk_cell H6 1
   have q2 := blk_frozen H6 1
   have HOX6 := Lib.hid HOX
   have HK6 := Lib.hid H6
   have hb6 := HB6
   clear H6 how HOX
   go_upto_region 7 with fail
   have H7 := heap_setCell_same HK6.out 1 (.int .i64 (-lm))
   have HB7 : Below wr.heap.size wr (W6.setCell ⟨wr.heap.size, 1, none⟩ (.int .i64 (-lm))) := HB6.setCell (p := ⟨wr.heap.size, 1, none⟩) (Nat.le_refl _) _
   have HO7 := own_same (w' := W6.setCell ⟨wr.heap.size, 1, none⟩ (.int .i64 (-lm))) HOX6.out (fun g hg => Below.heap_setCell W6 ⟨wr.heap.size, 1, none⟩ _ g (by show g ≠ wr.heap.size; have := (HOW.out.lt _ hg).2; omega))
   generalize W6.setCell ⟨wr.heap.size, 1, none⟩ (.int .i64 (-lm)) = W7 at *
   have HK7 := Lib.hid (show W7.heap[wr.heap.size]? = some (.cells #[.int .i64 la, .int .i64 (-lm), .int .i64 lp] 64 (0, 0)) from H7)
   have HOW7 := Lib.hid HO7
   have HBB7 := Lib.hid HB7
   have hsz7 := HB7.size
   clear H7 HO7 HB7 q1 q2
   go_wp2_with (first | (show wpList _ _ _ (Oper.mk (some 23) _ _ _ _ _ :: _) _ _; refine wpList_load_row_g rfl 64 (.tmp 7) rfl wr.heap.size rfl _ _ _ _ HK7.out Try.underlying64 rfl info_line ?_) | (at_builtin; go_loud (refine wpList_app _ rfl (.tmp 22) (.tmp 24) 40 rfl w.heap.size 64 ia _ 3 24 lines_uty hia hzia hsia hbia rfl (by decide) u5 k (((ls.take k).map negL).flatMap lineL) rfl (HOW7.out.alloc _) (fun _ => True) (some ⟨W7.heap.size, 0, none⟩) 1 1 [.int .i64 la, .int .i64 (-lm), .int .i64 lp] rfl (rd_new (heap_alloc_new _ _) rfl) (by simp [Value.oneCell']) (by simp only [maxLen]; omega) (by omega) (by simp; omega) ?_); intro v9 w9 hown9 hg9 hat9))
   go_roundw
   case rel =>
    refine ⟨k + 1, by omega, by go_num, ?_, ?_⟩
    · exact below_grown ((HBW.out.trans (HBB7.out.mono hsz)).alloc (by omega) _) hg9 (fun q hq => (HOW.out.lt _ hq).1) (Nat.le_refl _)
    · rw [HST.out]
      exact hown9
   case measure => first | exact meas_v hlt | (simp only [intOf]; omega)
  case neg =>
   have hltI : ¬ (k : Int) < (nl : Int) := by omega
   have hkn : k = nl := by omega
   subst hkn
   have hall : (ls.take k) = ls := List.take_of_length_le (by rw [HN.out]; omega)
   rw [hall] at how
   have hlc : ListC LineC 3 wr (· < wr.heap.size) [u5] (ls.map negL) := own_listL (base := w.heap.size) (by rw [List.length_map, HN.out]; exact how) (fun x hx => by
    obtain ⟨y, hy, rfl⟩ := List.mem_map.1 hx
    exact neg_bd (lines_bd HL.out y hy) (HMD.out y hy)) (fun g hg => (how.lt _ hg).2)
   obtain ⟨A9, c9, rfl⟩ : ∃ A9 c9, u5 = .slice A9 k c9 := by
    obtain ⟨A9, c9, e, _⟩ := hlc
    rw [List.length_map, HN.out] at e
    exact ⟨A9, c9, by simpa using e⟩
   have HSM := Lib.hid (same_c a (ls.map negL) Aa A9 ca c9 wr (lines_keep HA.out hb) (by rw [List.length_map, HN.out]; exact hlc))
   have hcall : Calls Try.prog 28 #[.slice Aa na ca, .slice A9 k c9] wr (Quiet wr (.bool r)) := by
    have h := HSM.out
    rw [List.length_map, HN.out, HNA.out, show decide (a = ls.map negL) = r from HR.out] at h
    exact h
   have HCALL := Lib.hid hcall
   clear how hall hlc hcall HSM
   go_wp2_with fail
   refine HCALL.out.mono ?_
   rintro e w9 ⟨rfl, hb9⟩
   go_wp2_with fail
   go_ret
   exact ⟨rfl, HBW.out.trans (hb9.mono hsz)⟩
end Go.Proofs.Ytebdajkknkapcaa
namespace Go.Proofs.Ytebdajkknkapcaa
open Go Go.RowKit
theorem JAt.below {w w' : World} {D O : Nat → Prop} {J : Nat} {g : XGroup} {es : List XEntry} {gl : List Value} {css : List (List Value)} {v : Value} {bi br : Nat} (h : JAt w D O J g es gl css v bi br) (hb : Below w.heap.size w w') : JAt w' D O J g es gl css v bi br :=
 h.fr ((Fr.ofBelow hb).mono fun q hq => hq.elim (h.ltD q) (h.ltO q))
theorem JAt.cell {w : World} {D O : Nat → Prop} {J : Nat} {g : XGroup} {es : List XEntry} {gl : List Value} {css : List (List Value)} {v : Value} {bi br : Nat} (h : JAt w D O J g es gl css v bi br) : w.cell? ⟨J, 21, none⟩ = some v ∧ w.cell? ⟨J, 22, none⟩ = some (.map (some bi)) ∧ w.cell? ⟨J, 23, none⟩ = some (.map (some br)) := by
 have hl := h.glen
 refine ⟨(blk_cell h.blk 21).trans ?_, (blk_cell h.blk 22).trans ?_, (blk_cell h.blk 23).trans ?_⟩ <;> simp [List.getElem?_append, hl]
end Go.Proofs.Ytebdajkknkapcaa
