/- Trial balances of an exchanged list, and of a list with a reversal: the plain law. -/
import Derived.Test.YtekelchdbkjjjaaG19xB0B3
import Derived.Test.YtekelchdbkjjjaaG19xB4B12
import Derived.Test.YtekelchdbkjjjaaG19xB13B14
import Derived.Test.YtekelchdbkjjjaaG19xB15S0
import Derived.Test.YtekelchdbkjjjaaG19xB21B27
import Derived.Test.YtekelchdbkjjjaaG19xB28S2
import Derived.Test.YtekelchdbkjjjaaG19xC4E3
import Derived.Test.YtekelchdbkjjjaaG19xE5H1
import Derived.Test.YtekelchdbkjjjaaG19xH2I7
import Derived.Test.YtekelchdbkjjjaaG19xI8I13
import Derived.Test.YtekelchdbkjjjaaG19xI14I15
import Derived.Test.YtekelchdbkjjjaaG19xI16
import Derived.Test.YtekelchdbkjjjaaG19xI19Q2
import Derived.Test.YtekelchdbkjjjaaG19xK1A7
import Derived.Test.YtekelchdbkjjjaaG19xA8A15
import Derived.Test.YtekelchdbkjjjaaProg
import Derived.Shelf.SlMaps.Clone
set_option linter.unusedVariables false
set_option linter.unusedSimpArgs false
set_option maxRecDepth 4000
attribute [local go_sem ↓] Go.wp_at_zero Go.wp_at_succ
namespace Go.Proofs.Ytekelchdbkjjjaa
open Go Go.RowKit
theorem chk_valid {g : XGroup} {l : List XEntry} {ent per acc r : Int} {ch : Bool} (h : BChk g l ent per acc ch r) (hr : r ≠ 1) : validJ g l ∧ r = chkR g ent per acc ch := h.elim (fun h => absurd h.2 hr) id
theorem chk_of {g : XGroup} {l m : List XEntry} {ent per acc r s : Int} {ch : Bool} (h : BChk g l ent per acc ch r) (k : BChk g m ent per acc ch s) (hr : r ≠ 1) (hv : validJ g m) : s = r := by
 obtain ⟨_, h2⟩ := chk_valid h hr
 rcases k with ⟨k1, _⟩ | ⟨_, k2⟩
 · exact absurd hv k1
 · rw [h2, k2]
theorem sumQ_neg (acc d e : Int) : ∀ l : List XLine, sumQ (qB d) acc e (l.map negL) = -sumQ (qB d) acc e l
 | [] => rfl
 | y :: l => by
  rw [List.map_cons, sumQ_cons, sumQ_cons, sumQ_neg acc d e l]
  unfold qB negL
  simp only
  by_cases h1 : y.account = acc <;> by_cases h2 : e ≤ d <;> simp only [h1, h2, if_true, if_false] <;> omega
theorem sum_reversed (m : List XEntry) (x : XEntry) (id d ent c : Int) : sumE (qB d) (m ++ [x] ++ [revE x id x.date]) ent c = sumE (qB d) m ent c := by
 rw [sumE_app, sumE_app, sumE_cons, sumE_nil, sumE_cons, sumE_nil]
 show sumE (qB d) m ent c + ((if x.entity = ent then sumQ (qB d) c x.date x.lines else 0) + 0) + ((if x.entity = ent then sumQ (qB d) c x.date (x.lines.map negL) else 0) + 0) = _
 rw [sumQ_neg]
 split <;> omega
theorem reversed_law {g : XGroup} {m : List XEntry} {x : XEntry} {id ent d per acc r s : Int} {ch : Bool} {ts us : List XBalance}
 (h1 : BChk g m ent per acc ch r) (h2 : BChk g (m ++ [x] ++ [revE x id x.date]) ent per acc ch s) (hs : s ≠ 1) (t1 : r = 0 → IsTri (fun c => sumE (qB d) m ent c) ts) (t2 : r ≠ 0 → ts = []) (u1 : s = 0 → IsTri (fun c => sumE (qB d) (m ++ [x] ++ [revE x id x.date]) ent c) us) (u2 : s ≠ 0 → us = []) : r = s ∧ ts = us := by
 obtain ⟨v1, v2⟩ := (chk_valid h2 hs).1
 have hv : validJ g m := ⟨v1, (okJ_snoc_inv (okJ_snoc_inv v2).1).1⟩
 have e := chk_of h2 h1 hs hv
 subst e
 refine ⟨rfl, ?_⟩
 by_cases h0 : r = 0
 · exact ((t1 h0).eqv fun c => (sum_reversed m x id d ent c).symm).uniq (u1 h0)
 · rw [t2 h0, u2 h0]
theorem info_bal : (Try.prog.info? 60).map (·.size) = some 2 := by kernel_rfl
theorem BalanceC.lit {w : World} {Q : Nat → Prop} {cs : List Value} {x : XBalance} (h : BalanceC w Q cs x) : cs = balL x ∧ intBd x.account ∧ intBd x.amount := by
 obtain ⟨c0, c1, rfl, ⟨rfl, h0⟩, ⟨rfl, h1⟩⟩ := h
 exact ⟨rfl, h0, h1⟩
set_option maxHeartbeats 2000000 in
theorem same08_c (ks : List XBalance) (A1 A2 : Option Addr) (c1 c2 : Nat) (w : World) (h1 : ListC BalanceC 2 w (· < w.heap.size) [.slice A1 ks.length c1] ks) (h2 : ListC BalanceC 2 w (· < w.heap.size) [.slice A2 ks.length c2] ks) : Calls Try.prog 8 #[.slice A1 ks.length c1, .slice A2 ks.length c2] w (Quiet w (.bool true)) := by
 have HL1 := Lib.hid h1
 have HL2 := Lib.hid h2
 have hcap1 := h1.cap
 have hcap2 := h2.cap
 unfold maxLen at hcap1 hcap2
 obtain ⟨n, hnl⟩ : ∃ n, ks.length = n := ⟨_, rfl⟩
 have HN := Lib.hid hnl
 rw [hnl] at hcap1 hcap2 ⊢
 clear h1 h2 hnl
 go_enter Try.func8, Try.ntmps8
 go_wp2_with fail
 go_loopw [5] (fun i wr => ∃ k : Nat, k ≤ n ∧ i = .int .i64 (k : Int) ∧ Below w.heap.size w wr) (fun i _ => n - (intOf i).toNat)
 case atStart => exact ⟨0, by omega, rfl, Below.refl _ _⟩
 case round =>
  obtain ⟨k, hk, rfl, hb⟩ := hrel
  by_cases hlt : k < n
  case pos =>
   have hltI : (k : Int) < (n : Int) := by omega
   have hltI2 : 0 < n := by omega
   have hkl : k < ks.length := by rw [HN.out]; exact hlt
   obtain ⟨b1, o1, cs1, hAe1, hbw1, hes1, hat1⟩ := ListC.get HL1.out k hkl
   obtain ⟨b2, o2, cs2, hAe2, hbw2, hes2, hat2⟩ := ListC.get HL2.out k hkl
   subst hAe1 hAe2
   have hcs1 : cs1 = balL ks[k] := hes1.lit.1
   have hcs2 : cs2 = balL ks[k] := hes2.lit.1
   subst hcs1 hcs2
   obtain ⟨x, hx⟩ : ∃ x, ks[k] = x := ⟨_, rfl⟩
   rw [hx] at hat1 hat2
   obtain ⟨xa, xb⟩ := x
   have hf1 := hat1.fr (Fr.ofBelow hb)
   have hf2 := hat2.fr (Fr.ofBelow hb)
   have HA1 := Lib.hid (show At wr (· < wr.heap.size) ⟨b1, o1 + k * 2, none⟩ [.int .i64 xa, .int .i64 xb] from hf1.mono (fun q hq => Nat.lt_of_lt_of_le hq hb.size))
   have HA2 := Lib.hid (show At wr (· < wr.heap.size) ⟨b2, o2 + k * 2, none⟩ [.int .i64 xa, .int .i64 xb] from hf2.mono (fun q hq => Nat.lt_of_lt_of_le hq hb.size))
   have HB8 := Lib.hid hb
   clear hes1 hes2 hat1 hat2 hx hbw1 hbw2 hf1 hf2 hb
   go_upto_region 6 with fail
   refine wp_region_inv (Ks wr [.val (.slice (some ⟨b1, o1, none⟩) n c1), .val (.int .i64 (k : Int)), .val (.pointer (some ⟨b1, o1 + k * 2, none⟩)), .val (.agg #[.int .i64 xa, .int .i64 xb]), .val (.slice (some ⟨b2, o2, none⟩) n c2), .val (.int .i64 (k : Int)), .val (.pointer (some ⟨b2, o2 + k * 2, none⟩)), .val (.agg #[.int .i64 xa, .int .i64 xb]), .val (.bool false)])
    (fun w' => Below wr.heap.size wr w') (by kernel_rfl) (by kernel_rfl) (by kernel_rfl) (Below.refl _ _).drew ?_ ?_
   · refine ⟨?_, ?_, ?_, ?_, ?_, ?_, ?_, ?_, ?_, trivial⟩
     · intro _ A0 w2 hI hd hnd K hK; have e0 := hI.q hnd 0; exact hI.z hK
     · intro _ A0 w2 hI hd hnd K hK; have e0 := hI.q hnd 5; exact hI.z hK
     · intro _ A0 w2 hI hd hnd K hK; have e0 := hI.p hd 0 17; have e1 := hI.p hd 1 18; exact hI.z hK
     · intro _ A0 w2 hI hd hnd K hK; have e0 := hI.p hd 2 19; have hS := hI.world; have hrange : w2.rangeAt b1 (o1 + k * 2) [.int .i64 xa, .int .i64 xb] := (HA1.out.fr (Fr.ofBelow hS)).range; have hisize := info_bal; refine wanted_go rfl ?_; clear hI hd hnd
       refine wp_load_mid 60 (.tmp 19) rfl _ _ (by simpa [Act.eval, Array.getD_eq_getD_getElem?] using e0) _ _ hrange Try.underlying60 rfl hisize ?_
       exact kq hK hS rfl
     · intro _ A0 w2 hI hd hnd K hK; have e0 := hI.q hnd 1; exact hI.z hK
     · intro _ A0 w2 hI hd hnd K hK; have e0 := hI.q hnd 5; exact hI.z hK
     · intro _ A0 w2 hI hd hnd K hK; have e0 := hI.p hd 4 21; have e1 := hI.p hd 5 22; exact hI.z hK
     · intro _ A0 w2 hI hd hnd K hK; have e0 := hI.p hd 6 23; have hS := hI.world; have hrange : w2.rangeAt b2 (o2 + k * 2) [.int .i64 xa, .int .i64 xb] := (HA2.out.fr (Fr.ofBelow hS)).range; have hisize := info_bal; refine wanted_go rfl ?_; clear hI hd hnd
       refine wp_load_mid 60 (.tmp 23) rfl _ _ (by simpa [Act.eval, Array.getD_eq_getD_getElem?] using e0) _ _ hrange Try.underlying60 rfl hisize ?_
       exact kq hK hS rfl
     · intro _ A0 w2 hI hd hnd K hK; have e0 := hI.p hd 3 20; have e1 := hI.p hd 7 24; exact hI.z hK
   · intro _ A0 w2 hI hall; have hS := hI.world; have c9 := hI.ch hall [17, 18, 19, 20, 21, 22, 23, 24, 25]; obtain ⟨x0, x1, x2, x3, x4, x5, x6, x7, x8, hA, hV⟩ := c9
     obtain rfl : x8 = .bool false := hV 8 _ _ rfl _ rfl
     clear hV hI hall
     simp only [setAll, List.foldl, List.setIfInBounds_toArray, List.set_cons_zero, List.set_cons_succ] at hA
     rw [hA]
     clear hA
     have HB9 := Lib.hid (HB8.out.trans (hS.mono HB8.out.size))
     clear hS
     go_wp2_with fail
     go_roundw
     case rel => exact ⟨k + 1, by omega, by go_num, HB9.out⟩
     case measure => first | exact meas_v hlt | (simp only [intOf]; omega)
  case neg =>
   have hltI : ¬ (k : Int) < (n : Int) := by omega
   go_wp2_with fail
   go_ret
   exact ⟨rfl, hb⟩
def RowsAt (w : World) (g : Nat) (R : List (List Value)) : Prop := ∀ (i : Nat) cs, R[i]? = some cs → At w (fun q => q = g) ⟨g, i * 7, none⟩ cs
theorem at_cells {w : World} {g o : Nat} {cs : List Value} (h : At w (fun q => q = g) ⟨g, o, none⟩ cs) (j : Nat) (u : Value) (hu : cs[j]? = some u) : w.cell? ⟨g, o + j, none⟩ = some u ∧ w.frozen? ⟨g, o + j, none⟩ = false := by
 have := h.2 j u hu
 rw [Addr.add_lit] at this
 exact this
theorem at_out {w : World} {g o o2 : Nat} {cs vs : List Value} (h : At w (fun q => q = g) ⟨g, o, none⟩ cs) (hap : o + cs.length ≤ o2 ∨ o2 + vs.length ≤ o) : At (w.setCells g o2 vs) (fun q => q = g) ⟨g, o, none⟩ cs := by
 refine ⟨rfl, fun j u hu => ?_⟩
 have hj : j < cs.length := (List.getElem?_eq_some_iff.1 hu).1
 have := at_cells h j u hu
 rw [Addr.add_lit, World.cell?_setCells_out g vs o2 w _ (fun _ _ => by show o + j < o2 ∨ o2 + vs.length ≤ o + j; omega), World.frozen?_setCells]
 exact this
theorem at_in {w : World} {g o : Nat} {cs vs : List Value} (h : At w (fun q => q = g) ⟨g, o, none⟩ cs) (hl : vs.length = cs.length) : At (w.setCells g o vs) (fun q => q = g) ⟨g, o, none⟩ vs := by
 refine ⟨rfl, fun j u hu => ?_⟩
 have hj : j < vs.length := (List.getElem?_eq_some_iff.1 hu).1
 have hs : ∀ j, j < vs.length → (w.cell? ⟨g, o + j, none⟩).isSome = true := fun j hj => by
  have := (at_cells h j cs[j] (List.getElem?_eq_getElem (by omega))).1
  rw [this]; rfl
 rw [Addr.add_lit, World.cell?_setCells_in g vs o w hs j hj, World.frozen?_setCells]
 have h2 := (at_cells h j cs[j] (List.getElem?_eq_getElem (by omega))).2
 rw [List.getElem?_eq_getElem hj] at hu
 exact ⟨hu, h2⟩
theorem RowsAt.set {w : World} {g i : Nat} {R : List (List Value)} {cs : List Value} (h : RowsAt w g R) (hR : ∀ r ∈ R, r.length = 7) (hi : i < R.length) (hc : cs.length = 7) : RowsAt (w.setCells g (i * 7) cs) g (R.set i cs) := by
 intro q r hr
 by_cases hq : q = i
 · subst hq
   rw [List.getElem?_set_self hi] at hr
   obtain rfl := Option.some.inj hr
   exact at_in (h q R[q] (List.getElem?_eq_getElem hi)) (by rw [hc, hR _ (List.getElem_mem hi)])
 · rw [List.getElem?_set_ne (fun e => hq e.symm)] at hr
   have hl : r.length = 7 := hR r (List.mem_of_getElem? hr)
   refine at_out (h q r hr) ?_
   rw [hl, hc]
   rcases Nat.lt_or_gt_of_ne hq with h1 | h1
   · exact .inl (by omega)
   · exact .inr (by omega)
theorem RowsAt.fr {w w' : World} {g : Nat} {R : List (List Value)} {Q : Nat → Prop} (h : RowsAt w g R) (hf : Fr Q w w') (hg : Q g) : RowsAt w' g R := fun i cs hi =>
 ((h i cs hi).mono (Q' := fun q => q = g ∧ Q q) (fun q hq => ⟨hq, by rw [hq]; exact hg⟩)).fr (hf.mono (fun q hq => hq.2)) |>.mono (fun q hq => hq.1)
end Go.Proofs.Ytekelchdbkjjjaa
namespace Go.Proofs.Ytekelchdbkjjjaa
open Go Go.RowKit Go.Shelf
/-! A region that draws, by an invariant with a word R on what has been done. -/
def Apart (i j di dj : Nat) (listed : Array Bool) (a : Act) (w : World) : Prop := Done listed i → Done listed j → a.tmps[di]?.getD undef ≠ a.tmps[dj]?.getD undef
theorem Apart.put {i j di dj k : Nat} {listed : Array Bool} {a : Act} {w w' : World} {o : Option Nat} {v : Value} (h : Apart i j di dj listed a w) (h1 : k ≠ i) (h2 : k ≠ j) (h3 : o ≠ some di) (h4 : o ≠ some dj) : Apart i j di dj (listed.setIfInBounds k true) (a.put o v) w' := fun d1 d2 => by
 have := h (d1.inv.resolve_left (fun e => h1 e.symm)) (d2.inv.resolve_left (fun e => h2 e.symm))
 cases o with
 | none => exact this
 | some d =>
  have e1 : d ≠ di := fun e => h3 (by rw [e])
  have e2 : d ≠ dj := fun e => h4 (by rw [e])
  simpa [Act.put, Array.getElem?_setIfInBounds, e1, e2] using this
theorem Apart.other {i j di dj k : Nat} {listed : Array Bool} {a : Act} {w : World} {o : Option Nat} {V : Nat → Value → World → Prop} {S : World → Prop} {K : Act → World → Prop} (h : Apart i j di dj listed a w) (h1 : k ≠ i) (h2 : k ≠ j) (h3 : o ≠ some di) (h4 : o ≠ some dj)
 (hK : Shut (∀ v w', S w' → V k v w' → (∀ j u, V j u w → V j u w') → Apart i j di dj (listed.setIfInBounds k true) (a.put o v) w' → K (a.put o v) w')) : Shut (∀ v w', S w' → V k v w' → (∀ j u, V j u w → V j u w') → K (a.put o v) w') :=
 fun v w' a1 a2 a3 => hK v w' a1 a2 a3 (h.put h1 h2 h3 h4)
theorem Done.dep {md : Region.Mode} {o : Oper} {listed : Array Bool} (hd : ∀ e ∈ o.after, Region.binds md e = true → Done listed e.on) (j : Nat) (h : (o.after.toList.any fun e => Region.binds md e && e.on == j) = true) : Done listed j := by
 simp only [List.any_eq_true, Bool.and_eq_true, beq_iff_eq] at h
 obtain ⟨e, he, hb, rfl⟩ := h
 exact hd e (by simpa using he) hb
def IsRwX (B n : Nat) (cf : List Value) (v : Value) (w : World) : Prop := w.ownsRow B 36 7 v n cf
theorem IsRwX.keep {B n : Nat} {cf : List Value} : ∀ v w w', Below w.heap.size w w' → IsRwX B n cf v w → IsRwX B n cf v w' := fun v w w' hb h => own_below h hb
def IsMo (B n : Nat) (f : Int → Option Int) (v : Value) (w : World) : Prop := ∃ b : Nat, v = .map (some b) ∧ MapO w b n f ∧ B ≤ b
theorem IsMo.keep {B n : Nat} {f : Int → Option Int} : ∀ v w w', Below w.heap.size w w' → IsMo B n f v w → IsMo B n f v w' := fun v w w' hb ⟨b, h1, h2, h3⟩ => ⟨b, h1, h2.below hb, h3⟩
theorem IsMo.ne {B n : Nat} {f : Int → Option Int} {v : Value} {w : World} (h : IsMo B n f v w) : Value.map (some w.heap.size) ≠ v := by
 obtain ⟨b, rfl, hm, _⟩ := h
 have := hm.lt
 intro e
 simp only [Value.map.injEq, Option.some.injEq] at e
 omega
def IsJb (B n : Nat) (cf : List Value) (fi fr : Int → Option Int) (gl : List Value) (u : Value) (w : World) : Prop := ∃ (cs : Array Value) (v : Value) (b2 b3 : Nat), u = .agg cs ∧ (gl ++ [v, .map (some b2), .map (some b3)]).toArray = cs ∧ IsRwX B n cf v w ∧ MapO w b2 n fi ∧ MapO w b3 n fr ∧ B ≤ b2 ∧ B ≤ b3 ∧ b2 ≠ b3
theorem IsJb.keep {B n : Nat} {cf : List Value} {fi fr : Int → Option Int} {gl : List Value} : ∀ v w w', Below w.heap.size w w' → IsJb B n cf fi fr gl v w → IsJb B n cf fi fr gl v w' := fun v w w' hb ⟨cs, u, b2, b3, h1, h2, h3, h4, h5, h6⟩ => ⟨cs, u, b2, b3, h1, h2, own_below h3 hb, h4.below hb, h5.below hb, h6⟩
def IsJx (B : Nat) (D : Nat → Prop) (g : XGroup) (es : List XEntry) (u : Value) (w : World) : Prop := ∃ (L : Nat) (O : Nat → Prop), u = .pointer (some ⟨L, 0, none⟩) ∧ JC w D O L g es ∧ ∀ q, O q → B ≤ q
theorem IsJx.keep {B : Nat} {D : Nat → Prop} {g : XGroup} {es : List XEntry} : ∀ v w w', Below w.heap.size w w' → IsJx B D g es v w → IsJx B D g es v w' := fun v w w' hb ⟨L, O, h1, h2, h3⟩ => ⟨L, O, h1, h2.below hb, h3⟩
structure JKeep (w : World) (D : Nat → Prop) (g : XGroup) (es : List XEntry) (gl : List Value) (css : List (List Value)) : Prop where
 grp : GroupC w D gl g
 len : css.length = es.length
 ent : ∀ (i : Nat) x, es[i]? = some x → ∃ cs, css[i]? = some cs ∧ EntryC w D cs x
 ltD : ∀ q, D q → q < w.heap.size
 ok : okJ g es
theorem own_type {w : World} {base q : Nat} {e : TypeId} {size n : Nat} {v : Value} {xs : List Value} (h : w.ownsRow base e size v n xs) (hq : v.ownBlock = some q) : ∃ cs fz, w.heap[q]? = some (.cells cs e fz) := by
 rcases h.2 with ⟨rfl, _⟩ | ⟨g, cap, cur, rfl, _, hg, _⟩
 · simp [Value.ownBlock] at hq
 · simp [Value.ownBlock] at hq
   subst hq
   exact ⟨_, _, hg⟩
theorem MapO.obj {w : World} {b n : Nat} {f : Int → Option Int} (h : MapO w b n f) : ∃ es c, w.heap[b]? = some (.map es c) := by
 obtain ⟨D, ⟨es, clock, h1, _⟩, _⟩ := h
 exact ⟨es, clock, h1⟩
theorem IsJx.made {w w2 : World} {D : Nat → Prop} {g : XGroup} {es : List XEntry} {gl : List Value} {css : List (List Value)} {cs : Array Value} {v : Value} {n b2 b3 : Nat} {cf : List Value} {fi fr : Int → Option Int} (hk : JKeep w D g es gl css) (hS : Below w.heap.size w w2)
 (hc : css.flatten = cf ∧ es.length = n ∧ (fun id => Option.map (fun k : Nat => (k : Int)) (idxE es id)) = fi ∧ revO es = fr) (hcs : (gl ++ [v, .map (some b2), .map (some b3)]).toArray = cs) (h1 : IsRwX w.heap.size n cf v w2) (hm2 : MapO w2 b2 n fi) (hm3 : MapO w2 b3 n fr) (hge2 : w.heap.size ≤ b2) (hge3 : w.heap.size ≤ b3) (hne : b2 ≠ b3) :
 IsJx w.heap.size D g es (.pointer (some ⟨w2.heap.size, 0, none⟩)) (w2.alloc (.cells cs 95)) := by
 obtain ⟨rfl, rfl, rfl, rfl⟩ := hc
 subst hcs
 have hb := below1 w2 (.cells (gl ++ [v, .map (some b2), .map (some b3)]).toArray 95)
 have hs := hS.size
 have l2 := hm2.lt
 have l3 := hm3.lt
 have hov : ∀ q, v.ownBlock = some q → w.heap.size ≤ q ∧ q < w2.heap.size := fun q hq => h1.lt q hq
 obtain ⟨ms2, mc2, o2⟩ := hm2.obj
 obtain ⟨ms3, mc3, o3⟩ := hm3.obj
 refine ⟨w2.heap.size, fun q => q = w2.heap.size ∨ q = b2 ∨ q = b3 ∨ v.ownBlock = some q, rfl, ⟨gl, css, v, b2, b3, ?_⟩, fun q hq => ?_⟩
 · exact {
    blk := heap_alloc_new w2 _
    grp := GroupC.fr (GroupC.fr hk.grp ((Fr.ofBelow hS).mono (fun q hq => hk.ltD q hq))) ((Fr.ofBelow hb).mono (fun q hq => Nat.lt_of_lt_of_le (hk.ltD q hq) hs))
    len := hk.len
    row := own_base (own_below h1 hb) (Nat.zero_le _)
    ent := fun i x hx => by
     obtain ⟨cs, k1, k2⟩ := hk.ent i x hx
     exact ⟨cs, k1, EntryC.fr (EntryC.fr k2 ((Fr.ofBelow hS).mono (fun q hq => hk.ltD q hq))) ((Fr.ofBelow hb).mono (fun q hq => Nat.lt_of_lt_of_le (hk.ltD q hq) hs))⟩
    idx := hm2.below hb
    rev := hm3.below hb
    oj := .inl rfl
    oi := .inr (.inl rfl)
    orr := .inr (.inr (.inl rfl))
    ov := fun q hq => .inr (.inr (.inr hq))
    ne1 := by omega
    ne2 := by omega
    ne3 := hne
    ne4 := fun q hq => by
     have hh := hov q hq
     obtain ⟨xs, fz, ho⟩ := own_type h1 hq
     refine ⟨by omega, fun e => ?_, fun e => ?_⟩
     · subst e; rw [o2] at ho; simp at ho
     · subst e; rw [o3] at ho; simp at ho
    dis := fun q h h' => by
     have := hk.ltD q h
     rcases h' with h' | h' | h' | h'
     · omega
     · omega
     · omega
     · have := hov q h'; omega
    ltD := fun q h => by have := hk.ltD q h; have := hb.size; omega
    ltO := fun q h' => by
     have hlt : w2.heap.size < (w2.alloc (.cells (gl ++ [v, .map (some b2), .map (some b3)]).toArray 95)).heap.size := by simp
     rcases h' with h' | h' | h' | h'
     · omega
     · omega
     · omega
     · have := hov q h'; omega
    ok := hk.ok }
 · rcases hq with h' | h' | h' | h'
   · omega
   · omega
   · omega
   · exact (hov q h').1
end Go.Proofs.Ytekelchdbkjjjaa
namespace Go.Proofs.Ytekelchdbkjjjaa
open Go Go.RowKit
def IC (w : World) (p : Addr) : Prop := ∃ z : Int, w.cell? p = some (.int .i64 z) ∧ w.frozen? p = false
theorem IC.set {w : World} {p q : Addr} {z : Int} (hp : IC w p) (hq : IC w q) : IC (w.setCell q (.int .i64 z)) p := by
 obtain ⟨a, h1, h2⟩ := hp
 obtain ⟨b, h3, h4⟩ := hq
 by_cases e : q = p
 · subst e
   exact ⟨z, World.cell?_setCell_same _ _ _ h1, (World.frozen?_setCell _ _ _ _).trans h2⟩
 · exact ⟨a, (World.cell?_setCell_other _ _ _ _ e).trans h1, (World.frozen?_setCell _ _ _ _).trans h2⟩
theorem At.ic {w : World} {Q : Nat → Prop} {b o j : Nat} {cs : List Value} {z : Int} (h : At w Q ⟨b, o, none⟩ cs) (hj : cs[j]? = some (.int .i64 z)) : IC w ⟨b, o + j, none⟩ := by
 have h2 := h.2 j _ hj
 have e : (⟨b, o, none⟩ : Addr).add j = ⟨b, o + j, none⟩ := by
  unfold Addr.add
  split
  · rename_i h0; subst h0; rfl
  · rfl
 rw [e] at h2
 exact ⟨z, h2⟩
def RowI (A : Option Addr) (g n : Nat) (w : World) : Prop := ∀ k, k < n → A = some ⟨g, 0, none⟩ ∧ IC w ⟨g, k * 3 + 1, none⟩
theorem RowI.set {A : Option Addr} {g n k : Nat} {w : World} {z : Int} (h : RowI A g n w) (hk : k < n) : RowI A g n (w.setCell ⟨g, k * 3 + 1, none⟩ (.int .i64 z)) := fun j hj => ⟨(h j hj).1, (h j hj).2.set (h k hk).2⟩
def ShowAt (B : Nat) (A : Option Addr) (es : List XEntry) (w : World) : Prop := ∀ (i : Nat) x, es[i]? = some x → ∃ b o Al cl, A = some ⟨b, o, none⟩ ∧ w.cell? ⟨b, o + i * 7 + 6, none⟩ = some (.slice Al x.lines.length cl) ∧
 ∀ k, k < x.lines.length → ∃ bl ol, Al = some ⟨bl, ol, none⟩ ∧ B ≤ bl ∧ bl ≠ b ∧ IC w ⟨bl, ol + k * 3 + 1, none⟩
theorem ShowAt.set {B : Nat} {A : Option Addr} {es : List XEntry} {w : World} {q : Addr} {z : Int} (h : ShowAt B A es w) (hq : IC w q) (hb : ∀ b o, A = some ⟨b, o, none⟩ → q.block ≠ b) : ShowAt B A es (w.setCell q (.int .i64 z)) := fun i x hx => by
 obtain ⟨b, o, Al, cl, h1, h2, h3⟩ := h i x hx
 refine ⟨b, o, Al, cl, h1, (World.cell?_setCell_far _ _ _ _ (hb b o h1)).trans h2, fun k hk => ?_⟩
 obtain ⟨bl, ol, k1, k2, k3, k4⟩ := h3 k hk
 exact ⟨bl, ol, k1, k2, k3, k4.set hq⟩
theorem OutN.shown {B : Nat} {A : Option Addr} {c : Nat} {es : List XEntry} {w : World} (h : OutN B es (.slice A es.length c) w) : ShowAt B A es w := fun i x hx => by
 obtain ⟨css, h1, h2, h3, h4⟩ := h
 obtain ⟨cs, hc, hE⟩ := h4 i x hx
 rcases h2.2 with ⟨he, h0⟩ | ⟨g, cap, cur, he, hb, hg, _⟩
 · have : es = [] := List.eq_nil_of_length_eq_zero h0
   subst this
   simp at hx
 · simp only [Value.slice.injEq] at he
   obtain ⟨rfl, _, rfl⟩ := he
   obtain ⟨Al, cl, rfl, _, hl⟩ := hE.lit
   have hat := At.flat h3 0 (own_at (Q := fun _ => True) h2 trivial) i _ hc
   refine ⟨g, 0, Al, cl, rfl, (hat.2 6 _ rfl).1, fun k hk => ?_⟩
   obtain ⟨bl, ol, cl2, hA, hQ, hL, hA2⟩ := ListC.get hl k hk
   obtain ⟨rfl, _⟩ := LineC.lit hL
   exact ⟨bl, ol, hA, hQ.1.1, fun e => hQ.2 (by rw [e]; rfl), hA2.ic (j := 1) rfl⟩
theorem ListC.take {α : Type} {El : World → (Nat → Prop) → List Value → α → Prop} {size : Nat} {w : World} {Q : Nat → Prop} {A : Option Addr} {c m : Nat} {l : List α} (h : ListC El size w Q [.slice A l.length c] l) (hm : m ≤ l.length) : ListC El size w Q [.slice A (l.take m).length c] (l.take m) := by
 obtain ⟨A', c', he, h1, h2, h3⟩ := h
 simp only [List.cons.injEq, and_true, Value.slice.injEq] at he
 obtain ⟨rfl, _, rfl⟩ := he
 have hl : (l.take m).length = m := by rw [List.length_take]; omega
 refine ⟨_, _, rfl, by omega, h2, fun hp => ?_⟩
 obtain ⟨b, o, hA, hQ, hx⟩ := h3 (by omega)
 refine ⟨b, o, hA, hQ, fun i x hi => hx i x ?_⟩
 have him : i < m := by
  have := (List.getElem?_eq_some_iff.1 hi).1
  omega
 rw [List.getElem?_take_of_lt him] at hi
 exact hi
theorem fewJ.take {g : XGroup} {l : List XEntry} (h : fewJ g l) (m : Nat) : fewJ g (l.take m) := ⟨fun x hx => h.1 x (List.mem_of_mem_take hx), by have := h.2.1; rw [List.length_take]; omega, h.2.2⟩
def IsPd (B : Nat) (g : XGroup) (l : List XEntry) (v : Value) (w : World) : Prop := v = .tuple #[.pointer none, .slice none 0 0, .bool true] ∨
 ∃ (J : Nat) (D O : Nat → Prop) (A : Option Addr) (c : Nat), v = .tuple #[.pointer (some ⟨J, 0, none⟩), .slice A (accJ g l).length c, .bool true] ∧ JC w D O J g (accJ g l) ∧ (∀ q, D q ∨ O q → B ≤ q) ∧ ListC EntryC 7 w (fun q => q < w.heap.size ∧ ¬ (D q ∨ O q)) [.slice A (accJ g l).length c] (accJ g l)
theorem IsPd.keep {B : Nat} {g : XGroup} {l : List XEntry} : ∀ v w w', Below w.heap.size w w' → IsPd B g l v w → IsPd B g l v w' := fun v w w' hb h => by
 rcases h with h | ⟨J, D, O, A, c, h1, h2, h3, h4⟩
 · exact .inl h
 · have hf : Fr (fun q => q < w.heap.size ∧ ¬ (D q ∨ O q)) w w' := (Fr.ofBelow hb).mono (fun q hq => hq.1)
   exact .inr ⟨J, D, O, A, c, h1, h2.below hb, h3, (h4.fr (fun h => EntryC.fr h hf) hf).mono (fun h => EntryC.mono h (fun q hq => ⟨Nat.lt_of_lt_of_le hq.1 hb.size, hq.2⟩)) (fun q hq => ⟨Nat.lt_of_lt_of_le hq.1 hb.size, hq.2⟩)⟩
theorem IsPd.of {g : XGroup} {l : List XEntry} {w0 w w' : World} {e : Ending} (h : PostedPost g l w e w') (hB : w0.heap.size ≤ w.heap.size) : ∃ v, e = .returned v ∧ IsPd w0.heap.size g l v w' ∧ Below w.heap.size w w' := by
 obtain ⟨hb, ⟨_, rfl⟩ | ⟨_, J, D, O, A, c, rfl, h1, h2, h3⟩⟩ := h
 · exact ⟨_, rfl, .inl rfl, hb⟩
 · exact ⟨_, rfl, .inr ⟨J, D, O, A, c, rfl, h1, fun q hq => Nat.le_trans hB (h2 q hq), h3⟩, hb⟩
section
variable {P : Program} {w : World}
theorem wp_app_made2 {o : Oper} {a : Act} {K : Act → World → Prop} {Q' : Exit → Act → World → Prop} (s x : Operand) (t : TypeId)
 (ho : o.op = .call { callee := .builtin .append, args := #[s, x], argTypes := #[t, t] })
 (base : Nat) (e : TypeId) (i : TypeInfo) (z : Value) (size bytes : Nat) (ht : P.underlying t = some (.slice e)) (hi : P.info? e = some i) (hz : i.zero = some z)
 (hsize : i.size = size) (hby : i.bytes = bytes) (hzs : z.cells.size = size) (hsz : 0 < size)
 (g : Nat) (hs : a.eval s = .slice (some ⟨g, 0, none⟩) 0 0) (hg : w.heap[g]? = some (.cells #[] e (0, 0))) (hgb : base ≤ g)
 (Q : Nat → Prop) (A : Option Addr) (m c : Nat) (news : List Value) (hx : a.eval x = .slice A m c) (hr : Rd w Q A m size news) (h1 : ∀ u ∈ news, u.oneCell' = true)
 (h63 : m ≤ maxLen) (hbytes : m * bytes ≤ 140737488355328) (hbase : base ≤ w.heap.size)
 (h : ∀ v' w', w'.ownsRow base e size v' m news → Below w.heap.size w w' → K (a.put o.dst v') w') : o.wp P a w K Q' := by
 rcases Nat.eq_zero_or_pos m with h0 | hm
 · subst h0
   have hn : news = [] := List.eq_nil_of_length_eq_zero (by simpa using hr.1)
   subst hn
   have hown : w.ownsRow base e size (.slice (some ⟨g, 0, none⟩) 0 0) 0 [] := ⟨by simp, .inr ⟨g, 0, #[], rfl, hgb, hg, Nat.le_refl _, by simp [maxLen], by simp, by simp⟩⟩
   have hrun : (Builtin.append_ #[t, t] o.type #[.slice (some ⟨g, 0, none⟩) 0 0, .slice A 0 c]).run P w = .ok (.slice (some ⟨g, 0, none⟩) 0 0) w := by
    cases A with
    | none => exact run_app_none w base t o.type e i size ht hi _ 0 [] hown c
    | some ad =>
     have := run_append_room_cells (P := P) w t o.type e i ht hi g 0 0 0 ad 0 c [] (by simp) (by simp) (by simp) (Nat.le_refl _) (by simp) (by simp)
     simpa [World.setCells] using this
   unfold Oper.wp execOp
   simp only [ho, resolve, invoke, builtin, Sem.run_bind, Sem.run_pure, Result.andThen_ok, List.map_toArray, List.map_cons, List.map_nil, hs, hx, hrun]
   exact h _ w hown (Below.refl _ _)
 · exact wp_app_made w s x t ho base e i z size bytes ht hi hz hsize hby hzs hsz g hs hg hgb Q A m c news hx hr h1 hm h63 hbytes hbase h
end
def IsMdX (B : Nat) (v : Value) (w : World) : Prop := ∃ g, v = .slice (some ⟨g, 0, none⟩) 0 0 ∧ B ≤ g ∧ w.heap[g]? = some (.cells #[] 36 (0, 0))
theorem IsMdX.keep {B : Nat} : ∀ v w w', Below w.heap.size w w' → IsMdX B v w → IsMdX B v w' := fun v w w' hb ⟨g, e, h1, h2⟩ => ⟨g, e, h1, (hb.block g (blk_lt h2)).trans h2⟩
theorem IsMdX.made {B : Nat} {w : World} (h : B ≤ w.heap.size) : IsMdX B (.slice (some ⟨w.heap.size, 0, none⟩) 0 0) (w.alloc (.cells #[] 36)) := ⟨_, rfl, h, heap_alloc_new _ _⟩
def IsOneX (B : Nat) (cs : List Value) (v : Value) (w : World) : Prop := ∃ g, v = .slice (some ⟨g, 0, none⟩) 1 1 ∧ B ≤ g ∧ w.heap[g]? = some (.cells cs.toArray 36 (0, 0))
theorem IsOneX.keep {B : Nat} {cs : List Value} : ∀ v w w', Below w.heap.size w w' → IsOneX B cs v w → IsOneX B cs v w' := fun v w w' hb ⟨g, e, h1, h2⟩ => ⟨g, e, h1, (hb.block g (blk_lt h2)).trans h2⟩
theorem IsOneX.rd {B : Nat} {cs : List Value} {g : Nat} {w : World} (hc : cs.length = 7) (h : w.heap[g]? = some (.cells cs.toArray 36 (0, 0))) {Q : Nat → Prop} (hQ : Q g) : Rd w Q (some ⟨g, 0, none⟩) 1 7 cs := ⟨by omega, fun _ => ⟨_, rfl, hQ, (box_at (cs := cs) h).2⟩⟩
theorem wpAny_takeD {P : Program} {md : Region.Mode} {ops : Array Oper} {Q : Exit → Act → World → Prop} {i d : Nat} {oi : Oper} {v : Value} {fuel : Nat} {listed : Array Bool} {a : Act} {w : World} (hi : ops[i]? = some oi) (hd : oi.dst = some d)
 (hs : Region.noSelect ops = true) (hf : Region.free md ops listed i = true) (hr : (Region.ready md ops listed).contains i = true)
 (hQ : ∀ c a w, Q (.panic c) (a.put oi.dst v) w → Q (.panic c) a w) (hy : Yields P ops oi v a)
 (h : wpAny P md ops Q fuel (listed.setIfInBounds i true) (a.put (some d) v) w) : wpAny P md ops Q (fuel + 1) listed a w :=
 wpAny_take hi hs hf hr hQ hy (by rw [hd]; exact h)
theorem RowI.fr {A : Option Addr} {g n : Nat} {w w' : World} {Q : Nat → Prop} (h : RowI A g n w) (hf : Fr Q w w') (hg : Q g) : RowI A g n w' := fun k hk => by
 obtain ⟨h1, z, h2, h3⟩ := h k hk
 exact ⟨h1, z, (hf.cell (p := ⟨g, k * 3 + 1, none⟩) hg).trans h2, (hf.frozen (p := ⟨g, k * 3 + 1, none⟩) hg).trans h3⟩
def IsRv (B : Nat) (nid xe xd xi : Int) (xt : ByteArray) (nl : Nat) (ms : List XLine) (v : Value) (w : World) : Prop := ∃ (Ar : Option Addr) (cr : Nat), v = .agg #[.int .i64 nid, .int .i64 xe, .int .i64 xd, .int .i64 3, .int .i64 xi, .string xt, .slice Ar nl cr] ∧ w.ownsRow B 49 3 (.slice Ar nl cr) nl (ms.flatMap lineL)
theorem IsRv.keep {B : Nat} {nid xe xd xi : Int} {xt : ByteArray} {nl : Nat} {ms : List XLine} : ∀ v w w', Below w.heap.size w w' → IsRv B nid xe xd xi xt nl ms v w → IsRv B nid xe xd xi xt nl ms v w' := fun v w w' hb ⟨Ar, cr, e, h⟩ => ⟨Ar, cr, e, own_below h hb⟩
def IsRo (B : Nat) (nid xe xd xi : Int) (xt : ByteArray) (nl : Nat) (ms : List XLine) (v : Value) (w : World) : Prop := ∃ (g : Nat) (Ar : Option Addr) (cr : Nat), v = .slice (some ⟨g, 0, none⟩) 1 1 ∧ B ≤ g ∧ w.heap[g]? = some (.cells #[.int .i64 nid, .int .i64 xe, .int .i64 xd, .int .i64 3, .int .i64 xi, .string xt, .slice Ar nl cr] 36 (0, 0)) ∧ w.ownsRow B 49 3 (.slice Ar nl cr) nl (ms.flatMap lineL)
theorem IsRo.keep {B : Nat} {nid xe xd xi : Int} {xt : ByteArray} {nl : Nat} {ms : List XLine} : ∀ v w w', Below w.heap.size w w' → IsRo B nid xe xd xi xt nl ms v w → IsRo B nid xe xd xi xt nl ms v w' := fun v w w' hb ⟨g, Ar, cr, e, h1, h2, h⟩ => ⟨g, Ar, cr, e, h1, (hb.block g (blk_lt h2)).trans h2, own_below h hb⟩
def IsTr (g : XGroup) (l : List XEntry) (ent d : Int) (v : Value) (w : World) : Prop := ∃ (r : Int) (A' : Option Addr) (c' : Nat) (ts : List XBalance), v = .tuple #[.slice A' ts.length c', .int .i64 r] ∧ BChk g l ent (-4611686018427387904) 0 false r ∧ (r = 0 → IsTri (fun c => sumE (qB d) l ent c) ts) ∧ (r ≠ 0 → ts = []) ∧ ts.length ≤ 100000 ∧ ListC BalanceC 2 w (· < w.heap.size) [.slice A' ts.length c'] ts
theorem IsTr.keep {g : XGroup} {l : List XEntry} {ent d : Int} : ∀ v w w', Below w.heap.size w w' → IsTr g l ent d v w → IsTr g l ent d v w' := fun v w w' hb ⟨r, A, c, ts, h1, h2, h3, h4, h5, h6⟩ => ⟨r, A, c, ts, h1, h2, h3, h4, h5, (ListC.fr h6 (fun h => BalanceC.fr h (Fr.ofBelow hb)) (Fr.ofBelow hb)).mono (fun h => BalanceC.mono h (fun q hq => Nat.lt_of_lt_of_le hq hb.size)) (fun q hq => Nat.lt_of_lt_of_le hq hb.size)⟩
theorem IsTr.of {g : XGroup} {l : List XEntry} {ent d : Int} {w w' : World} {e : Ending} (h : TriPost g l ent d w e w') : ∃ v, e = .returned v ∧ IsTr g l ent d v w' ∧ Below w.heap.size w w' := by
 obtain ⟨r, A, c, ts, h1, h2, h3, h4, h5, h6, h7⟩ := h
 exact ⟨_, h1, ⟨r, A, c, ts, rfl, h2, h3, h4, h5, h6⟩, h7⟩
theorem own_apart {w : World} {B B' : Nat} {T T' : TypeId} {s s' n n' : Nat} {v v' : Value} {xs xs' : List Value} (h : w.ownsRow B T s v n xs) (h' : w.ownsRow B' T' s' v' n' xs') (hT : T ≠ T') : v.ownBlock = none ∨ v.ownBlock ≠ v'.ownBlock := by
 rcases h.2 with ⟨e, _⟩ | ⟨g, cap, cur, e, _, h2, _⟩
 · subst e; exact .inl rfl
 · refine .inr fun e2 => ?_
   subst e
   rcases h'.2 with ⟨e', _⟩ | ⟨g', cap', cur', e', _, h2', _⟩
   · subst e'; simp [Value.ownBlock] at e2
   · subst e'
     simp [Value.ownBlock] at e2
     subst e2
     rw [h2] at h2'
     simp at h2'
     exact hT h2'.2
set_option maxHeartbeats 16000000 in
theorem law_ledgerReversed (g : XGroup) (l : List XEntry) (gl : List Value) (A : Option Addr) (c : Nat) (a0 a1 a2 : Int) (w : World) (hg : GroupC w (· < w.heap.size) gl g) (hsz : szG g) (hl : ListC EntryC 7 w (· < w.heap.size) [.slice A l.length c] l) (hab : intBd a0 ∧ intBd a1 ∧ intBd a2) (hts : ∀ x ∈ l, x.text.size ≤ 140737488355327) : Calls Try.prog 4 #[.agg gl.toArray, .slice A l.length c, .agg #[.int .i64 a0, .int .i64 a1, .int .i64 a2]] w (Quiet w (.bool true)) := by
 obtain ⟨ib, hib, hzib, hsib, hbib⟩ := info_parts info_entryA
 have HGI := Lib.hid (show (Try.prog.info? 29).map (·.size) = some gl.length by rw [info_group, hg.len])
 have HFEW := Lib.hid (fun (w2 : World) (hb : Below w.heap.size w w2) => few12_c g l gl A c w2 (hg.keep hb) hsz (entries_keep hl hb) hts)
 have HGS := Lib.hid (show gl.toArray.size = 21 by have := hg.len; simpa using this)
 have HG := Lib.hid hg
 have HL := Lib.hid hl
 obtain ⟨n, hnl⟩ : ∃ n, l.length = n := ⟨_, rfl⟩
 rw [hnl] at HFEW ⊢
 obtain ⟨fw, hfw⟩ : ∃ p : Prop, fewJ g l = p := ⟨_, rfl⟩
 rw [hfw] at HFEW
 have HFWE := Lib.hid hfw
 have HN := Lib.hid hnl
 clear hg hsz hl hts hnl hfw hab
 go_enter Try.func4, Try.ntmps4
 go_upto_region 1 with fail
 have H := heap_alloc_new w (.cells gl.toArray 29)
 have HB := below1 w (.cells gl.toArray 29)
 have HS := blk_lt H
 generalize hW : w.alloc (Obj.cells gl.toArray 29) = W at *
 have H2 := heap_alloc_new W (.cells #[.int .i64 a0, .int .i64 a1, .int .i64 a2] 31)
 have HB2 := below1 W (.cells #[.int .i64 a0, .int .i64 a1, .int .i64 a2] 31)
 have HS2 := blk_lt H2
 replace H := alloc_keep H (Obj.cells #[.int .i64 a0, .int .i64 a1, .int .i64 a2] 31)
 generalize hW2 : W.alloc (Obj.cells #[.int .i64 a0, .int .i64 a1, .int .i64 a2] 31) = W2 at *
 clear hW2
 have eW : W.heap.size = w.heap.size + 1 := by rw [← hW]; simp
 rw [eW] at H2
 clear hW
 have hb2 := HB.trans (HB2.mono HB.size)
 have hs2 := HB2.size
 have LT1 := blk_lt H2
 have LT0 : w.heap.size < W2.heap.size := by omega
 have HH := Lib.hid H
 have HZ := Lib.hid H2
 have EW := Lib.hid eW
 clear H H2 eW
 have hb02 := hb2
 have LT02 := LT0
 have LT12 := LT1
 have HH2 := HH
 have HZ2 := HZ
 go_wp2_with fail
 refine (awake14_c W2).mono ?_
 rintro e w3 ⟨rfl, hb3⟩
 have hb03 := hb02.trans (hb3.mono hb02.size)
 have hs3 := hb3.size
 have LT03 := Nat.lt_of_lt_of_le LT02 hs3
 have LT13 := Nat.lt_of_lt_of_le LT12 hs3
 have HH3 := Lib.hid ((hb3.block _ LT02).trans HH2.out)
 have HZ3 := Lib.hid ((hb3.block _ LT12).trans HZ2.out)
 go_wp2_with (show wpList _ _ _ (Oper.mk (some 16) _ _ _ _ _ :: _) _ _; refine wpList_load_row_g rfl 29 (.tmp 3) rfl (w.heap.size) rfl _ _ _ _ HH3.out Try.underlying29 rfl (by rw [info_group]; exact congrArg some HGS.out.symm) ?_)
 refine (HFEW.out w3 hb03).mono ?_
 rintro e w4 ⟨bf, rfl, hf, hb4⟩
 have hb04 := hb03.trans (hb4.mono hb03.size)
 have hs4 := hb4.size
 have LT04 := Nat.lt_of_lt_of_le LT03 hs4
 have LT14 := Nat.lt_of_lt_of_le LT13 hs4
 have HH4 := Lib.hid ((hb4.block _ LT03).trans HH3.out)
 have HZ4 := Lib.hid ((hb4.block _ LT13).trans HZ3.out)
 cases bf with
 | false =>
  clear hf
  go_wp2_with fail
  go_ret
  exact ⟨rfl, hb04⟩
 | true =>
 have HFP := Lib.hid (show fewJ g l from HFWE.out ▸ hf rfl)
 clear hf
 by_cases hn0 : n = 0
 case pos =>
  have hn2d : ((n : Int) == 0) = true := by simp [hn0]
  clear hn0
  go_wp2_with fail
  go_ret
  exact ⟨rfl, hb04⟩
 case neg =>
 have hn2d : ((n : Int) == 0) = false := by simp [hn0]
 by_cases hn58 : 58 < n
 case pos =>
  have hn58d : decide ((n : Int) > 58) = true := decide_eq_true (by omega)
  have hn58e : decide (58 < (n : Int)) = true := decide_eq_true (by omega)
  clear hn58
  go_wp2_with fail
  go_ret
  exact ⟨rfl, hb04⟩
 case neg =>
 have hn58d : decide ((n : Int) > 58) = false := decide_eq_false (by omega)
 have hn58e : decide (58 < (n : Int)) = false := decide_eq_false (by omega)
 obtain ⟨m, hm⟩ : ∃ m, n = m + 1 := ⟨n - 1, by omega⟩
 have hmI : (n : Int) - 1 = (m : Int) := by omega
 have HMI := Lib.hid hmI
 have HNM := Lib.hid hm
 have H58 := Lib.hid (show n ≤ 58 by omega)
 have HWM := Lib.hid (show IntKind.i64.wrap (m : Int) = (m : Int) by have := H58.out; rw [IntKind.wrap_i64]; omega)
 have HML := Lib.hid (show (m : Int) < (n : Int) by omega)
 have hwm := HWM.out
 have hml := HML.out
 clear hm hn58
 go_upto_region 5 with fail
 clear hn2d hn58d hn58e hn0
 have hkl : m < l.length := by rw [HN.out]; have := HNM.out; omega
 obtain ⟨b, o, ex0, hAe, hbw, hxc, hxa⟩ := ListC.get HL.out m hkl
 subst hAe
 have hxm : l[m] ∈ l := List.getElem_mem hkl
 obtain ⟨x, hx⟩ : ∃ x, l[m] = x := ⟨_, rfl⟩
 have HLX := Lib.hid (show l.take m ++ [x] = l by
  rw [← hx]
  conv => rhs; rw [← List.take_append_drop m l, List.drop_eq_getElem_cons hkl, List.drop_eq_nil_of_le (by rw [HN.out]; have := HNM.out; omega)])
 rw [hx] at hxc hxm
 have HFX := Lib.hid (HFP.out.1 x hxm)
 obtain ⟨Al, cl, hxs, hxb, hls⟩ := EntryC.lit hxc
 subst hxs
 have HXB := Lib.hid hxb
 have HLS := Lib.hid hls
 obtain ⟨xi, xe, xd, xk, xo, xt, ls⟩ := x
 simp only at hxa HXB HLS HFX
 obtain ⟨nl, hnl⟩ : ∃ n, ls.length = n := ⟨_, rfl⟩
 have HNL := Lib.hid hnl
 rw [hnl] at hxa
 have HAR := Lib.hid (hxa.fr (Fr.ofBelow hb04)).range
 have HBL := Lib.hid hbw
 have HMC := Lib.hid (show m ≤ c by have := HL.out.cap; have := HN.out; have := HNM.out; omega)
 have HMN := Lib.hid (show m ≤ n by have := HNM.out; omega)
 clear hxc hls hxb hxa hnl hx hxm hkl hbw
 go_upto_region 6 with (first | (show wpList _ _ _ (Oper.mk (some 35) _ _ _ _ _ :: _) _ _; refine wpList_load_mid rfl 36 (.tmp 34) rfl b (o + m * 7) rfl [.int .i64 xi, .int .i64 xe, .int .i64 xd, .int .i64 xk, .int .i64 xo, .string xt, .slice Al nl cl] _ HAR.out Try.underlying36 rfl info_entry ?_) | (show wpList _ _ _ (Oper.mk none (Op.store _ (Operand.tmp 7) _) _ _ _ _ :: _) _ _; refine wpList_store_fresh3 rfl 36 (.tmp 7) (.tmp 35) rfl rfl w4 #[.int .i64 0, .int .i64 0, .int .i64 0, .int .i64 0, .int .i64 0, .string ⟨#[]⟩, .slice none 0 0] 36 #[.int .i64 xi, .int .i64 xe, .int .i64 xd, .int .i64 xk, .int .i64 xo, .string xt, .slice Al nl cl] rfl rfl rfl info_entry rfl (by simp [Value.oneCell']) ?_; intro w6 H6 hb6 HS6))
 have HX6 := Lib.hid H6
 have LTX6 := HS6
 have hb06 := hb04.trans (hb6.mono hb04.size)
 have hs6 := hb6.size
 have LT06 := Nat.lt_of_lt_of_le LT04 hs6
 have LT16 := Nat.lt_of_lt_of_le LT14 hs6
 have HH6 := Lib.hid ((hb6.block _ LT04).trans HH4.out)
 have HZ6 := Lib.hid ((hb6.block _ LT14).trans HZ4.out)
 have HL6 := Lib.hid (fun (wr : World) (hb : Below w6.heap.size w6 wr) => entries_keep HL.out (hb06.trans (hb.mono hb06.size)))
 clear H6 hmI hwm hml
 go_wp2_with fail
 go_loopw [8] (fun i wr => ∃ q : Nat, i = .int .i64 ((q : Int) + 1) ∧ Below w6.heap.size w6 wr ∧ ∀ j : Nat, 1 ≤ j → j ≤ q → ∃ y ∈ l, y.id = (j : Int)) (fun i _ => n + 2 - (intOf i).toNat)
 case atStart => exact ⟨0, rfl, Below.refl _ _, fun j h1 h2 => by omega⟩
 case round =>
  obtain ⟨q, rfl, hb7, hall⟩ := hrel
  have hqn : q ≤ n := by rw [← HN.out]; exact pigeon 0 q l (fun j h1 h2 => hall j (by omega) (by omega))
  have HALL := Lib.hid hall
  have h58 := H58.out
  have hgt := rget_c l (some ⟨b, o, none⟩) c ((q : Int) + 1) wr (HL6.out wr hb7)
  rw [HN.out] at hgt
  obtain ⟨gi, hgi⟩ : ∃ gi, getI l ((q : Int) + 1) = gi := ⟨_, rfl⟩
  have HGE := Lib.hid (getI_ge (es := l) (id := (q : Int) + 1))
  rw [hgi] at hgt HGE
  have HGT := Lib.hid hgt
  clear hgt hgi hall
  go_wp2_with fail
  refine HGT.out.mono ?_
  rintro e w8 ⟨rfl, hb8⟩
  replace hb8 := hb7.trans (hb8.mono hb7.size)
  rcases HGE.out with ⟨h1, hy⟩ | ⟨h1, hnew⟩
  case inl =>
   have HY := Lib.hid hy
   have h1d : decide (gi ≥ 0) = true := decide_eq_true h1
   have h1e : decide (0 ≤ gi) = true := decide_eq_true h1
   clear h1 hy
   go_wp2_with fail
   go_roundw
   case rel =>
    refine ⟨q + 1, congrArg (Value.int IntKind.i64) (show (q : Int) + 1 + 1 = ((q + 1 : Nat) : Int) + 1 by omega), hb8, fun j h1 h2 => ?_⟩
    rcases Nat.lt_or_ge j (q + 1) with h3 | h3
    · exact HALL.out j h1 (by omega)
    · have : j = q + 1 := by omega
      subst this
      obtain ⟨y, hy, hyd⟩ := HY.out
      exact ⟨y, hy, by rw [hyd]; omega⟩
   case measure => exact meas_m hqn (Nat.le_trans H58.out (by decide))
  case inr =>
  have h1d : decide (gi ≥ 0) = false := decide_eq_false (by omega)
  have h1e : decide (0 ≤ gi) = false := decide_eq_false (by omega)
  clear h1 hnew
  have hb08 := hb06.trans (hb8.mono hb06.size)
  have hs8 := hb8.size
  have LT08 := Nat.lt_of_lt_of_le LT06 hs8
  have LT18 := Nat.lt_of_lt_of_le LT16 hs8
  have HH8 := Lib.hid ((hb8.block _ LT06).trans HH6.out)
  have HZ8 := Lib.hid ((hb8.block _ LT16).trans HZ6.out)
  have HX8 := Lib.hid ((hb8.block _ LTX6).trans HX6.out)
  have LTX8 := Nat.lt_of_lt_of_le LTX6 hs8
  obtain ⟨nid, hnid⟩ : ∃ z : Int, (q : Int) + 1 = z := ⟨_, rfl⟩
  rw [hnid]
  have HIB := Lib.hid (show intBd nid by rw [← hnid]; unfold intBd; have := H58.out; omega)
  obtain ⟨ms, hms⟩ : ∃ ms, ls.map negL = ms := ⟨_, rfl⟩
  have HMS := Lib.hid hms
  have HLN := Lib.hid (show nl ≤ 60 by rw [← HNL.out]; exact HFX.out.1)
  have HRV := Lib.hid (fun (w2 : World) (hb : Below w8.heap.size w8 w2) => show Calls Try.prog 10 #[.agg #[.int .i64 xi, .int .i64 xe, .int .i64 xd, .int .i64 xk, .int .i64 xo, .string xt, .slice Al nl cl], .int .i64 nid, .int .i64 xd] w2 (fun e w' => ∃ v, e = .returned v ∧ IsRv w8.heap.size nid xe xd xi xt nl ms v w' ∧ Below w2.heap.size w2 w') by
   have h := rreverse_o xi xe xd xk xo xt ls Al cl nid xd w2 (lines_keep HLS.out (hb08.trans (hb.mono hb08.size))) (fun y hy => by have := HFX.out.2.2 y hy; unfold midL; omega) (by have h : ls.length ≤ 60 := HFX.out.1; omega)
   rw [HNL.out] at h
   refine h.mono ?_
   rintro e w' ⟨Ar, cr, he, hor, _, hbr⟩
   simp only at he hor
   rw [HNL.out, HMS.out] at hor
   rw [HNL.out] at he
   exact ⟨_, he, ⟨Ar, cr, rfl, own_base hor hb.size⟩, hbr⟩)
  obtain ⟨css, hcl, hc7, hcE, hrd⟩ := rd_css (fun cs x h => EntryC.len h) (by omega) (entries_keep HL.out hb08)
  rw [HN.out] at hrd
  have HONE := Lib.hid (css_one (fun _ _ h => entry_one h) hcl hcE)
  have HCL := Lib.hid (And.intro hcl (And.intro hc7 hcE))
  obtain ⟨F9, hF9⟩ : ∃ F, css.flatten = F := ⟨_, rfl⟩
  rw [hF9] at hrd HONE
  have HRD := Lib.hid hrd
  have HF9 := Lib.hid hF9
  have HLM := Lib.hid (show n ≤ maxLen by have := H58.out; unfold maxLen; omega)
  have HLB := Lib.hid (show n * 80 ≤ 140737488355328 by have := H58.out; omega)
  have HXD2 := Lib.hid (show w8.cell? ⟨w4.heap.size, 2, none⟩ = some (.int .i64 xd) from blk_cell HX8.out 2)
  have HXL := Lib.hid LTX8
  have HATX := Lib.hid (show At w8 (· < w8.heap.size) ⟨w4.heap.size, 0, none⟩ [.int .i64 xi, .int .i64 xe, .int .i64 xd, .int .i64 xk, .int .i64 xo, .string xt, .slice Al nl cl] from ⟨LTX8, (box_at (cs := [.int .i64 xi, .int .i64 xe, .int .i64 xd, .int .i64 xk, .int .i64 xo, .string xt, .slice Al nl cl]) HX8.out).2⟩)
  have HBL8 := Lib.hid (Nat.lt_of_lt_of_le HBL.out hb08.size)
  clear hcl hc7 hcE hrd hF9 hnid hms hb7 hqn h58
  go_upto_region 9 with fail
  clear h1d h1e
  refine wp_region_inv3 9 (Ks w8 [.own (IsMdX w8.heap.size) (IsMdX.keep), .val (.slice (some ⟨b, o, none⟩) n c), .own (IsRwX w8.heap.size n F9) (IsRwX.keep), .val (.agg #[.int .i64 xi, .int .i64 xe, .int .i64 xd, .int .i64 xk, .int .i64 xo, .string xt, .slice Al nl cl]), .val (.int .i64 nid), .val (.pointer (some ⟨w4.heap.size, 2, none⟩)), .val (.int .i64 xd), .own (IsRv w8.heap.size nid xe xd xi xt nl ms) (IsRv.keep), .own (IsRo w8.heap.size nid xe xd xi xt nl ms) (IsRo.keep)])
   (fun w' => Below w8.heap.size w8 w') (by kernel_rfl) (by kernel_rfl) (by kernel_rfl) (by decide) (by kernel_rfl) (by kernel_rfl) (by kernel_rfl) (Below.refl _ _).drew ?_ ?_
  · refine ⟨?_, ?_, ?_, ?_, ?_, ?_, ?_, ?_, ?_, trivial⟩
    · intro _ A0 w2 hI hd hnd K hK; have hS := hI.world; refine wanted_go rfl ?_; clear hI hd hnd; go_simp
      exact hK.out _ _ (hS.alloc hS.size _) (Ks.of rfl (IsMdX.made hS.size)) (Ks.keep (below1 w2 _))
    · intro _ A0 w2 hI hd hnd K hK; have e0 := hI.q hnd 1; exact hI.z hK
    · intro _ A0 w2 hI hd hnd K hK
      obtain ⟨x0, e0, h0⟩ := hI.dep hd 0 42 rfl rfl rfl (by kernel_rfl)
      have e1 := hI.p hd 1 43; have hS := hI.world
      obtain ⟨g5, rfl, hg1, hg2⟩ := h0
      refine wanted_go rfl ?_; clear hI hd hnd
      refine wp_app_made2 (w := w2) (.tmp 42) (.tmp 43) 30 rfl w8.heap.size 36 ib _ 7 80 entries_uty hib hzib hsib hbib rfl (by decide) g5 (by simpa [Act.eval, Array.getD_eq_getD_getElem?] using e0) hg2 hg1 (· < w8.heap.size) (some ⟨b, o, none⟩) n c F9 (by simpa [Act.eval, Array.getD_eq_getD_getElem?] using e1) (HRD.out.fr (Fr.ofBelow hS)) HONE.out HLM.out HLB.out hS.size ?_
      intro v9 w9 hown9 hb9
      exact hK.out _ _ (hS.trans (hb9.mono hS.size)) (Ks.of rfl hown9) (Ks.keep hb9)
    · intro _ A0 w2 hI hd hnd K hK; have e0 := hI.q hnd 7; have hS := hI.world; have hrange : w2.rangeAt w4.heap.size 0 [.int .i64 xi, .int .i64 xe, .int .i64 xd, .int .i64 xk, .int .i64 xo, .string xt, .slice Al nl cl] := (HATX.out.fr (Fr.ofBelow hS)).range; have hisize := info_entry; refine wanted_go rfl ?_; clear hI hd hnd
      refine wp_load_mid 36 (.tmp 7) rfl _ _ (by simpa [Act.eval, Array.getD_eq_getD_getElem?] using e0) _ _ hrange Try.underlying36 rfl hisize ?_
      exact kq hK hS rfl
    · intro _ A0 w2 hI hd hnd K hK; have e0 := hI.q hnd 8; exact hI.z hK
    · intro _ A0 w2 hI hd hnd K hK; have e0 := hI.q hnd 7; exact hI.z hK
    · intro _ A0 w2 hI hd hnd K hK; have e0 := hI.p hd 5 47; have hS := hI.world; have hcc : w2.cell? ⟨w4.heap.size, 2, none⟩ = _ := (hS.cell (p := ⟨w4.heap.size, 2, none⟩) HXL.out).trans HXD2.out; exact hI.z hK
    · intro _ A0 w2 hI hd hnd K hK; have e0 := hI.p hd 3 45; have e1 := hI.p hd 4 46; have e2 := hI.p hd 6 48; have hS := hI.world; refine wanted_go rfl ?_; clear hI hd hnd; go_simp
      go_at_call 10
      refine (HRV.out w2 hS).mono ?_
      rintro e w3 hp
      obtain ⟨v, rfl, hv, h3⟩ := hp
      exact hK.out _ _ (hS.trans (h3.mono hS.size)) (Ks.of rfl hv) (Ks.keep h3)
    · intro _ A0 w2 hI hd hnd K hK
      obtain ⟨x0, e0, h0⟩ := hI.dep hd 7 49 rfl rfl rfl (by kernel_rfl)
      have hS := hI.world
      obtain ⟨Ar, cr, rfl, hl7⟩ := h0
      refine wanted_go rfl ?_; clear hI hd hnd; go_simp
      exact hK.out _ _ (hS.alloc hS.size _) (Ks.of rfl ⟨_, _, _, rfl, hS.size, heap_alloc_new _ _, own_below hl7 (below1 w2 _)⟩) (Ks.keep (below1 w2 _))
  · intro A0 w2 hI
    obtain ⟨x0, g0, h0⟩ := hI.got 0 _ 42 rfl rfl rfl
    obtain ⟨x1, g1, h1⟩ := hI.got 1 _ 43 rfl rfl rfl
    obtain ⟨x2, g2, h2⟩ := hI.got 2 _ 44 rfl rfl rfl
    obtain ⟨x3, g3, h3⟩ := hI.got 3 _ 45 rfl rfl rfl
    obtain ⟨x4, g4, h4⟩ := hI.got 4 _ 46 rfl rfl rfl
    obtain ⟨x5, g5, h5⟩ := hI.got 5 _ 47 rfl rfl rfl
    obtain ⟨x6, g6, h6⟩ := hI.got 6 _ 48 rfl rfl rfl
    obtain ⟨x7, g7, h7⟩ := hI.got 7 _ 49 rfl rfl rfl
    obtain ⟨x8, g8, h8⟩ := hI.got 8 _ 50 rfl rfl rfl
    have hS := hI.world
    obtain ⟨y51, o51⟩ : ∃ v, A0.tmps[51]? = some v := ⟨_, hI.oldHead 51 (by kernel_rfl)⟩
    obtain ⟨y9, o9⟩ : ∃ v, A0.tmps[9]? = some v := ⟨_, hI.oldHead 9 (by kernel_rfl)⟩
    have hA : A0 = _ := hI.tmps [(42, x0), (43, x1), (44, x2), (45, x3), (46, x4), (47, x5), (48, x6), (49, x7), (50, x8), (51, y51), (9, y9)] (by simp only [List.mem_cons, List.not_mem_nil, or_false, forall_eq_or_imp, forall_eq]; exact ⟨g0, g1, g2, g3, g4, g5, g6, g7, g8, o51, o9⟩) (by kernel_rfl)
    have k2 : (IsRwX w8.heap.size n F9) x2 w2 := h2 _ rfl
    have k8 : (IsRo w8.heap.size nid xe xd xi xt nl ms) x8 w2 := h8 _ rfl
    clear h0 g0 h1 g1 h2 g2 h3 g3 h4 g4 h5 g5 h6 g6 h7 g7 h8 g8 o51 o9 hI
    simp only [setAll, List.foldl, List.setIfInBounds_toArray, List.set_cons_zero, List.set_cons_succ] at hA
    rw [hA]
    clear hA
    simp only [List.drop_succ_cons, List.drop_zero]
    obtain ⟨gO, Ar, cr, rfl, hgO1, hgO2, hlr⟩ := k8
    have K2 := Lib.hid (show w2.ownsRow w8.heap.size 36 7 x2 n F9 from k2)
    clear k2
    refine wpList_app _ rfl (.tmp 44) (.tmp 50) 30 rfl w8.heap.size 36 ib _ 7 80 entries_uty hib hzib hsib hbib rfl (by decide) x2 n F9 rfl K2.out (fun _ => True) (some ⟨gO, 0, none⟩) 1 1 [.int .i64 nid, .int .i64 xe, .int .i64 xd, .int .i64 3, .int .i64 xi, .string xt, .slice Ar nl cr] rfl (IsOneX.rd (B := 0) rfl hgO2 trivial) (by simp [Value.oneCell']) (by simp only [maxLen]; have := H58.out; omega) (by have := H58.out; omega) hS.size ?_
    intro v9 w10 hown10 hg10 hq10
    have hor10 : w10.ownsRow w8.heap.size 49 3 (.slice Ar nl cr) nl (ms.flatMap lineL) := hlr.kept hg10 (own_apart hlr K2.out (by decide))
    have hb10 : Below w8.heap.size w8 w10 := below_grown hS hg10 (fun q hq => (K2.out.lt _ hq).1) (Nat.le_refl _)
    obtain ⟨YE, hYE⟩ : ∃ y, revE ⟨xi, xe, xd, xk, xo, xt, ls⟩ nid xd = y := ⟨_, rfl⟩
    have HYE := Lib.hid hYE
    have hyc : EntryC w10 (· < w10.heap.size) [.int .i64 nid, .int .i64 xe, .int .i64 xd, .int .i64 3, .int .i64 xi, .string xt, .slice Ar nl cr] YE := by
     rw [← hYE]
     have h := EntryC.mk (w := w10) (Q := fun q => q < w10.heap.size) (x := revE ⟨xi, xe, xd, xk, xo, xt, ls⟩ nid xd) (A := Ar) (c := cr) ⟨HIB.out, HXB.out.2.1, HXB.out.2.2.1, by show intBd 3; unfold intBd; omega, HXB.out.1⟩ (by
      show ListC LineC 3 w10 _ [.slice Ar (ls.map negL).length cr] (ls.map negL)
      have hml : (ls.map negL).length = nl := by rw [List.length_map]; exact HNL.out
      refine own_listL (base := w8.heap.size) (by rw [hml, HMS.out]; exact hor10) (fun y hy => ?_) (fun q hq => by rw [hml] at hq; exact (hor10.lt q hq).2)
      obtain ⟨z, hz, rfl⟩ := List.mem_map.1 hy
      have hb := lines_bd HLS.out z hz
      have hm := HFX.out.2.2 z hz
      exact ⟨hb.1, by show intBd (-z.amount); unfold intBd; omega, hb.2.2⟩)
     have e : (revE ⟨xi, xe, xd, xk, xo, xt, ls⟩ nid xd).lines.length = nl := by rw [← HNL.out]; exact List.length_map ..
     rw [e] at h
     exact h
    have hown16 : w10.ownsRow w8.heap.size 36 7 v9 (l ++ [YE]).length (css ++ [([.int .i64 nid, .int .i64 xe, .int .i64 xd, .int .i64 3, .int .i64 xi, .string xt, .slice Ar nl cr] : List Value)]).flatten := by
     rw [List.length_append, List.length_singleton, HN.out, List.flatten_append, HF9.out]
     simpa using hown10
    have hl10 : ListC EntryC 7 w10 (· < w10.heap.size) [v9] (l ++ [YE]) := own_list (css := css ++ [([.int .i64 nid, .int .i64 xe, .int .i64 xd, .int .i64 3, .int .i64 xi, .string xt, .slice Ar nl cr] : List Value)]) (fun cs hc => by
     rcases List.mem_append.1 hc with hc | hc
     · exact HCL.out.2.1 cs hc
     · rw [List.mem_singleton] at hc
       subst hc
       rfl) hown16 (fun i x hx => by
     rcases Nat.lt_or_ge i l.length with hi | hi
     · rw [List.getElem?_append_left hi] at hx
       obtain ⟨cs, k1, k2⟩ := HCL.out.2.2 i x hx
       exact ⟨cs, by rw [List.getElem?_append_left (by rw [HCL.out.1]; exact hi)]; exact k1, k2.keep hb10⟩
     · rw [List.getElem?_append_right hi] at hx
       have hi0 : i - l.length = 0 := by
        rcases Nat.eq_zero_or_pos (i - l.length) with h | h
        · exact h
        · rw [List.getElem?_eq_none (by simp; omega)] at hx
          simp at hx
       rw [hi0] at hx
       simp at hx
       subst hx
       exact ⟨[.int .i64 nid, .int .i64 xe, .int .i64 xd, .int .i64 3, .int .i64 xi, .string xt, .slice Ar nl cr], by rw [List.getElem?_append_right (by rw [HCL.out.1]; exact hi), HCL.out.1, hi0]; rfl, hyc⟩) (fun q hq => (hown16.lt q hq).2)
    obtain ⟨N1, hN1⟩ : ∃ k, n + 1 = k := ⟨_, rfl⟩
    have HN1 := Lib.hid (show (l ++ [YE]).length = N1 by rw [← hN1, List.length_append, List.length_singleton, HN.out])
    have HN1B := Lib.hid (show N1 ≤ 59 by have := H58.out; omega)
    obtain ⟨A10, c10, rfl⟩ : ∃ A c, v9 = .slice A N1 c := by
     obtain ⟨A, n', c', rfl⟩ := own_shape hown16
     have e := own_val hown16
     rw [HN1.out] at e
     exact ⟨A, c', by rw [e]⟩
    rw [← HN1.out] at hl10
    have HL10 := Lib.hid hl10
    have HMO := Lib.hid (show modest (l ++ [YE]) from ⟨fun x hx => by
     rcases List.mem_append.1 hx with hx | hx
     · exact (few_modest HFP.out).1 x hx
     · rw [List.mem_singleton] at hx
       rw [hx, ← HYE.out]
       refine ⟨by have := HFX.out.2.1; show xt.size ≤ _; exact Nat.le_trans this (by decide), ?_⟩
       show (ls.map negL).length ≤ _
       rw [List.length_map]
       exact Nat.le_trans HFX.out.1 (by decide), by rw [HN1.out]; exact Nat.le_trans HN1B.out (by decide)⟩)
    rw [HN1.out] at hl10
    clear hYE hyc hown16 hl10 hN1 hown10 hg10 hor10 hlr hgO2 hgO1 hS hq10
    have hb010 := hb08.trans (hb10.mono hb08.size)
    have hs10 := hb10.size
    have LT010 := Nat.lt_of_lt_of_le LT08 hs10
    have LT110 := Nat.lt_of_lt_of_le LT18 hs10
    have HH10 := Lib.hid ((hb10.block _ LT08).trans HH8.out)
    have HZ10 := Lib.hid ((hb10.block _ LT18).trans HZ8.out)
    have HATG := Lib.hid (show At w10 (· < w10.heap.size) ⟨w.heap.size, 0, none⟩ gl from ⟨LT010, (box_at (cs := gl) HH10.out).2⟩)
    have HP1 := Lib.hid (show w10.cell? ⟨w.heap.size + 1, 1, none⟩ = some (.int .i64 a1) from blk_cell HZ10.out 1)
    have HP2 := Lib.hid (show w10.cell? ⟨w.heap.size + 1, 2, none⟩ = some (.int .i64 a2) from blk_cell HZ10.out 2)
    have HPL := Lib.hid LT110
    have HTR := Lib.hid (fun (w2 : World) (hb : Below w10.heap.size w10 w2) => show Calls Try.prog 7 #[.agg gl.toArray, .slice (some ⟨b, o, none⟩) m c, .int .i64 a1, .int .i64 a2] w2 (TriPost g (l.take m) a1 a2 w2) by
     have hf := HFP.out.take m
     have hln : (l.take m).length = m := by rw [List.length_take, HN.out]; exact Nat.min_eq_left HMN.out
     have h := trial_c g (l.take m) gl (some ⟨b, o, none⟩) c a1 a2 w2 (HG.out.keep (hb010.trans (hb.mono hb010.size))) (entries_keep (HL.out.take (by rw [HN.out]; exact HMN.out)) (hb010.trans (hb.mono hb010.size))) hf.2.2.small (few_modest hf) (by rw [hln]; exact Nat.le_trans HMN.out (Nat.le_trans H58.out (by decide)))
     rwa [hln] at h)
    have HTM := Lib.hid (fun (w2 : World) (hb : Below w10.heap.size w10 w2) => show Calls Try.prog 7 #[.agg gl.toArray, .slice A10 N1 c10, .int .i64 a1, .int .i64 a2] w2 (TriPost g (l ++ [YE]) a1 a2 w2) by
     have h := trial_c g (l ++ [YE]) gl A10 c10 a1 a2 w2 (HG.out.keep (hb010.trans (hb.mono hb010.size))) (entries_keep HL10.out hb) HFP.out.2.2.small HMO.out (by rw [HN1.out]; exact Nat.le_trans HN1B.out (by decide))
     rwa [HN1.out] at h)
    go_upto_region 10 with fail
    refine wp_region_inv2' 11 (Ks w10 [.val (.agg gl.toArray), .val (.slice (some ⟨b, o, none⟩) n c), .val (.slice (some ⟨b, o, none⟩) n c), .val (.int .i64 (n : Int)), .val (.int .i64 (m : Int)), .val (.slice (some ⟨b, o, none⟩) m c), .val (.pointer (some ⟨w.heap.size + 1, 1, none⟩)), .val (.int .i64 a1), .val (.pointer (some ⟨w.heap.size + 1, 2, none⟩)), .val (.int .i64 a2), .own (IsTr g (l.take m) a1 a2) (IsTr.keep)])
     (fun w' => Below w10.heap.size w10 w') (by kernel_rfl) (by kernel_rfl) (by kernel_rfl) (by decide) (by kernel_rfl) (by kernel_rfl) (Below.refl _ _).drew ?_ ?_
    · refine ⟨?_, ?_, ?_, ?_, ?_, ?_, ?_, ?_, ?_, ?_, ?_, trivial⟩
      · intro _ A0 w2 hI hd hnd K hK; have e0 := hI.q hnd 3; have hS := hI.world; have hrange : w2.rangeAt w.heap.size 0 gl := (HATG.out.fr (Fr.ofBelow hS)).range
        have hisize := HGI.out
        refine wanted_go rfl ?_; clear hI hd hnd
        refine wp_load_mid 29 (.tmp 3) rfl _ _ (by simpa [Act.eval, Array.getD_eq_getD_getElem?] using e0) _ _ hrange Try.underlying29 rfl hisize ?_
        exact kq hK hS rfl
      iterate 2 (· intro _ A0 w2 hI hd hnd K hK; have e0 := hI.q hnd 1; exact hI.z hK)
      · intro _ A0 w2 hI hd hnd K hK; have e0 := hI.p hd 2 55; exact hI.z hK
      · intro _ A0 w2 hI hd hnd K hK; have e0 := hI.p hd 3 56; have hS := hI.world
        have hmI := HMI.out
        have hwm := HWM.out
        exact hI.z hK
      · intro _ A0 w2 hI hd hnd K hK; have e0 := hI.p hd 1 54; have e1 := hI.p hd 4 57; have hS := hI.world
        have hmn := HMN.out
        have hmc := HMC.out
        exact hI.z hK
      · intro _ A0 w2 hI hd hnd K hK; have e0 := hI.q hnd 5; exact hI.z hK
      · intro _ A0 w2 hI hd hnd K hK; have e0 := hI.p hd 6 59; have hS := hI.world; have hcc : w2.cell? ⟨w.heap.size + 1, 1, none⟩ = _ := (hS.cell (p := ⟨w.heap.size + 1, 1, none⟩) HPL.out).trans HP1.out; exact hI.z hK
      · intro _ A0 w2 hI hd hnd K hK; have e0 := hI.q hnd 5; exact hI.z hK
      · intro _ A0 w2 hI hd hnd K hK; have e0 := hI.p hd 8 61; have hS := hI.world; have hcc : w2.cell? ⟨w.heap.size + 1, 2, none⟩ = _ := (hS.cell (p := ⟨w.heap.size + 1, 2, none⟩) HPL.out).trans HP2.out; exact hI.z hK
      · intro _ A0 w2 hI hd hnd K hK; have e0 := hI.p hd 0 53; have e1 := hI.p hd 5 58; have e2 := hI.p hd 7 60; have e3 := hI.p hd 9 62; have hS := hI.world; refine wanted_go rfl ?_; clear hI hd hnd; go_simp
        go_at_call 7
        refine (HTR.out w2 hS).mono ?_
        rintro e w3 hp
        obtain ⟨v, rfl, hv, h3⟩ := IsTr.of hp
        exact hK.out _ _ (hS.trans (h3.mono hS.size)) (Ks.of rfl hv) (Ks.keep h3)
    · intro f A0 w2 hI
      obtain ⟨x0, g0, h0⟩ := hI.got 0 _ 53 rfl rfl rfl
      obtain ⟨x1, g1, h1⟩ := hI.got 1 _ 54 rfl rfl rfl
      obtain ⟨x2, g2, h2⟩ := hI.got 2 _ 55 rfl rfl rfl
      obtain ⟨x3, g3, h3⟩ := hI.got 3 _ 56 rfl rfl rfl
      obtain ⟨x4, g4, h4⟩ := hI.got 4 _ 57 rfl rfl rfl
      obtain ⟨x5, g5, h5⟩ := hI.got 5 _ 58 rfl rfl rfl
      obtain ⟨x6, g6, h6⟩ := hI.got 6 _ 59 rfl rfl rfl
      obtain ⟨x7, g7, h7⟩ := hI.got 7 _ 60 rfl rfl rfl
      obtain ⟨x8, g8, h8⟩ := hI.got 8 _ 61 rfl rfl rfl
      obtain ⟨x9, g9, h9⟩ := hI.got 9 _ 62 rfl rfl rfl
      obtain ⟨x10, g10, h10⟩ := hI.got 10 _ 63 rfl rfl rfl
      have hS := hI.world
      obtain ⟨y52, o52⟩ : ∃ v, A0.tmps[52]? = some v := ⟨_, hI.oldHead 52 (by kernel_rfl)⟩
      obtain ⟨y64, o64⟩ : ∃ v, A0.tmps[64]? = some v := ⟨_, hI.oldHead 64 (by kernel_rfl)⟩
      obtain ⟨y65, o65⟩ : ∃ v, A0.tmps[65]? = some v := ⟨_, hI.oldHead 65 (by kernel_rfl)⟩
      obtain ⟨y10, o10⟩ : ∃ v, A0.tmps[10]? = some v := ⟨_, hI.oldHead 10 (by kernel_rfl)⟩
      obtain ⟨y11, o11⟩ : ∃ v, A0.tmps[11]? = some v := ⟨_, hI.oldHead 11 (by kernel_rfl)⟩
      have hA : A0 = _ := hI.tmps [(53, x0), (54, x1), (55, x2), (56, x3), (57, x4), (58, x5), (59, x6), (60, x7), (61, x8), (62, x9), (63, x10), (52, y52), (64, y64), (65, y65), (10, y10), (11, y11)] (by simp only [List.mem_cons, List.not_mem_nil, or_false, forall_eq_or_imp, forall_eq]; exact ⟨g0, g1, g2, g3, g4, g5, g6, g7, g8, g9, g10, o52, o64, o65, o10, o11⟩) (by kernel_rfl)
      have k10 : (IsTr g (l.take m) a1 a2) x10 w2 := h10 _ rfl
      clear h0 g0 h1 g1 h2 g2 h3 g3 h4 g4 h5 g5 h6 g6 h7 g7 h8 g8 h9 g9 h10 g10 o52 o64 o65 o10 o11 hI
      simp only [setAll, List.foldl, List.setIfInBounds_toArray, List.set_cons_zero, List.set_cons_succ] at hA
      rw [hA]
      clear hA
      obtain ⟨r, A1, c1, ts, rfl, hr, ht1, ht2, htl, hlc⟩ := k10
      have hb11 := hS
      show wpAny _ _ _ _ (f + 5) _ _ _
      refine wpAny_takeD (i := 11) (d := 52) (v := ?_) rfl rfl (by kernel_rfl) (by kernel_rfl) (by kernel_rfl) (fun _ _ _ h => h) (Or.inl ⟨by rfl, ?_⟩) ?_
      rotate_left
      · intro w; go_simp; (try with_reducible rfl)
      simp only [Act.put, List.setIfInBounds_toArray, List.set_cons_zero, List.set_cons_succ]
      refine wpAny_takeD (i := 12) (d := 64) (v := ?_) rfl rfl (by kernel_rfl) (by kernel_rfl) (by kernel_rfl) (fun _ _ _ h => h) (Or.inl ⟨by rfl, ?_⟩) ?_
      rotate_left
      · intro w; go_simp; (try with_reducible rfl)
      simp only [Act.put, List.setIfInBounds_toArray, List.set_cons_zero, List.set_cons_succ]
      refine wpAny_takeD (i := 13) (d := 65) (v := ?_) rfl rfl (by kernel_rfl) (by kernel_rfl) (by kernel_rfl) (fun _ _ _ h => h) (Or.inl ⟨by rfl, ?_⟩) ?_
      rotate_left
      · intro w; go_simp; (try with_reducible rfl)
      simp only [Act.put, List.setIfInBounds_toArray, List.set_cons_zero, List.set_cons_succ]
      refine wpAny_takeD (i := 14) (d := 10) (v := ?_) rfl rfl (by kernel_rfl) (by kernel_rfl) (by kernel_rfl) (fun _ _ _ h => h) (Or.inl ⟨by rfl, ?_⟩) ?_
      rotate_left
      · intro w; go_simp; (try with_reducible rfl)
      simp only [Act.put, List.setIfInBounds_toArray, List.set_cons_zero, List.set_cons_succ]
      refine wpAny_takeD (i := 15) (d := 11) (v := ?_) rfl rfl (by kernel_rfl) (by kernel_rfl) (by kernel_rfl) (fun _ _ _ h => h) (Or.inl ⟨by rfl, ?_⟩) ?_
      rotate_left
      · intro w; go_simp; (try with_reducible rfl)
      simp only [Act.put, List.setIfInBounds_toArray, List.set_cons_zero, List.set_cons_succ]
      refine wpAny_done (by kernel_rfl) ?_ _
      have HR := Lib.hid hr
      have HT1 := Lib.hid ht1
      have HT2 := Lib.hid ht2
      have HLC := Lib.hid hlc
      clear hr ht1 ht2 hlc hS
      generalize w2 = w11 at *
      obtain ⟨nt, hnt⟩ : ∃ x, ts.length = x := ⟨_, rfl⟩
      have HNT := Lib.hid hnt
      rw [hnt] at htl ⊢
      clear hnt
      have hb011 := hb010.trans (hb11.mono hb010.size)
      have hs11 := hb11.size
      have LT011 := Nat.lt_of_lt_of_le LT010 hs11
      have LT111 := Nat.lt_of_lt_of_le LT110 hs11
      have HH11 := Lib.hid ((hb11.block _ LT010).trans HH10.out)
      have HZ11 := Lib.hid ((hb11.block _ LT110).trans HZ10.out)
      have p0 := blk_cell HZ11.out 0
      have p1 := blk_cell HZ11.out 1
      have p2 := blk_cell HZ11.out 2
      go_wp2_with (show wpList _ _ _ (Oper.mk (some 67) _ _ _ _ _ :: _) _ _; refine wpList_load_row_g rfl 29 (.tmp 3) rfl (w.heap.size) rfl _ _ _ _ HH11.out Try.underlying29 rfl (by rw [info_group]; exact congrArg some HGS.out.symm) ?_)
      refine (HTM.out w11 hb11).mono ?_
      rintro e w12 ⟨s, A2, c2, us, rfl, hs, hu1, hu2, hul, hlc2, hb12⟩
      have hb012 := hb011.trans (hb12.mono hb011.size)
      obtain ⟨nu, hnu⟩ : ∃ x, us.length = x := ⟨_, rfl⟩
      rw [hnu] at hul ⊢
      by_cases hs1 : s = 1
      case pos =>
       have hu0 := hu2 (by omega)
       subst hs1 hu0
       have hn0 : nu = 0 := by simpa using hnu.symm
       subst hn0
       clear hs hu1 hu2 hlc2 hnu p0 p1 p2
       go_wp2_with fail
       go_ret
       exact ⟨rfl, hb012⟩
      case neg =>
      have hLX := HLX.out
      have hYX := HYE.out
      rw [← hLX, ← hYX] at hs hu1
      obtain ⟨hsr, hus⟩ := reversed_law HR.out hs hs1 HT1.out HT2.out hu1 hu2
      subst hsr hus
      obtain rfl : nt = nu := HNT.out.symm.trans hnu
      have hrb : (r == 1) = false := by simpa using hs1
      have hrr : (r == r) = true := by simp
      have HSM := Lib.hid (show Calls Try.prog 8 #[.slice A1 nt c1, .slice A2 nt c2] w12 (Quiet w12 (.bool true)) by
       have h := same08_c ts A1 A2 c1 c2 w12 ((ListC.fr HLC.out (fun h => BalanceC.fr h (Fr.ofBelow hb12)) (Fr.ofBelow hb12)).mono (fun h => BalanceC.mono h (fun q hq => Nat.lt_of_lt_of_le hq hb12.size)) (fun q hq => Nat.lt_of_lt_of_le hq hb12.size)) hlc2
       rwa [hnu] at h)
      clear hs hu1 hu2 hlc2 hnu p0 p1 p2 hs1 hLX hYX
      go_wp2_with (go_at_call 8; refine HSM.out.mono ?_; rintro e w13 ⟨rfl, hb13⟩)
      go_ret
      exact ⟨rfl, hb012.trans (hb13.mono hb012.size)⟩
end Go.Proofs.Ytekelchdbkjjjaa
