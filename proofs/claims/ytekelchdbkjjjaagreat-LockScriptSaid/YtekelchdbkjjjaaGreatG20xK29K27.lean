/- Locks of the law LockScript. Written by gen_k27.py. -/
import Derived.Test.YtekelchdbkjjjaaGreatG20xB0B2
import Derived.Test.YtekelchdbkjjjaaGreatG20xB3B8
import Derived.Test.YtekelchdbkjjjaaGreatG20xB14
import Derived.Test.YtekelchdbkjjjaaGreatG20xB16
import Derived.Test.YtekelchdbkjjjaaGreatG20xB17B24
import Derived.Test.YtekelchdbkjjjaaGreatG20xB29B32
import Derived.Test.YtekelchdbkjjjaaGreatG20xB33C3
import Derived.Test.YtekelchdbkjjjaaGreatG20xC4I2
import Derived.Test.YtekelchdbkjjjaaGreatG20xI3I16
import Derived.Test.YtekelchdbkjjjaaGreatG20xK1K12
import Derived.Test.YtekelchdbkjjjaaGreatG20xT1K13
import Derived.Test.YtekelchdbkjjjaaGreatG20xK14K24
import Derived.Test.YtekelchdbkjjjaaGreatG20xK25
import Derived.Test.YtekelchdbkjjjaaGreatG20xK28K26
import Derived.Test.YtekelchdbkjjjaaGreatProg
set_option linter.unusedVariables false
set_option linter.unusedSimpArgs false
set_option maxRecDepth 4000
attribute [local go_sem ↓] Go.wp_at_zero Go.wp_at_succ
namespace Go.Proofs.YtekelchdbkjjjaaGreat
open Go Go.RowKit
def doE (p ne : Int) (f : KK → Bool) (c : KK) (u : Bool) : Int := if u = true then unlockE f c else lockE p ne f c
def DoPostE (L b : Nat) (y m p ne : Int) (n : Nat) (r : Int) (f : KK → Bool) (w : World) (e : Ending) (w' : World) : Prop := e = .returned (.int .i64 r) ∧ LkC w' L b y m p ne n f ∧ Fr (fun q => q < w.heap.size ∧ q ≠ b) w w'
set_option maxHeartbeats 2000000 in
theorem doE_c (L b : Nat) (y m p ne : Int) (n : Nat) (f : KK → Bool) (c : KK) (u : Bool) (w : World) (h : LkC w L b y m p ne n f) (hn : n < maxLen) : Calls Tryz.prog 16 #[.pointer (some ⟨L, 0, none⟩), .agg #[.int .i64 c.1.1, .int .i64 c.1.2, .bool u]] w (DoPostE L b y m p ne (n + 1) (doE p ne f c u) (doF p ne f c u) w) := by
 obtain ⟨⟨e, q⟩, hbe, hbq⟩ := c
 have HK := Lib.hid h
 clear h
 show Calls Tryz.prog 16 #[.pointer (some ⟨L, 0, none⟩), .agg #[.int .i64 e, .int .i64 q, .bool u]] w _
 go_enter Tryz.func16, Tryz.ntmps16
 go_upto_region 1 with fail
 have H := heap_alloc_new w (.cells #[.int .i64 e, .int .i64 q, .bool u] 57)
 have HB := below1 w (.cells #[.int .i64 e, .int .i64 q, .bool u] 57)
 have HS := blk_lt H
 generalize hW : w.alloc (Obj.cells #[.int .i64 e, .int .i64 q, .bool u] 57) = W at *
 clear hW
 have HKW := Lib.hid (HK.out.below HB)
 have HBW := Lib.hid HB
 have k0 := blk_cell H 0
 have k1 := blk_cell H 1
 have k2 := blk_cell H 2
 clear H HB
 cases u with
 | true =>
  have HDO := Lib.hid (unlock_c L b y m p ne n f ⟨(e, q), hbe, hbq⟩ W HKW.out)
  go_wp2_with fail
  refine HDO.out.mono ?_
  rintro e2 w3 ⟨rfl, hk3, hf3, hs3⟩
  have HK3 := Lib.hid hk3
  have HF3 := Lib.hid hf3
  clear hk3 hf3 hs3
  go_wp2_with fail
  go_ret
  exact ⟨rfl, (show LkC w3 L b y m p ne (n + 1) (unlockF f ⟨(e, q), hbe, hbq⟩) from HK3.out.more), (Fr.ofBelow HBW.out).mono (fun q hq => hq.1) |>.trans (HF3.out.mono (fun q hq => hq.2))⟩
 | false =>
  have HDO := Lib.hid (lock_c L b y m p ne n f ⟨(e, q), hbe, hbq⟩ W HKW.out hn)
  go_wp2_with fail
  refine HDO.out.mono ?_
  rintro e2 w3 ⟨rfl, hk3, hf3, hs3⟩
  have HK3 := Lib.hid hk3
  have HF3 := Lib.hid hf3
  clear hk3 hf3 hs3
  go_wp2_with fail
  go_ret
  exact ⟨rfl, (show LkC w3 L b y m p ne (n + 1) (lockF p ne f ⟨(e, q), hbe, hbq⟩) from HK3.out), (Fr.ofBelow HBW.out).mono (fun q hq => hq.1) |>.trans (HF3.out.mono (fun q hq => hq.2))⟩
def RSt (gl : List Value) (B9 bm : Nat) (f : KK → Bool) (m : Nat) (w : World) : Prop := ∃ (A : Option Addr) (cc : Nat) (ks : List KK), w.heap[B9]? = some (.cells (gl ++ ([.slice A ks.length cc] : List Value)).toArray 53 (0, 0)) ∧ ListC KC 2 w (fun q => q < w.heap.size ∧ q ≠ bm ∧ q ≠ B9) [.slice A ks.length cc] ks ∧ ListK f ks ∧ ks.length ≤ m
theorem kl_mono {w : World} {Q Q' : Nat → Prop} {cs : List Value} {ks : List KK} (h : ListC KC 2 w Q cs ks) (hQ : ∀ q, Q q → Q' q) : ListC KC 2 w Q' cs ks := ListC.mono h (fun h => h) hQ
theorem kl_fr {w w' : World} {Q : Nat → Prop} {cs : List Value} {ks : List KK} (h : ListC KC 2 w Q cs ks) (hf : Fr Q w w') : ListC KC 2 w' Q cs ks := ListC.fr h (fun h => h) hf
theorem RSt.fr {gl : List Value} {B9 bm m : Nat} {f : KK → Bool} {w w' : World} (h : RSt gl B9 bm f m w) (hf : Fr (fun q => q < w.heap.size ∧ q ≠ bm) w w') (hb : B9 ≠ bm) : RSt gl B9 bm f m w' := by
 obtain ⟨A, cc, ks, h1, h2, h3, h4⟩ := h
 exact ⟨A, cc, ks, (hf.block B9 ⟨blk_lt h1, hb⟩).trans h1, kl_mono (kl_fr h2 (hf.mono (fun q hq => ⟨hq.1, hq.2.1⟩))) (fun q hq => ⟨Nat.lt_of_lt_of_le hq.1 hf.size, hq.2⟩), h3, h4⟩
theorem script_one {p ne : Int} {l : List XStep} {k : Nat} (hk : k < l.length) {x : XStep} (hx : l[k] = x) (hb : bdS x) : allF p ne (l.take (k + 1)) = doF p ne (allF p ne (l.take k)) ⟨(x.entity, x.period), hb⟩ x.unlock := by
 rw [allF_succ hk, hx]
 unfold stepF
 rw [keyS_bd hb]
theorem Inv.withE {md : Region.Mode} {ops : Array Oper} {V : Nat → Value → World → Prop} {S S' : World → Prop} {a0 : Act} {listed : Array Bool} {a : Act} {w : World} (hI : Inv md ops V S a0 listed a w) (h : S' w) : Inv md ops V S' a0 listed a w :=
 ⟨hI.lsize, h, hI.defers, hI.size, hI.closed, hI.got, hI.old⟩
theorem wpAny_invE {P : Program} {md : Region.Mode} {ops : Array Oper} {Q : Exit → Act → World → Prop} {V : Nat → Value → World → Prop} {S : Array Bool → World → Prop} {a0 : Act}
 (hord : ∀ (i : Nat) (o : Oper), ops[i]? = some o → ∀ e ∈ o.after, Region.binds md e = true → e.on < i)
 (hdst : ∀ (i j : Nat) (oi oj : Oper) (d : Nat), ops[i]? = some oi → ops[j]? = some oj → oi.dst = some d → oj.dst = some d → i = j)
 (hlt : ∀ (i : Nat) (o : Oper) (d : Nat), ops[i]? = some o → o.dst = some d → d < a0.tmps.size)
 (hstep : ∀ i o, ops[i]? = some o → ∀ listed a w, Inv md ops V (S listed) a0 listed a w → (∀ e ∈ o.after, Region.binds md e = true → Done listed e.on) → ¬ Done listed i →
  ∀ K : Act → World → Prop, (∀ v w', S (listed.setIfInBounds i true) w' → V i v w' → (∀ j u, j ≠ i → Done listed j → V j u w → V j u w') → K (a.put o.dst v) w') → if Region.wanted o (yielded ops a.tmps) = true then o.wp P a w K Q else K (a.put o.dst undef) w)
 (hend : ∀ listed a w, Inv md ops V (S listed) a0 listed a w → (∀ i, i < ops.size → Done listed i) → Q .normal a w) :
 ∀ fuel listed a w, Inv md ops V (S listed) a0 listed a w → left ops.size listed ≤ fuel → wpAny P md ops Q fuel listed a w
 | 0, listed, a, w, hI, hf => by
  have hr : Region.ready md ops listed = [] := by
   rw [List.eq_nil_iff_forall_not_mem]
   intro i hi
   obtain ⟨h1, o, h2, _⟩ := mem_ready.1 hi
   have := left_set hI.lsize (Array.getElem?_eq_some_iff.1 h2).1 h1
   omega
  exact ⟨hr, hend listed a w hI (fun i hi => all_done' hI.lsize hord hr (i + 1) i (by omega) hi)⟩
 | fuel + 1, listed, a, w, hI, hf => by
  refine ⟨fun hr => hend listed a w hI (fun i hi => all_done' hI.lsize hord hr (i + 1) i (by omega) hi), fun i hi => ?_⟩
  obtain ⟨h1, o, h2, h3⟩ := mem_ready.1 hi
  have hsz : i < ops.size := (Array.getElem?_eq_some_iff.1 h2).1
  have hnd : ¬ Done listed i := by
   unfold Done
   rw [← getD_tf (by rw [hI.lsize]; exact hsz), h1]
   simp
  refine wpOp_step h2 (fun K hK => hstep i o h2 listed a w hI h3 hnd K (fun v w' hS hv hst => hK _ _ ?_))
  refine wpAny_invE hord hdst hlt hstep hend fuel _ _ _ ((Inv.stepD (hI.withE (S' := fun _ => True) trivial) hdst hlt h2 h3 trivial hv hst).withE hS) ?_
  have := left_set hI.lsize hsz h1
  omega
def OpStepE (P : Program) (md : Region.Mode) (ops : Array Oper) (Q : Exit → Act → World → Prop) (V : Nat → Value → World → Prop) (S : Array Bool → World → Prop) (a0 : Act) (i : Nat) (o : Oper) : Prop :=
 ∀ listed a w, Inv md ops V (S listed) a0 listed a w → (∀ e ∈ o.after, Region.binds md e = true → Done listed e.on) → ¬ Done listed i →
  ∀ K : Act → World → Prop, Shut (∀ v w', S (listed.setIfInBounds i true) w' → V i v w' → (∀ j u, j ≠ i → Done listed j → V j u w → V j u w') → K (a.put o.dst v) w') → if Region.wanted o (yielded ops a.tmps) = true then o.wp P a w K Q else K (a.put o.dst undef) w
theorem wp_region_invE {P : Program} {ops : Array Oper} {Q : Exit → Act → World → Prop} (V : Nat → Value → World → Prop) (S : Array Bool → World → Prop) {id : Nat} {a : Act} {w : World}
 (hm : P.follows .mixedOrders = true) (ho : ordB' .any ops = true) (hd : dstB ops a.tmps.size = true) (hS : S (Array.replicate ops.size false) w.drew)
 (hstep : AllOps (OpStepE P .any ops Q V S a) 0 ops.toList)
 (hend : ∀ listed a' w', Inv .any ops V (S listed) a listed a' w' → (∀ i, i < ops.size → Done listed i) → Q .normal a' w') : (Code.region id ops true).wp P Q a w := by
 refine wp_region_any hm (wpAny_invE (V := V) (S := S) (a0 := a) (ordB_spec' ho) (fun i j oi oj d hi hj hid hjd => (dstB_spec hd i oi d hi hid).2 j oj hj hjd) (fun i o d hi hid => (dstB_spec hd i o d hi hid).1)
  (fun i o hi listed a' w' hI hdn hnd K hK => ?_) hend _ _ _ _ ?_ ?_)
 · have := AllOps.get hstep (i := i) (o := o) (by simpa using hi)
   rw [Nat.zero_add] at this
   exact this listed a' w' hI hdn hnd K hK
 · have hno : ∀ i, ¬ Done (Array.replicate ops.size false) i := fun i h => by
    unfold Done at h
    by_cases hi : i < ops.size <;> simp [Array.getD_eq_getD_getElem?, hi] at h
   exact ⟨by simp, hS, rfl, rfl, fun i _ _ h => absurd h (hno i), fun i _ _ _ _ h => absurd h (hno i), fun _ _ => rfl⟩
 · unfold left
   exact Nat.le_trans (List.length_filter_le _ _) (by simp)
theorem Inv.dn {listed : Array Bool} {md : Region.Mode} {o : Oper} (hd : ∀ e ∈ o.after, Region.binds md e = true → Done listed e.on) (j : Nat) (h : (o.after.toList.any fun e => Region.binds md e && e.on == j) = true) : Done listed j := by
 simp only [List.any_eq_true, Bool.and_eq_true, beq_iff_eq] at h
 obtain ⟨e, he, hb, rfl⟩ := h
 exact hd e (by simpa using he) hb
theorem Inv.up {md : Region.Mode} {ops : Array Oper} {V : Nat → Value → World → Prop} {S : World → Prop} {a0 : Act} {listed : Array Bool} {a : Act} {w : World} (hI : Inv md ops V S a0 listed a w) {i : Nat} (hi : Done listed i) (j : Nat) {oi : Oper} (ho : ops[i]? = some oi) (h : (oi.after.toList.any fun e => Region.binds md e && e.on == j) = true) : Done listed j := by
 simp only [List.any_eq_true, Bool.and_eq_true, beq_iff_eq] at h
 obtain ⟨e, he, hb, rfl⟩ := h
 exact hI.closed i oi ho hi e (by simpa using he) hb
theorem getD_oth {listed : Array Bool} {i j : Nat} (h : i ≠ j) : (listed.setIfInBounds i true).getD j false = listed.getD j false := by simp [Array.getD_eq_getD_getElem?, Array.getElem?_setIfInBounds, h]
theorem getD_sam {listed : Array Bool} {i : Nat} (h : i < listed.size) : (listed.setIfInBounds i true).getD i false = true := by simp [Array.getD_eq_getD_getElem?, h]
def DoS (V : World) (bm : Nat) (listed : Array Bool) (w : World) : Prop := Fr (fun q => q < V.heap.size ∧ q ≠ bm) V w ∧ (listed.getD 2 false = false → w.heap[bm]? = V.heap[bm]?)
theorem DoS.other {V w w' : World} {bm : Nat} {listed : Array Bool} (h : DoS V bm listed w) (i : Nat) (hi : i ≠ 2) (hb : Below w.heap.size w w') (hbm : bm < V.heap.size) : DoS V bm (listed.setIfInBounds i true) w' :=
 ⟨h.1.trans ((Fr.ofBelow hb).mono (fun q hq => Nat.lt_of_lt_of_le hq.1 h.1.size)), fun e => by
  rw [getD_oth hi] at e
  rw [← h.2 e]
  exact hb.block _ (Nat.lt_of_lt_of_le hbm h.1.size)⟩
theorem DoS.did {V w w' : World} {bm : Nat} {listed : Array Bool} (h : DoS V bm listed w) (hs : 2 < listed.size) (hf : Fr (fun q => q < w.heap.size ∧ q ≠ bm) w w') : DoS V bm (listed.setIfInBounds 2 true) w' :=
 ⟨h.1.trans (hf.mono (fun q hq => ⟨Nat.lt_of_lt_of_le hq.1 h.1.size, hq.2⟩)), fun e => by rw [getD_sam hs] at e; cases e⟩
def IsDo (L bm : Nat) (y m p ne : Int) (n : Nat) (r : Int) (f : KK → Bool) (v : Value) (w : World) : Prop := v = .int .i64 r ∧ LkC w L bm y m p ne n f
theorem IsDo.keep {L bm : Nat} {y m p ne : Int} {n : Nat} {r : Int} {f : KK → Bool} : ∀ v w w', Below w.heap.size w w' → IsDo L bm y m p ne n r f v w → IsDo L bm y m p ne n r f v w' := fun v w w' hb h => ⟨h.1, h.2.below hb⟩
def IsCk (y m p ne : Int) (f : KK → Bool) (e d : Int) (v : Value) (_ : World) : Prop := ∃ r, v = .int .i64 r ∧ ckP y m p ne f e d r
theorem IsCk.keep {y m p ne : Int} {f : KK → Bool} {e d : Int} : ∀ v w w', Below w.heap.size w w' → IsCk y m p ne f e d v w → IsCk y m p ne f e d v w' := fun v w w' hb h => h
def IsKl (ks : List KK) (v : Value) (w : World) : Prop := ∃ (A : Option Addr) (c : Nat), v = .slice A ks.length c ∧ ListC KC 2 w (· < w.heap.size) [.slice A ks.length c] ks
theorem IsKl.keep {ks : List KK} : ∀ v w w', Below w.heap.size w w' → IsKl ks v w → IsKl ks v w' := fun v w w' hb ⟨A, c, h1, h2⟩ => ⟨A, c, h1, ks_keep (fun q hq => hq) h2 hb⟩
theorem RSt.turn {gl : List Value} {B9 bm m : Nat} {f : KK → Bool} {w w' : World} {A : Option Addr} {cc : Nat} {ks ks' : List KK} {ll : List Value} {r : Int} (hgl : gl.length = 21) (hB : w.heap[B9]? = some (.cells (gl ++ ([.slice A ks.length cc] : List Value)).toArray 53 (0, 0)))
 (hl : ListC KC 2 w (fun q => q < w.heap.size ∧ q ≠ bm ∧ q ≠ B9) [.slice A ks.length cc] ks) (hbm : bm < w.heap.size)
 (hcs : (r ≠ 0 ∧ ll = gl ++ ([.slice A ks.length cc] : List Value) ∧ ks' = ks) ∨ (r = 0 ∧ ∃ (A' : Option Addr) (c' : Nat), ll = (gl ++ ([.slice A ks.length cc] : List Value)).set 21 (.slice A' ks'.length c') ∧ ListC KC 2 w' (fun q => w.heap.size ≤ q ∧ q < w'.heap.size) [.slice A' ks'.length c'] ks'))
 (hk : ListK f ks') (hm : ks'.length ≤ m) (hb : Below w.heap.size w w') : RSt gl B9 bm f m (w'.setRow B9 ll.toArray) ∧ ll.length = 22 := by
 have hlt := blk_lt hB
 have hfr := fr_setRow w' B9 ll.toArray
 have hset := heap_setRow ((hb.block _ hlt).trans hB) ll.toArray
 rcases hcs with ⟨_, e1, e2⟩ | ⟨_, A', c', e1, h2⟩
 · subst e1 e2
   refine ⟨⟨A, cc, ks', hset, ?_, hk, hm⟩, by rw [List.length_append, hgl]; rfl⟩
   exact kl_mono (kl_fr (kl_fr hl ((Fr.ofBelow hb).mono (fun q hq => hq.1))) (hfr.mono (fun q hq => hq.2.2))) (fun q hq => ⟨Nat.lt_of_lt_of_le (Nat.lt_of_lt_of_le hq.1 hb.size) hfr.size, hq.2⟩)
 · have e3 : (gl ++ ([.slice A ks.length cc] : List Value)).set 21 (.slice A' ks'.length c') = gl ++ ([.slice A' ks'.length c'] : List Value) := by
    rw [List.set_append_right _ _ (by omega), hgl]; rfl
   rw [e3] at e1
   subst e1
   refine ⟨⟨A', c', ks', hset, ?_, hk, hm⟩, by rw [List.length_append, hgl]; rfl⟩
   exact kl_mono (kl_fr h2 (hfr.mono (fun q hq => by have := hq.1; omega))) (fun q hq => ⟨Nat.lt_of_lt_of_le hq.2 hfr.size, by have := hq.1; omega, by have := hq.1; omega⟩)
theorem idx_in {f : KK → Bool} {ks : List KK} (h : ListK f ks) (c : KK) : decide (0 ≤ idxK ks c) = f c := by
 rcases idxK_cases ks c with ⟨h1, h2⟩ | ⟨k, h1, hk, h2⟩
 · rw [h1]
   cases e : f c with
   | false => rfl
   | true => exact absurd ((h.2 c).2 e) h2
 · rw [h1, (h.2 c).1 (h2 ▸ List.getElem_mem hk)]
   exact decide_eq_true (by omega)
set_option maxHeartbeats 2000000 in
theorem plocked_c (L b : Nat) (y m p ne : Int) (n : Nat) (f : KK → Bool) (c : KK) (w : World) (h : LkC w L b y m p ne n f) : Calls Tryz.prog 17 #[.pointer (some ⟨L, 0, none⟩), .int .i64 c.1.1, .int .i64 c.1.2] w (Quiet w (.bool (f c))) := by
 obtain ⟨hL, hM, hLb⟩ := h
 have HM := Lib.hid hM
 have c4 := blk_cell hL 4
 obtain ⟨fv, hfv⟩ : ∃ fv, f c = fv := ⟨_, rfl⟩
 obtain ⟨K, hK⟩ : ∃ K : KK, K = c := ⟨_, rfl⟩
 have HFV := Lib.hid (show f K = fv by rw [hK]; exact hfv)
 rw [hfv]
 obtain ⟨⟨e, q⟩, hbe, hbq⟩ := c
 have HKV := Lib.hid (show kVal K = .agg #[.int .i64 e, .int .i64 q] by rw [hK]; rfl)
 clear hL hM hLb hfv hK
 show Calls Tryz.prog 17 #[.pointer (some ⟨L, 0, none⟩), .int .i64 e, .int .i64 q] w (Quiet w (.bool fv))
 go_enter Tryz.func17, Tryz.ntmps17
 go_wp2_with (at_lookup; refine wpList_look_l rfl _ _ rfl b n f rfl HM.out K HKV.out.symm ?_; rw [HFV.out])
 go_ret
 exact ⟨rfl, Below.refl _ _⟩
set_option maxHeartbeats 8000000 in
theorem law_lockScript (g : XGroup) (l : List XStep) (gl : List Value) (A : Option Addr) (c : Nat) (xi xe xd xk xo : Int) (xt : ByteArray) (Al : Option Addr) (nl cl : Nat) (w : World) (hg : GroupC w (· < w.heap.size) gl g) (hsz : szG g) (hl : ListC StepC 3 w (· < w.heap.size) [.slice A l.length c] l) :
 Calls Tryz.prog 4 #[.agg gl.toArray, .slice A l.length c, .agg #[.int .i64 xi, .int .i64 xe, .int .i64 xd, .int .i64 xk, .int .i64 xo, .string xt, .slice Al nl cl]] w (Quiet w (.bool true)) := by
 have HFEW := Lib.hid (fun (w2 : World) (hb : Below w.heap.size w w2) => few_v hg hsz hb)
 have HNEW := Lib.hid (fun (hf : fewG g) (w2 : World) (hb : Below w.heap.size w w2) => lnew_c g gl w2 (hg.keep hb) hf.small)
 have HRNW := Lib.hid (fun (hf : fewG g) (w2 : World) (hb : Below w.heap.size w w2) => rnew13_c g gl w2 (hg.keep hb) hf.small)
 have HGS := Lib.hid (show gl.toArray.size = 21 by have := hg.len; simpa using this)
 have HG := Lib.hid hg
 have HL := Lib.hid hl
 have HBD := Lib.hid (steps_bd hl)
 have HCAL := Lib.hid (fun (h : groupB g = true) => (calB_in (q := 0) (groupB_cal h) (Int.le_refl 0) (by have := groupB_cal h; unfold calB at this; simp at this; omega)).2.2.2.2.1)
 have hcap := hl.cap
 unfold maxLen at hcap
 obtain ⟨fw, hfw⟩ : ∃ p : Prop, fewG g = p := ⟨_, rfl⟩
 rw [hfw] at HFEW HNEW HRNW
 obtain ⟨n, hnl⟩ : ∃ n, l.length = n := ⟨_, rfl⟩
 have HN := Lib.hid hnl
 rw [hnl] at hcap ⊢
 clear hg hsz hl hfw hnl
 go_enter Tryz.func4, Tryz.ntmps4
 go_upto_region 1 with fail
 have H := heap_alloc_new w (.cells gl.toArray 29)
 have HB := below1 w (.cells gl.toArray 29)
 have HS := blk_lt H
 generalize hW : w.alloc (Obj.cells gl.toArray 29) = W at *
 have H2 := heap_alloc_new W (.cells #[.int .i64 xi, .int .i64 xe, .int .i64 xd, .int .i64 xk, .int .i64 xo, .string xt, .slice Al nl cl] 46)
 have HB2 := below1 W (.cells #[.int .i64 xi, .int .i64 xe, .int .i64 xd, .int .i64 xk, .int .i64 xo, .string xt, .slice Al nl cl] 46)
 have HS2 := blk_lt H2
 replace H := alloc_keep H (Obj.cells #[.int .i64 xi, .int .i64 xe, .int .i64 xd, .int .i64 xk, .int .i64 xo, .string xt, .slice Al nl cl] 46)
 generalize hW2 : W.alloc (Obj.cells #[.int .i64 xi, .int .i64 xe, .int .i64 xd, .int .i64 xk, .int .i64 xo, .string xt, .slice Al nl cl] 46) = W2 at *
 clear hW2
 have eW : W.heap.size = w.heap.size + 1 := by rw [← hW]; simp
 rw [eW] at H2
 clear hW
 have hb2 := HB.trans (HB2.mono HB.size)
 have hs2 := HB2.size
 have LT1 := blk_lt H2
 have LT0 : w.heap.size < W2.heap.size := by omega
 have HH := Lib.hid H
 have HZ := Lib.hid H2
 have EW := Lib.hid eW
 clear H H2 eW
 have hb02 := hb2
 have LT02 := LT0
 have LT12 := LT1
 have HH2 := HH
 have HZ2 := HZ
 go_wp2_with fail
 refine (awake13_c W2).mono ?_
 rintro e w3 ⟨rfl, hb3⟩
 have hb03 := hb02.trans (hb3.mono hb02.size)
 have hs3 := hb3.size
 have LT03 := Nat.lt_of_lt_of_le LT02 hs3
 have LT13 := Nat.lt_of_lt_of_le LT12 hs3
 have HH3 := Lib.hid ((hb3.block _ LT02).trans HH2.out)
 have HZ3 := Lib.hid ((hb3.block _ LT12).trans HZ2.out)
 go_wp2_with (show wpList _ _ _ (Oper.mk (some 21) _ _ _ _ _ :: _) _ _; refine wpList_load_row_g rfl 29 (.tmp 3) rfl (w.heap.size) rfl _ _ _ _ HH3.out Tryz.underlying29 rfl (by rw [info_group]; exact congrArg some HGS.out.symm) ?_)
 refine (HFEW.out w3 hb03).mono ?_
 rintro e w4 ⟨bf, rfl, hf, hb4⟩
 have hb04 := hb03.trans (hb4.mono hb03.size)
 have hs4 := hb4.size
 have LT04 := Nat.lt_of_lt_of_le LT03 hs4
 have LT14 := Nat.lt_of_lt_of_le LT13 hs4
 have HH4 := Lib.hid ((hb4.block _ LT03).trans HH3.out)
 have HZ4 := Lib.hid ((hb4.block _ LT13).trans HZ3.out)
 cases bf with
 | false =>
  clear hf
  go_wp2_with fail
  refine (awake13_c w4).mono ?_
  rintro e wz ⟨rfl, hbz⟩
  go_wp2_with fail
  go_ret
  exact ⟨rfl, hb04.trans (hbz.mono hb04.size)⟩
 | true =>
 have HFP := Lib.hid (hf rfl)
 clear hf
 by_cases h30 : n ≤ 30
 case neg =>
  have h30d : decide ((30 : Int) < (n : Int)) = true := decide_eq_true (by omega)
  clear h30
  go_wp2_with fail
  refine (awake13_c w4).mono ?_
  rintro e wz ⟨rfl, hbz⟩
  go_wp2_with fail
  go_ret
  exact ⟨rfl, hb04.trans (hbz.mono hb04.size)⟩
 case pos =>
 have h30d : decide ((30 : Int) < (n : Int)) = false := decide_eq_false (by omega)
 have HN30 := Lib.hid h30
 clear h30
 go_wp2_with (show wpList _ _ _ (Oper.mk (some 32) _ _ _ _ _ :: _) _ _; refine wpList_load_row_g rfl 29 (.tmp 3) rfl (w.heap.size) rfl _ _ _ _ HH4.out Tryz.underlying29 rfl (by rw [info_group]; exact congrArg some HGS.out.symm) ?_)
 refine (HNEW.out HFP.out w4 hb04).mono ?_
 rintro e w5 ⟨hb5, hcase⟩
 have hb05 := hb04.trans (hb5.mono hb04.size)
 have hs5 := hb5.size
 have LT05 := Nat.lt_of_lt_of_le LT04 hs5
 have LT15 := Nat.lt_of_lt_of_le LT14 hs5
 have HH5 := Lib.hid ((hb5.block _ LT04).trans HH4.out)
 have HZ5 := Lib.hid ((hb5.block _ LT14).trans HZ4.out)
 clear h30d
 rcases hcase with ⟨hv, rfl⟩ | ⟨hv, L, bm, rfl, hlk, hL, hbm⟩
 case inl =>
  have HV := Lib.hid hv
  clear hv
  go_wp2_with (show wpList _ _ _ (Oper.mk (some 37) _ _ _ _ _ :: _) _ _; refine wpList_load_row_g rfl 29 (.tmp 3) rfl (w.heap.size) rfl _ _ _ _ HH5.out Tryz.underlying29 rfl (by rw [info_group]; exact congrArg some HGS.out.symm) ?_)
  refine (HRNW.out HFP.out w5 hb05).mono ?_
  rintro e w6 ⟨hb6, hcase⟩
  have hb06 := hb05.trans (hb6.mono hb05.size)
  have hs6 := hb6.size
  have LT06 := Nat.lt_of_lt_of_le LT05 hs6
  have LT16 := Nat.lt_of_lt_of_le LT15 hs6
  have HH6 := Lib.hid ((hb6.block _ LT05).trans HH5.out)
  have HZ6 := Lib.hid ((hb6.block _ LT15).trans HZ5.out)
  rcases hcase with ⟨hv, ll, rfl, hl22, hone⟩ | ⟨hv, rfl⟩
  case inr => rw [HV.out] at hv; cases hv
  case inl =>
  have HLL := Lib.hid (And.intro hl22 hone)
  clear hv hl22 hone
  go_wp2_with (show wpList _ _ _ (Oper.mk none (Op.store _ (Operand.tmp 9) _) _ _ _ _ :: _) _ _; refine wpList_store_fresh3 rfl 53 (.tmp 9) (.tmp 39) rfl rfl w6 #[.string ⟨#[]⟩, .int .i64 0, .int .i64 0, .int .i64 0, .slice none 0 0, .int .i64 0, .int .i64 0, .int .i64 0, .int .i64 0, .int .i64 0, .int .i64 0, .int .i64 0, .int .i64 0, .int .i64 0, .int .i64 0, .int .i64 0, .int .i64 0, .int .i64 0, .int .i64 0, .int .i64 0, .slice none 0 0, .slice none 0 0] 53 ll.toArray rfl rfl rfl (by rw [info_locks]; simp [HLL.out.1]) (by simp [HLL.out.1]) HLL.out.2 ?_; intro w7 H7 hb7 HS7)
  go_ret
  exact ⟨rfl, hb06.trans (hb7.mono hb06.size)⟩
 case inr =>
 have HV := Lib.hid hv
 have HLK5 := Lib.hid hlk
 have HLB := Lib.hid (And.intro hL hbm)
 clear hv hlk hL hbm
 go_wp2_with (show wpList _ _ _ (Oper.mk (some 37) _ _ _ _ _ :: _) _ _; refine wpList_load_row_g rfl 29 (.tmp 3) rfl (w.heap.size) rfl _ _ _ _ HH5.out Tryz.underlying29 rfl (by rw [info_group]; exact congrArg some HGS.out.symm) ?_)
 refine (HRNW.out HFP.out w5 hb05).mono ?_
 rintro e w6 ⟨hb6, hcase⟩
 have hb06 := hb05.trans (hb6.mono hb05.size)
 have hs6 := hb6.size
 have LT06 := Nat.lt_of_lt_of_le LT05 hs6
 have LT16 := Nat.lt_of_lt_of_le LT15 hs6
 have HH6 := Lib.hid ((hb6.block _ LT05).trans HH5.out)
 have HZ6 := Lib.hid ((hb6.block _ LT15).trans HZ5.out)
 rcases hcase with ⟨hv, ll, rfl, hl22, hone⟩ | ⟨hv, rfl⟩
 case inl => rw [HV.out] at hv; cases hv
 case inr =>
 obtain ⟨L0, hL0⟩ : ∃ L, (gl ++ ([.slice none 0 0] : List Value)) = L := ⟨_, rfl⟩
 have HL0 := Lib.hid hL0
 rw [hL0]
 have HRL6 := Lib.hid (show RLk w6 (· < w6.heap.size) L0 g [] from ⟨gl, none, 0, hL0.symm, HG.out.keep hb06, none, 0, rfl, by simp, by simp [maxLen], fun h => absurd h (by simp)⟩)
 have HLL := Lib.hid (And.intro HRL6.out.len HRL6.out.one)
 clear hv hL0
 go_upto_region 7 with (show wpList _ _ _ (Oper.mk none (Op.store _ (Operand.tmp 9) _) _ _ _ _ :: _) _ _; refine wpList_store_fresh3 rfl 53 (.tmp 9) (.tmp 39) rfl rfl w6 #[.string ⟨#[]⟩, .int .i64 0, .int .i64 0, .int .i64 0, .slice none 0 0, .int .i64 0, .int .i64 0, .int .i64 0, .int .i64 0, .int .i64 0, .int .i64 0, .int .i64 0, .int .i64 0, .int .i64 0, .int .i64 0, .int .i64 0, .int .i64 0, .int .i64 0, .int .i64 0, .int .i64 0, .slice none 0 0, .slice none 0 0] 53 L0.toArray rfl rfl rfl (by rw [info_locks]; simp [HLL.out.1]) (by simp [HLL.out.1]) HLL.out.2 ?_; intro w7 H7 hb7 HS7)
 have HB9I := Lib.hid H7
 clear H7
 have hb07 := hb06.trans (hb7.mono hb06.size)
 have hs7 := hb7.size
 have LT07 := Nat.lt_of_lt_of_le LT06 hs7
 have LT17 := Nat.lt_of_lt_of_le LT16 hs7
 have HH7 := Lib.hid ((hb7.block _ LT06).trans HH6.out)
 have HZ7 := Lib.hid ((hb7.block _ LT16).trans HZ6.out)
 obtain ⟨yy, hyy⟩ : ∃ y, g.calendar.year = y := ⟨_, rfl⟩
 obtain ⟨mm, hmm⟩ : ∃ y, g.calendar.month = y := ⟨_, rfl⟩
 obtain ⟨pp, hpp⟩ : ∃ y, g.calendar.periods = y := ⟨_, rfl⟩
 obtain ⟨ne, hne⟩ : ∃ y, (g.entities.length : Int) = y := ⟨_, rfl⟩
 have HEQ := Lib.hid (And.intro hyy (And.intro hmm (And.intro hpp hne)))
 have hlk5 := HLK5.out
 rw [hyy, hmm, hpp, hne] at hlk5
 have HP120 := Lib.hid (show pp ≤ 120 by rw [← hpp]; exact HCAL.out HV.out)
 have HGL := Lib.hid HG.out.len
 have HLBB := Lib.hid (show L < w6.heap.size ∧ bm < w6.heap.size from ⟨Nat.lt_of_lt_of_le (blk_lt hlk5.1) hs6, Nat.lt_of_lt_of_le hlk5.2.1.lt hs6⟩)
 have HLK7 := Lib.hid ((hlk5.below hb6).below (hb7.mono (Nat.le_refl _)))
 have HB47 := Lib.hid ((hb5.trans (hb6.mono hb5.size)).trans (hb7.mono (Nat.le_trans hb5.size hb6.size)))
 have HRS7 := Lib.hid (show RSt gl w6.heap.size bm (allF pp ne (l.take 0)) 0 w7 from ⟨none, 0, [], by rw [show (gl ++ ([.slice none ([] : List KK).length 0] : List Value)) = L0 from HL0.out]; exact HB9I.out, ⟨none, 0, rfl, by simp, by simp [maxLen], fun h => absurd h (by simp)⟩, ⟨List.Pairwise.nil, fun c => by simp [allF]⟩, by simp⟩)
 have HLT4 := Lib.hid (show w.heap.size + 1 < w4.heap.size from LT14)
 clear hyy hmm hpp hne hlk5
 go_wp2_with fail
 go_loopw [57] (fun i wr => ∃ k : Nat, k ≤ n ∧ i = .int .i64 (k : Int) ∧ LkC wr L bm yy mm pp ne k (allF pp ne (l.take k)) ∧ RSt gl w6.heap.size bm (allF pp ne (l.take k)) k wr ∧ Below w4.heap.size w4 wr ∧ w7.heap.size ≤ wr.heap.size) (fun i _ => n - (intOf i).toNat)
 case atStart => exact ⟨0, by omega, rfl, HLK7.out, HRS7.out, HB47.out, Nat.le_refl _⟩
 case round =>
  obtain ⟨k, hk, rfl, hlk, hrs, hb48, hs78⟩ := hrel
  generalize wr = w8 at *
  have HLK8 := Lib.hid hlk
  have HRS8 := Lib.hid hrs
  have HB48 := Lib.hid hb48
  obtain ⟨FA, hFA⟩ : ∃ F, allF pp ne (l.take k) = F := ⟨_, rfl⟩
  rw [hFA] at HLK8 HRS8
  have HPOSA := Lib.hid (show ∀ c, FA c = true → 0 ≤ c.1.2 ∧ c.1.2 ≤ 1000 by rw [← hFA]; exact allF_pos HP120.out)
  have HFA := Lib.hid hFA
  have HS78 := Lib.hid hs78
  have HS67 := Lib.hid (show w6.heap.size < w8.heap.size from Nat.lt_of_lt_of_le HS7 hs78)
  clear hlk hrs hFA hb48 hs78
  by_cases hlt : k < n
  case pos =>
   have hltI : (k : Int) < (n : Int) := by omega
   have hltI2 : 0 < n := by omega
   have HLTN := Lib.hid hlt
   have hkl : k < l.length := by rw [HN.out]; exact hlt
   obtain ⟨b, o, cs1, hAe1, hbw1, hes1, hat1⟩ := ListC.get HL.out k hkl
   subst hAe1
   obtain ⟨hcs1, hbd⟩ := StepC.lit hes1
   subst hcs1
   obtain ⟨x, hx⟩ : ∃ x, l[k] = x := ⟨_, rfl⟩
   rw [hx] at hat1 hbd
   have hone := script_one (p := pp) (ne := ne) hkl hx hbd
   obtain ⟨se, sp, su⟩ := x
   obtain ⟨cK_, hcK⟩ : ∃ c : KK, c = ⟨(se, sp), hbd⟩ := ⟨_, rfl⟩
   obtain ⟨FB, hFB⟩ : ∃ F, allF pp ne (l.take (k + 1)) = F := ⟨_, rfl⟩
   rw [hFB, HFA.out] at hone
   have HFBE := Lib.hid (show FB = doF pp ne FA cK_ su by rw [hone, hcK])
   have HFB := Lib.hid hFB
   have HPOS := Lib.hid (show ∀ c, FB c = true → 0 ≤ c.1.2 ∧ c.1.2 ≤ 1000 by rw [← hFB]; exact allF_pos HP120.out)
   have HCK := Lib.hid (show cK_.1.1 = se ∧ cK_.1.2 = sp by rw [hcK]; exact ⟨rfl, rfl⟩)
   obtain ⟨R, hR⟩ : ∃ R, doE pp ne FA cK_ su = R := ⟨_, rfl⟩
   have HRR := Lib.hid hR
   have HAR := Lib.hid (show w8.rangeAt b (o + k * 3) [.int .i64 se, .int .i64 sp, .bool su] from ((hat1.fr (Fr.ofBelow (hb04.trans (HB48.out.mono hb04.size))))).range)
   clear hes1 hat1 hx hbw1 hkl hone hcK hFB hR hbd
   go_upto_region 10 with (first | (show wpList _ _ _ (Oper.mk (some 60) _ _ _ _ _ :: _) _ _; refine wpList_load_mid rfl 57 (.tmp 59) rfl b (o + k * 3) rfl [.int .i64 se, .int .i64 sp, .bool su] _ HAR.out Tryz.underlying57 rfl info_step ?_) | (show wpList _ _ _ (Oper.mk none (Op.store _ (Operand.tmp 12) _) _ _ _ _ :: _) _ _; refine wpList_store_fresh3 rfl 57 (.tmp 12) (.tmp 60) rfl rfl w8 #[.int .i64 0, .int .i64 0, .bool false] 57 #[.int .i64 se, .int .i64 sp, .bool su] rfl rfl rfl info_step rfl (by simp [Value.oneCell']) ?_; intro w9 H9 hb9 HS9))
   have HSX := Lib.hid H9
   have HSBL := Lib.hid HS9
   have HLK9 := Lib.hid (HLK8.out.below hb9)
   have hrs9 := HRS8.out.fr ((Fr.ofBelow hb9).mono (fun q hq => hq.1)) (by have := HLBB.out.2; omega)
   have HB49 := Lib.hid (HB48.out.trans (hb9.mono HB48.out.size))
   have HSB9 := Lib.hid (show w6.heap.size < w8.heap.size ∧ bm < w8.heap.size from ⟨HS67.out, Nat.lt_trans HLBB.out.2 HS67.out⟩)
   have HSIZ := Lib.hid hb9.size
   obtain ⟨AK, cc9, ks, hB9c, hlc9, hlk9, hle9⟩ := hrs9
   obtain ⟨LL, hLL⟩ : ∃ LL, (gl ++ ([.slice AK ks.length cc9] : List Value)) = LL := ⟨_, rfl⟩
   rw [hLL] at hB9c
   have HLL := Lib.hid hLL
   have HB9C := Lib.hid hB9c
   have HB9L9 := Lib.hid (blk_lt hB9c)
   have HLC := Lib.hid hlc9
   have HBM9 := Lib.hid (show bm < w9.heap.size from Nat.lt_of_lt_of_le HSB9.out.2 HSIZ.out)
   have hrl : RLk w9 (· < w9.heap.size) LL g ks := ⟨gl, AK, cc9, hLL.symm, HG.out.keep (hb04.trans (HB49.out.mono hb04.size)), kl_mono hlc9 (fun q hq => hq.1)⟩
   have HLLI := Lib.hid (show (Tryz.prog.info? 53).map (·.size) = some LL.toArray.size by rw [info_locks]; simp [hrl.len])
   have hk30 : k ≤ 90 := by have := HN30.out; omega
   have hrem := rremove_c g ks LL cK_ FA (k + 1) w9 hrl hlk9 (Nat.le_succ_of_le hle9) (by omega)
   have hadd := radd_c g ks LL cK_ FA k w9 hrl hlk9 hle9 (by omega)
   rw [HCK.out.1, HCK.out.2] at hrem hadd
   rw [HEQ.out.2.2.1, HEQ.out.2.2.2] at hadd
   have HREM := Lib.hid hrem
   have HADD := Lib.hid hadd
   have k0 := blk_cell H9 0
   have k1 := blk_cell H9 1
   have k2 := blk_cell H9 2
   clear hLL hB9c hlc9 hlk9 hle9 hrl hrem hadd H9 hb9
   go_upto_if 62 with fail
   go_cut [13] from 63 to 80 (fun v wx => v = .int .i64 R ∧ LkC wx L bm yy mm pp ne k FA ∧ RSt gl w6.heap.size bm FB (k + 1) wx ∧ Below w4.heap.size w4 wx ∧ w9.heap.size ≤ wx.heap.size ∧ wx.heap[w8.heap.size]? = some (.cells #[.int .i64 se, .int .i64 sp, .bool su] 57 (0, 0)))
   case first =>
    cases su with
    | true =>
     have HRE := Lib.hid (show unlockE FA cK_ = R from HRR.out)
     rw [show unlockF FA cK_ = FB from HFBE.out.symm] at HREM
     go_wp2_with (show wpList _ _ _ (Oper.mk (some 64) _ _ _ _ _ :: _) _ _; refine wpList_load_row_g rfl 53 (.tmp 9) rfl (w6.heap.size) rfl _ _ _ _ HB9C.out Tryz.underlying53 rfl HLLI.out ?_)
     refine HREM.out.mono ?_
     rintro e w10 ⟨ll', ks', rfl, hcs, hlk3, hle3, hb10⟩
     rw [← HLL.out] at hcs
     obtain ⟨hrs, hl22⟩ := RSt.turn HGL.out (by rw [HLL.out]; exact HB9C.out) HLC.out HBM9.out hcs hlk3 hle3 hb10
     have HRSN := Lib.hid hrs
     have HLI' := Lib.hid (show (Tryz.prog.info? 53).map (·.size) = some ll'.toArray.size by rw [info_locks]; simp [hl22])
     have HONE' := Lib.hid (show ll'.toArray.all (·.oneCell') = true by
      have hx := gones_l HG.out
      rcases hcs with ⟨_, e, _⟩ | ⟨_, A', c', e, _⟩
      · rw [e, List.all_toArray, List.all_append, hx]; rfl
      · rw [e, List.set_append_right _ _ (by rw [HGL.out]; omega), HGL.out, List.all_toArray, List.all_append, hx]; rfl)
     have HB10C := Lib.hid ((hb10.block _ HB9L9.out).trans HB9C.out)
     have HB10 := Lib.hid hb10
     have HSZ' := Lib.hid (show LL.toArray.size = ll'.toArray.size by simp [hl22, ← HLL.out, HGL.out])
     clear hcs hlk3 hle3 hb10 hrs hl22
     go_wp2_with (show wpList _ _ _ (Oper.mk none (Op.store _ (Operand.tmp 9) _) _ _ _ _ :: _) _ _; refine wpList_store_row rfl 53 (.tmp 9) (.tmp 70) rfl (w6.heap.size) ll'.toArray rfl rfl 53 LL.toArray HB10C.out HLI'.out HSZ'.out HONE'.out ?_)
     go_meet
     refine ⟨by rw [HRE.out], (HLK9.out.below HB10.out).fr (fr_setRow _ _ _) (fun e => by have := HLBB.out.1; omega) (fun e => by have := HLBB.out.2; omega), HRSN.out, below_setRow (HB49.out.trans (HB10.out.mono HB49.out.size)) (by have := hs5; have := hs6; omega) _, Nat.le_trans HB10.out.size (fr_setRow w10 w6.heap.size ll'.toArray).size, ((fr_setRow w10 w6.heap.size ll'.toArray).block _ (by show w8.heap.size ≠ w6.heap.size; have := HSB9.out; omega)).trans ((HB10.out.block _ HSBL.out).trans HSX.out)⟩
    | false =>
     have HRE := Lib.hid (show lockE pp ne FA cK_ = R from HRR.out)
     rw [show lockF pp ne FA cK_ = FB from HFBE.out.symm] at HADD
     go_wp2_with (show wpList _ _ _ (Oper.mk (some 73) _ _ _ _ _ :: _) _ _; refine wpList_load_row_g rfl 53 (.tmp 9) rfl (w6.heap.size) rfl _ _ _ _ HB9C.out Tryz.underlying53 rfl HLLI.out ?_)
     refine HADD.out.mono ?_
     rintro e w10 ⟨ll', ks', rfl, hcs, hlk3, hle3, hb10⟩
     rw [← HLL.out] at hcs
     obtain ⟨hrs, hl22⟩ := RSt.turn HGL.out (by rw [HLL.out]; exact HB9C.out) HLC.out HBM9.out hcs hlk3 hle3 hb10
     have HRSN := Lib.hid hrs
     have HLI' := Lib.hid (show (Tryz.prog.info? 53).map (·.size) = some ll'.toArray.size by rw [info_locks]; simp [hl22])
     have HONE' := Lib.hid (show ll'.toArray.all (·.oneCell') = true by
      have hx := gones_l HG.out
      rcases hcs with ⟨_, e, _⟩ | ⟨_, A', c', e, _⟩
      · rw [e, List.all_toArray, List.all_append, hx]; rfl
      · rw [e, List.set_append_right _ _ (by rw [HGL.out]; omega), HGL.out, List.all_toArray, List.all_append, hx]; rfl)
     have HB10C := Lib.hid ((hb10.block _ HB9L9.out).trans HB9C.out)
     have HB10 := Lib.hid hb10
     have HSZ' := Lib.hid (show LL.toArray.size = ll'.toArray.size by simp [hl22, ← HLL.out, HGL.out])
     clear hcs hlk3 hle3 hb10 hrs hl22
     go_wp2_with (show wpList _ _ _ (Oper.mk none (Op.store _ (Operand.tmp 9) _) _ _ _ _ :: _) _ _; refine wpList_store_row rfl 53 (.tmp 9) (.tmp 79) rfl (w6.heap.size) ll'.toArray rfl rfl 53 LL.toArray HB10C.out HLI'.out HSZ'.out HONE'.out ?_)
     go_meet
     refine ⟨by rw [HRE.out], (HLK9.out.below HB10.out).fr (fr_setRow _ _ _) (fun e => by have := HLBB.out.1; omega) (fun e => by have := HLBB.out.2; omega), HRSN.out, below_setRow (HB49.out.trans (HB10.out.mono HB49.out.size)) (by have := hs5; have := hs6; omega) _, Nat.le_trans HB10.out.size (fr_setRow w10 w6.heap.size ll'.toArray).size, ((fr_setRow w10 w6.heap.size ll'.toArray).block _ (by show w8.heap.size ≠ w6.heap.size; have := HSB9.out; omega)).trans ((HB10.out.block _ HSBL.out).trans HSX.out)⟩
   case rest =>
   obtain ⟨hv, hlkA, hrsN, hb4V, hs9V, hst⟩ := hcut
   subst hv
   generalize wc = V at *
   have HLKA := Lib.hid hlkA
   have HB4V := Lib.hid hb4V
   have HST := Lib.hid hst
   have HSBV := Lib.hid (show w8.heap.size < V.heap.size from Nat.lt_of_lt_of_le HSBL.out hs9V)
   have HBMV := Lib.hid (show bm < V.heap.size from Nat.lt_trans HSB9.out.2 HSBV.out)
   clear HREM HADD HLC HB9C HB9L9 HLL HLLI HBM9 k0 k1 k2
   obtain ⟨AK, cK, KS, hB9c, hlc, hlk, hle⟩ := hrsN
   obtain ⟨LL, hLL⟩ : ∃ LL, (gl ++ ([.slice AK KS.length cK] : List Value)) = LL := ⟨_, rfl⟩
   rw [hLL] at hB9c
   have HLL := Lib.hid hLL
   have HB9C := Lib.hid hB9c
   have HLC := Lib.hid hlc
   have HLKK := Lib.hid hlk
   have HLEK := Lib.hid hle
   have HLLN := Lib.hid (show LL.length = 22 by rw [← hLL, List.length_append, HGL.out]; rfl)
   have HLLI := Lib.hid (show (Tryz.prog.info? 53).map (·.size) = some LL.length by rw [info_locks, HLLN.out])
   have HLLJ := Lib.hid (show (Tryz.prog.info? 53).map (·.size) = some LL.toArray.size by rw [info_locks]; simp [HLLN.out])
   clear hLL hB9c hlc hlk hle
   have HSBQ := Lib.hid (show w8.heap.size < V.heap.size ∧ w8.heap.size ≠ bm from ⟨HSBV.out, by have := HSB9.out.2; omega⟩)
   have HATS := Lib.hid (show At V (fun q => q < V.heap.size ∧ q ≠ bm) ⟨w8.heap.size, 0, none⟩ [.int .i64 se, .int .i64 sp, .bool su] from ⟨HSBQ.out, (box_at (cs := [.int .i64 se, .int .i64 sp, .bool su]) HST.out).2⟩)
   have HATL := Lib.hid (show At V (fun q => q < V.heap.size ∧ q ≠ bm) ⟨w6.heap.size, 0, none⟩ LL from ⟨⟨by have := HSB9.out.1; have := HSBV.out; show w6.heap.size < V.heap.size; omega, by have := HLBB.out.2; show w6.heap.size ≠ bm; omega⟩, (box_at (cs := LL) HB9C.out).2⟩)
   have HS0 := Lib.hid (show V.cell? ⟨w8.heap.size, 0, none⟩ = some (.int .i64 se) from blk_cell HST.out 0)
   have HS1 := Lib.hid (show V.cell? ⟨w8.heap.size, 1, none⟩ = some (.int .i64 sp) from blk_cell HST.out 1)
   have HDO := Lib.hid (fun (w2 : World) (hf : Fr (fun q => q < V.heap.size ∧ q ≠ bm) V w2) (hbs : w2.heap[bm]? = V.heap[bm]?) => show Calls Tryz.prog 16 #[.pointer (some ⟨L, 0, none⟩), .agg #[.int .i64 se, .int .i64 sp, .bool su]] w2 (DoPostE L bm yy mm pp ne (k + 1) R FB w2) by
    have h := doE_c L bm yy mm pp ne k FA cK_ su w2 ⟨(hf.block L ⟨blk_lt HLKA.out.1, HLKA.out.2.2⟩).trans HLKA.out.1, HLKA.out.2.1.same hbs, HLKA.out.2.2⟩ (by have := HLTN.out; have := HN30.out; unfold maxLen; omega)
    rw [HCK.out.1, HCK.out.2, HRR.out, ← HFBE.out] at h
    exact h)
   obtain ⟨lb, hlb⟩ : ∃ b, FB cK_ = b := ⟨_, rfl⟩
   have HPL := Lib.hid (fun (w2 : World) (hf : LkC w2 L bm yy mm pp ne (k + 1) FB) => show Calls Tryz.prog 17 #[.pointer (some ⟨L, 0, none⟩), .int .i64 se, .int .i64 sp] w2 (Quiet w2 (.bool lb)) by
    have h := plocked_c L bm yy mm pp ne (k + 1) FB cK_ w2 hf
    rw [HCK.out.1, HCK.out.2, hlb] at h
    exact h)
   have HRLV := Lib.hid (fun (w2 : World) (hf : Fr (fun q => q < V.heap.size ∧ q ≠ bm) V w2) => show RLk w2 (· < w2.heap.size) LL g KS from
    ⟨gl, AK, cK, HLL.out.symm, HG.out.keep (((Fr.ofBelow (hb04.trans (HB4V.out.mono hb04.size))).trans (hf.mono (fun q (hq : q < w.heap.size) => ⟨Nat.lt_of_lt_of_le hq (Nat.le_trans hb04.size HB4V.out.size), by have := HLB.out.2; have := hb04.size; omega⟩))).below), kl_mono (kl_fr HLC.out (hf.mono (fun q hq => ⟨hq.1, hq.2.1⟩))) (fun q hq => Nat.lt_of_lt_of_le hq.1 hf.size)⟩)
   have HRLK := Lib.hid (fun (w2 : World) (hf : Fr (fun q => q < V.heap.size ∧ q ≠ bm) V w2) => show Calls Tryz.prog 18 #[.agg LL.toArray, .int .i64 se, .int .i64 sp] w2 (Quiet w2 (.bool lb)) by
    have h := rlocked_c g KS LL cK_ w2 (HRLV.out w2 hf)
    rw [HCK.out.1, HCK.out.2, idx_in HLKK.out, hlb] at h
    exact h)
   have HBB := Lib.hid (show (lb != lb) = false by simp)
   clear hlkA hb4V hs9V hst hlb
   go_upto_region 14 with fail
   refine wp_region_invE (Ks V [.val (.pointer (some ⟨L, 0, none⟩)), .val (.agg #[.int .i64 se, .int .i64 sp, .bool su]), .own (IsDo L bm yy mm pp ne (k + 1) R FB) (IsDo.keep), .val (.int .i64 R), .val (.bool false), .val (.bool false), .val (.pointer (some ⟨L, 0, none⟩)), .val (.pointer (some ⟨w8.heap.size, 0, none⟩)), .val (.int .i64 se), .val (.pointer (some ⟨w8.heap.size, 1, none⟩)), .val (.int .i64 sp), .val (.bool lb), .val (.agg LL.toArray), .val (.pointer (some ⟨w8.heap.size, 0, none⟩)), .val (.int .i64 se), .val (.pointer (some ⟨w8.heap.size, 1, none⟩)), .val (.int .i64 sp), .val (.bool lb), .val (.bool false), .val (.bool false)])
    (DoS V bm) (by kernel_rfl) (by kernel_rfl) (by kernel_rfl) ⟨(Fr.refl _ _).drew, fun _ => rfl⟩ ?_ ?_
   · refine ⟨?_, ?_, ?_, ?_, ?_, ?_, ?_, ?_, ?_, ?_, ?_, ?_, ?_, ?_, ?_, ?_, ?_, ?_, ?_, ?_, trivial⟩
     · intro _ A0 w2 hI hd hnd K hK; have e0 := hI.q hnd 7; have hS := hI.world; refine wanted_go rfl ?_; clear hI hd hnd; go_simp
       exact hK.out _ _ (hS.other 0 (by decide) (Below.refl _ _) HBMV.out) (Ks.of rfl rfl) (fun _ _ _ _ h => h)
     · intro _ A0 w2 hI hd hnd K hK; have e0 := hI.q hnd 12; have hS := hI.world; have hrange : w2.rangeAt w8.heap.size 0 [.int .i64 se, .int .i64 sp, .bool su] := (HATS.out.fr hS.1).range; have hisize := info_step; refine wanted_go rfl ?_; clear hI hd hnd
       refine wp_load_mid 57 (.tmp 12) rfl _ _ (by simpa [Act.eval, Array.getD_eq_getD_getElem?] using e0) _ _ hrange Tryz.underlying57 rfl hisize ?_
       exact hK.out _ _ (hS.other 1 (by decide) (Below.refl _ _) HBMV.out) (Ks.of rfl rfl) (fun _ _ _ _ h => h)
     · intro _ A0 w2 hI hd hnd K hK; have e0 := hI.p hd 0 81; have e1 := hI.p hd 1 82; have hS := hI.world
       have hsz := hI.lsize
       have hbs := hS.2 (by have h := hnd; unfold Done at h; simpa using h)
       refine wanted_go rfl ?_; clear hI hd hnd; go_simp
       go_at_call 16
       refine (HDO.out w2 hS.1 hbs).mono ?_
       rintro e w3 ⟨rfl, hlk3, hf3⟩
       exact hK.out _ _ (hS.did (by rw [hsz]; decide) hf3) (Ks.of rfl ⟨rfl, hlk3⟩) (by
        intro j u hj hdn hV q hq
        rcases j with _ | _ | _ | _ | _ | _ | _ | _ | _ | _ | _ | _ | _ | _ | _ | _ | _ | _ | _ | _ | j
        all_goals first | (exact absurd rfl hj) | (cases hq; done) | (cases hq; exact hV _ rfl))
     · intro _ A0 w2 hI hd hnd K hK; have e0 := hI.q hnd 13; have hS := hI.world; refine wanted_go rfl ?_; clear hI hd hnd; go_simp
       exact hK.out _ _ (hS.other 3 (by decide) (Below.refl _ _) HBMV.out) (Ks.of rfl rfl) (fun _ _ _ _ h => h)
     · intro _ A0 w2 hI hd hnd K hK
       obtain ⟨x0, e0, h0⟩ := hI.dep hd 2 83 rfl rfl rfl (by kernel_rfl)
       have e1 := hI.p hd 3 84; have hS := hI.world
       obtain ⟨rfl, _⟩ := h0
       refine wanted_go rfl ?_; clear hI hd hnd; go_simp
       exact hK.out _ _ (hS.other 4 (by decide) (Below.refl _ _) HBMV.out) (Ks.of rfl rfl) (fun _ _ _ _ h => h)
     · intro _ A0 w2 hI hd hnd K hK; have e0 := hI.p hd 4 85; have hS := hI.world; refine wanted_go rfl ?_; clear hI hd hnd; go_simp
       exact hK.out _ _ (hS.other 5 (by decide) (Below.refl _ _) HBMV.out) (Ks.of rfl rfl) (fun _ _ _ _ h => h)
     · intro _ A0 w2 hI hd hnd K hK; have e0 := hI.q hnd 7; have hS := hI.world; refine wanted_yes rfl (hI.r hd 5 86 false) ?_; clear hI hd hnd; go_simp
       exact hK.out _ _ (hS.other 6 (by decide) (Below.refl _ _) HBMV.out) (Ks.of rfl rfl) (fun _ _ _ _ h => h)
     · intro _ A0 w2 hI hd hnd K hK; have e0 := hI.q hnd 12; have hS := hI.world; refine wanted_yes rfl (hI.r hd 5 86 false) ?_; clear hI hd hnd; go_simp
       exact hK.out _ _ (hS.other 7 (by decide) (Below.refl _ _) HBMV.out) (Ks.of rfl rfl) (fun _ _ _ _ h => h)
     · intro _ A0 w2 hI hd hnd K hK; have e0 := hI.p hd 7 88; have hS := hI.world; have hcc : w2.cell? ⟨w8.heap.size, 0, none⟩ = _ := (hS.1.cell (p := ⟨w8.heap.size, 0, none⟩) HSBQ.out).trans HS0.out; refine wanted_yes rfl (hI.r hd 5 86 false) ?_; clear hI hd hnd; go_simp
       exact hK.out _ _ (hS.other 8 (by decide) (Below.refl _ _) HBMV.out) (Ks.of rfl rfl) (fun _ _ _ _ h => h)
     · intro _ A0 w2 hI hd hnd K hK; have e0 := hI.q hnd 12; have hS := hI.world; refine wanted_yes rfl (hI.r hd 5 86 false) ?_; clear hI hd hnd; go_simp
       exact hK.out _ _ (hS.other 9 (by decide) (Below.refl _ _) HBMV.out) (Ks.of rfl rfl) (fun _ _ _ _ h => h)
     · intro _ A0 w2 hI hd hnd K hK; have e0 := hI.p hd 9 90; have hS := hI.world; have hcc : w2.cell? ⟨w8.heap.size, 1, none⟩ = _ := (hS.1.cell (p := ⟨w8.heap.size, 1, none⟩) HSBQ.out).trans HS1.out; refine wanted_yes rfl (hI.r hd 5 86 false) ?_; clear hI hd hnd; go_simp
       exact hK.out _ _ (hS.other 10 (by decide) (Below.refl _ _) HBMV.out) (Ks.of rfl rfl) (fun _ _ _ _ h => h)
     · intro _ A0 w2 hI hd hnd K hK; have e0 := hI.p hd 6 87; have e1 := hI.p hd 8 89; have e2 := hI.p hd 10 91; have hS := hI.world
       obtain ⟨xd_, gd_, hdo_⟩ := hI.got 2 _ 83 rfl rfl (Inv.up hI (Inv.up hI (Inv.dn hd 5 (by kernel_rfl)) 4 rfl (by kernel_rfl)) 2 rfl (by kernel_rfl))
       have hlk2 : LkC w2 L bm yy mm pp ne (k + 1) FB := (hdo_ _ rfl).2
       clear gd_ hdo_; refine wanted_yes rfl (hI.r hd 5 86 false) ?_; clear hI hd hnd; go_simp
       go_at_call 17
       refine (HPL.out w2 hlk2).mono ?_
       rintro e w3 ⟨rfl, h3⟩
       exact hK.out _ _ (hS.other 11 (by decide) h3 HBMV.out) (Ks.of rfl rfl) (Ks.keepD h3)
     · intro _ A0 w2 hI hd hnd K hK; have e0 := hI.q hnd 9; have hS := hI.world; have hrange : w2.rangeAt w6.heap.size 0 LL := (HATL.out.fr hS.1).range
       have hisize := HLLI.out
       refine wanted_yes rfl (hI.r hd 5 86 false) ?_; clear hI hd hnd
       refine wp_load_mid 53 (.tmp 9) rfl _ _ (by simpa [Act.eval, Array.getD_eq_getD_getElem?] using e0) _ _ hrange Tryz.underlying53 rfl hisize ?_
       exact hK.out _ _ (hS.other 12 (by decide) (Below.refl _ _) HBMV.out) (Ks.of rfl rfl) (fun _ _ _ _ h => h)
     · intro _ A0 w2 hI hd hnd K hK; have e0 := hI.q hnd 12; have hS := hI.world; refine wanted_yes rfl (hI.r hd 5 86 false) ?_; clear hI hd hnd; go_simp
       exact hK.out _ _ (hS.other 13 (by decide) (Below.refl _ _) HBMV.out) (Ks.of rfl rfl) (fun _ _ _ _ h => h)
     · intro _ A0 w2 hI hd hnd K hK; have e0 := hI.p hd 13 94; have hS := hI.world; have hcc : w2.cell? ⟨w8.heap.size, 0, none⟩ = _ := (hS.1.cell (p := ⟨w8.heap.size, 0, none⟩) HSBQ.out).trans HS0.out; refine wanted_yes rfl (hI.r hd 5 86 false) ?_; clear hI hd hnd; go_simp
       exact hK.out _ _ (hS.other 14 (by decide) (Below.refl _ _) HBMV.out) (Ks.of rfl rfl) (fun _ _ _ _ h => h)
     · intro _ A0 w2 hI hd hnd K hK; have e0 := hI.q hnd 12; have hS := hI.world; refine wanted_yes rfl (hI.r hd 5 86 false) ?_; clear hI hd hnd; go_simp
       exact hK.out _ _ (hS.other 15 (by decide) (Below.refl _ _) HBMV.out) (Ks.of rfl rfl) (fun _ _ _ _ h => h)
     · intro _ A0 w2 hI hd hnd K hK; have e0 := hI.p hd 15 96; have hS := hI.world; have hcc : w2.cell? ⟨w8.heap.size, 1, none⟩ = _ := (hS.1.cell (p := ⟨w8.heap.size, 1, none⟩) HSBQ.out).trans HS1.out; refine wanted_yes rfl (hI.r hd 5 86 false) ?_; clear hI hd hnd; go_simp
       exact hK.out _ _ (hS.other 16 (by decide) (Below.refl _ _) HBMV.out) (Ks.of rfl rfl) (fun _ _ _ _ h => h)
     · intro _ A0 w2 hI hd hnd K hK; have e0 := hI.p hd 12 93; have e1 := hI.p hd 14 95; have e2 := hI.p hd 16 97; have hS := hI.world; refine wanted_yes rfl (hI.r hd 5 86 false) ?_; clear hI hd hnd; go_simp
       go_at_call 18
       refine (HRLK.out w2 hS.1).mono ?_
       rintro e w3 ⟨rfl, h3⟩
       exact hK.out _ _ (hS.other 17 (by decide) h3 HBMV.out) (Ks.of rfl rfl) (Ks.keepD h3)
     · intro _ A0 w2 hI hd hnd K hK; have e0 := hI.p hd 11 92; have e1 := hI.p hd 17 98; have hS := hI.world
       have hbb := HBB.out
       refine wanted_yes rfl (hI.r hd 5 86 false) ?_; clear hI hd hnd; go_simp
       exact hK.out _ _ (hS.other 18 (by decide) (Below.refl _ _) HBMV.out) (Ks.of rfl rfl) (fun _ _ _ _ h => h)
     · intro _ A0 w2 hI hd hnd K hK; have e0 := hI.p hd 5 86; have e1 := hI.p hd 18 99; have hS := hI.world; refine wanted_go rfl ?_; clear hI hd hnd; go_simp
       exact hK.out _ _ (hS.other 19 (by decide) (Below.refl _ _) HBMV.out) (Ks.of rfl rfl) (fun _ _ _ _ h => h)
   · intro _ A0 w2 hI hall; have hS := hI.world; have c9 := hI.ch hall [81, 82, 83, 84, 85, 86, 87, 88, 89, 90, 91, 92, 93, 94, 95, 96, 97, 98, 99, 100]; obtain ⟨x0, x1, x2, x3, x4, x5, x6, x7, x8, x9, x10, x11, x12, x13, x14, x15, x16, x17, x18, x19, hA, hV⟩ := c9
     have k2 : (IsDo L bm yy mm pp ne (k + 1) R FB) x2 w2 := hV 2 _ _ rfl _ rfl
     obtain rfl : x19 = .bool false := hV 19 _ _ rfl _ rfl
     clear hV hI hall
     simp only [setAll, List.foldl, List.setIfInBounds_toArray, List.set_cons_zero, List.set_cons_succ] at hA
     rw [hA]
     clear hA
     have hlkB : LkC w2 L bm yy mm pp ne (k + 1) FB := k2.2
     have hfr := hS.1
     have hb411 : Below w4.heap.size w4 w2 := HB4V.out.trans (hfr.mono (fun q (hq : q < w4.heap.size) => ⟨Nat.lt_of_lt_of_le hq HB4V.out.size, by have := HLB.out.2; omega⟩)).below
     clear hS k2
     generalize w2 = w11 at *
     have HLKB := Lib.hid hlkB
     have HB411 := Lib.hid hb411
     have HST11 := Lib.hid ((hfr.block _ HSBQ.out).trans HST.out)
     have HB9C11 := Lib.hid ((hfr.block _ (show (fun q => q < V.heap.size ∧ q ≠ bm) w6.heap.size from HATL.out.1)).trans HB9C.out)
     have HRL11 := Lib.hid (HRLV.out w11 hfr)
     have HLC11 := Lib.hid (kl_mono (kl_fr HLC.out (hfr.mono (fun q hq => ⟨hq.1, hq.2.1⟩))) (Q' := fun q => q < w11.heap.size ∧ q ≠ bm ∧ q ≠ w6.heap.size) (fun q hq => ⟨Nat.lt_of_lt_of_le hq.1 hfr.size, hq.2⟩))
     have HS711 := Lib.hid (show w7.heap.size ≤ w11.heap.size from Nat.le_trans (Nat.le_trans HS78.out (Nat.le_of_lt HSBV.out)) hfr.size)
     have HUN := Lib.hid (until_c L bm yy mm pp ne (k + 1) FB se w11 hlkB HPOS.out)
     have c0 := blk_cell HST11.out 0
     clear hlkB hb411 hfr
     go_wp2_with fail
     refine HUN.out.mono ?_
     rintro e w12 ⟨last, hm, hlo, rfl, hb12⟩
     have HMP := Lib.hid hm
     have HST12 := Lib.hid ((hb12.block _ (blk_lt HST11.out)).trans HST11.out)
     have HB9C12 := Lib.hid ((hb12.block _ (blk_lt HB9C11.out)).trans HB9C11.out)
     have HB12 := Lib.hid hb12
     have hru := runtil_c g KS LL se FB w12 (HRL11.out.keep hb12) HLKK.out (fun c h => (HPOS.out c h).1)
     rw [HEQ.out.1, HEQ.out.2.1, HEQ.out.2.2.1] at hru
     have HRU := Lib.hid hru
     clear c0 hm hlo hb12 hru
     have c0 := blk_cell HST12.out 0
     go_wp2_with (show wpList _ _ _ (Oper.mk (some 109) _ _ _ _ _ :: _) _ _; refine wpList_load_row_g rfl 53 (.tmp 9) rfl (w6.heap.size) rfl _ _ _ _ HB9C12.out Tryz.underlying53 rfl HLLJ.out ?_)
     refine HRU.out.mono ?_
     rintro e w14 ⟨last2, hm2, hlo2, rfl, hb14⟩
     obtain rfl : last = last2 := MostP.uniq (fun c h => (HPOS.out c h).1) HMP.out hm2
     have HB14 := Lib.hid (HB12.out.trans (hb14.mono HB12.out.size))
     obtain ⟨dd, hdd⟩ : ∃ d, untD yy mm pp last = d := ⟨_, rfl⟩
     obtain ⟨lo, hlo3⟩ : ∃ d, decide (0 ≤ last) = d := ⟨_, rfl⟩
     rw [hdd, hlo3]
     have HLOO := Lib.hid (show (lo != lo) = false by simp)
     clear hm2 hlo2 hb14 hdd hlo3 c0
     have HB414 := Lib.hid (HB411.out.trans (HB14.out.mono HB411.out.size))
     have HATX := Lib.hid (show At w14 (· < w14.heap.size) ⟨w.heap.size + 1, 0, none⟩ [.int .i64 xi, .int .i64 xe, .int .i64 xd, .int .i64 xk, .int .i64 xo, .string xt, .slice Al nl cl] from ⟨Nat.lt_of_lt_of_le HLT4.out HB414.out.size, (box_at (cs := [.int .i64 xi, .int .i64 xe, .int .i64 xd, .int .i64 xk, .int .i64 xo, .string xt, .slice Al nl cl]) ((HB414.out.block _ HLT4.out).trans HZ4.out)).2⟩)
     have HB9C14 := Lib.hid ((HB14.out.block _ (blk_lt HB9C11.out)).trans HB9C11.out)
     have HB9L := Lib.hid (blk_lt HB9C14.out)
     have HATL := Lib.hid (show At w14 (· < w14.heap.size) ⟨w6.heap.size, 0, none⟩ LL from ⟨HB9L.out, (box_at (cs := LL) HB9C14.out).2⟩)
     have HC21 := Lib.hid (show w14.cell? ⟨w6.heap.size, 21, none⟩ = some (.slice AK KS.length cK) from (blk_cell HB9C14.out 21).trans (by rw [← HLL.out]; simp [HGL.out]))
     have HPC := Lib.hid (fun (w2 : World) (hS : Below w14.heap.size w14 w2) => lcheck_c L bm yy mm pp ne (k + 1) FB xi xe xd xk xo xt Al nl cl w2 ((HLKB.out.below HB14.out).below hS) HPOS.out)
     have HRC := Lib.hid (fun (w2 : World) (hS : Below w14.heap.size w14 w2) => show Calls Tryz.prog 22 #[.agg LL.toArray, .agg #[.int .i64 xi, .int .i64 xe, .int .i64 xd, .int .i64 xk, .int .i64 xo, .string xt, .slice Al nl cl]] w2 (CkPost yy mm pp ne FB xe xd w2) by
      have h := rcheck13_c g KS LL FB xi xe xd xk xo xt Al nl cl w2 ((HRL11.out.keep HB14.out).keep hS) HLKK.out (fun c h => (HPOS.out c h).1)
      rw [HEQ.out.1, HEQ.out.2.1, HEQ.out.2.2.1, HEQ.out.2.2.2] at h
      exact h)
     have HCU := Lib.hid (fun (r1 r2 : Int) (h1 : ckP yy mm pp ne FB xe xd r1) (h2 : ckP yy mm pp ne FB xe xd r2) => ckP.uniq (fun c h => (HPOS.out c h).1) (fun _ _ => rfl) h1 h2)
     unfold CkPost at HPC HRC
     have HLS_ := Lib.hid (fun (w2 : World) (hS : Below w14.heap.size w14 w2) => show Calls Tryz.prog 25 #[.pointer (some ⟨L, 0, none⟩)] w2 (fun e w' => ∃ v, e = .returned v ∧ IsKl KS v w' ∧ Below w2.heap.size w2 w') from
      (listN_c L bm yy mm pp ne (k + 1) FB w2 ((HLKB.out.below HB14.out).below hS) (by have := HLTN.out; have := HN30.out; omega)).mono (fun e w' ⟨A1, c1, k1, h1, h2, h3, h4, h5⟩ => by
       obtain rfl : k1 = KS := ListK.uniq (fun _ => rfl) h2 HLKK.out
       exact ⟨_, h1, ⟨A1, c1, rfl, kl_mono h3 (fun q hq => hq.2)⟩, h4⟩))
     have HFR := Lib.hid (fun (Af : Option Addr) (cf : Nat) (w2 : World) (hl : ListC KC 2 w2 (· < w2.heap.size) [.slice Af KS.length cf] KS) => show Calls Tryz.prog 24 #[.slice Af KS.length cf] w2 (fun e w' => ∃ v, e = .returned v ∧ IsKl KS v w' ∧ Below w2.heap.size w2 w') from
      (from_c KS Af cf w2 hl (by have := HLEK.out; have := HLTN.out; have := HN30.out; omega)).mono (fun e w' ⟨A1, c1, h1, h3, h4⟩ => ⟨_, h1, ⟨A1, c1, rfl, kl_mono h3 (fun q hq => hq.2)⟩, h4⟩))
     have HSM := Lib.hid (fun (Af : Option Addr) (cf : Nat) (w2 : World) (hl : ListC KC 2 w2 (· < w2.heap.size) [.slice Af KS.length cf] KS) (hS : Below w14.heap.size w14 w2) => same13_c KS Af AK cf cK w2 hl (ks_keep (fun q hq => hq.1) (kl_mono (kl_fr HLC11.out ((Fr.ofBelow HB14.out).mono (fun q hq => hq.1))) (Q' := fun q => q < w14.heap.size ∧ q ≠ bm ∧ q ≠ w6.heap.size) (fun q hq => ⟨Nat.lt_of_lt_of_le hq.1 HB14.out.size, hq.2⟩)) hS))
     go_upto_region 18 with fail
     refine wp_region_inv' (Ks w14 [.val (.int .i64 dd), .val (.int .i64 dd), .val (.bool false), .val (.bool false), .val (.bool lo), .val (.bool lo), .val (.bool false), .val (.bool false), .val (.bool false), .val (.pointer (some ⟨L, 0, none⟩)), .val (.agg #[.int .i64 xi, .int .i64 xe, .int .i64 xd, .int .i64 xk, .int .i64 xo, .string xt, .slice Al nl cl]), .own (IsCk yy mm pp ne FB xe xd) (IsCk.keep), .val (.agg LL.toArray), .val (.agg #[.int .i64 xi, .int .i64 xe, .int .i64 xd, .int .i64 xk, .int .i64 xo, .string xt, .slice Al nl cl]), .own (IsCk yy mm pp ne FB xe xd) (IsCk.keep), .val (.bool false), .val (.bool false), .val (.bool false), .val (.pointer (some ⟨L, 0, none⟩)), .own (IsKl KS) (IsKl.keep), .own (IsKl KS) (IsKl.keep), .val (.pointer (some ⟨w6.heap.size, 21, none⟩)), .val (.slice AK KS.length cK), .val (.bool true), .val (.bool false), .val (.bool false)])
      (fun w' => Below w14.heap.size w14 w') (by kernel_rfl) (by kernel_rfl) (by kernel_rfl) (Below.refl _ _).drew ?_ ?_
     · refine ⟨?_, ?_, ?_, ?_, ?_, ?_, ?_, ?_, ?_, ?_, ?_, ?_, ?_, ?_, ?_, ?_, ?_, ?_, ?_, ?_, ?_, ?_, ?_, ?_, ?_, ?_, trivial⟩
       · intro _ A0 w2 hI hd hnd K hK; have e0 := hI.q hnd 14; exact hI.z hK
       · intro _ A0 w2 hI hd hnd K hK; have e0 := hI.q hnd 16; exact hI.z hK
       · intro _ A0 w2 hI hd hnd K hK; have e0 := hI.p hd 0 115; have e1 := hI.p hd 1 116; exact hI.z hK
       · intro _ A0 w2 hI hd hnd K hK; have e0 := hI.p hd 2 117; exact hI.z hK
       · intro _ A0 w2 hI hd hnd K hK; have e0 := hI.q hnd 15; exact hI.z1 hK (hI.r hd 3 118 false)
       · intro _ A0 w2 hI hd hnd K hK; have e0 := hI.q hnd 17; exact hI.z1 hK (hI.r hd 3 118 false)
       · intro _ A0 w2 hI hd hnd K hK; have e0 := hI.p hd 4 119; have e1 := hI.p hd 5 120; have hS := hI.world
         have hlo := HLOO.out
         exact hI.z1 hK (hI.r hd 3 118 false)
       · intro _ A0 w2 hI hd hnd K hK; have e0 := hI.p hd 3 118; have e1 := hI.p hd 6 121; exact hI.z hK
       · intro _ A0 w2 hI hd hnd K hK; have e0 := hI.p hd 7 122; exact hI.z hK
       · intro _ A0 w2 hI hd hnd K hK; have e0 := hI.q hnd 7; exact hI.z1 hK (hI.r hd 8 123 false)
       · intro _ A0 w2 hI hd hnd K hK; have e0 := hI.q hnd 5; have hS := hI.world; have hrange : w2.rangeAt (w.heap.size + 1) 0 [.int .i64 xi, .int .i64 xe, .int .i64 xd, .int .i64 xk, .int .i64 xo, .string xt, .slice Al nl cl] := (HATX.out.fr (Fr.ofBelow hS)).range; have hisize := info_entry; refine wanted_yes rfl (hI.r hd 8 123 false) ?_; clear hI hd hnd
         refine wp_load_mid 46 (.tmp 5) rfl _ _ (by simpa [Act.eval, Array.getD_eq_getD_getElem?] using e0) _ _ hrange Tryz.underlying46 rfl hisize ?_
         exact kq hK hS rfl
       · intro _ A0 w2 hI hd hnd K hK; have e0 := hI.p hd 9 124; have e1 := hI.p hd 10 125; have hS := hI.world; refine wanted_yes rfl (hI.r hd 8 123 false) ?_; clear hI hd hnd; go_simp
         go_at_call 21
         refine (HPC.out w2 hS).mono ?_
         rintro e w3 ⟨r, rfl, hr, h3⟩
         exact hK.out _ _ (hS.trans (h3.mono hS.size)) (Ks.of rfl ⟨r, rfl, hr⟩) (Ks.keep h3)
       · intro _ A0 w2 hI hd hnd K hK; have e0 := hI.q hnd 9; have hS := hI.world; have hrange : w2.rangeAt w6.heap.size 0 LL := (HATL.out.fr (Fr.ofBelow hS)).range
         have hisize := HLLI.out
         refine wanted_yes rfl (hI.r hd 8 123 false) ?_; clear hI hd hnd
         refine wp_load_mid 53 (.tmp 9) rfl _ _ (by simpa [Act.eval, Array.getD_eq_getD_getElem?] using e0) _ _ hrange Tryz.underlying53 rfl hisize ?_
         exact kq hK hS rfl
       · intro _ A0 w2 hI hd hnd K hK; have e0 := hI.q hnd 5; have hS := hI.world; have hrange : w2.rangeAt (w.heap.size + 1) 0 [.int .i64 xi, .int .i64 xe, .int .i64 xd, .int .i64 xk, .int .i64 xo, .string xt, .slice Al nl cl] := (HATX.out.fr (Fr.ofBelow hS)).range; have hisize := info_entry; refine wanted_yes rfl (hI.r hd 8 123 false) ?_; clear hI hd hnd
         refine wp_load_mid 46 (.tmp 5) rfl _ _ (by simpa [Act.eval, Array.getD_eq_getD_getElem?] using e0) _ _ hrange Tryz.underlying46 rfl hisize ?_
         exact kq hK hS rfl
       · intro _ A0 w2 hI hd hnd K hK; have e0 := hI.p hd 12 127; have e1 := hI.p hd 13 128; have hS := hI.world; refine wanted_yes rfl (hI.r hd 8 123 false) ?_; clear hI hd hnd; go_simp
         go_at_call 22
         refine (HRC.out w2 hS).mono ?_
         rintro e w3 ⟨r, rfl, hr, h3⟩
         exact hK.out _ _ (hS.trans (h3.mono hS.size)) (Ks.of rfl ⟨r, rfl, hr⟩) (Ks.keep h3)
       · intro _ A0 w2 hI hd hnd K hK
         obtain ⟨x0, e0, h0⟩ := hI.dep hd 11 126 rfl rfl rfl (by kernel_rfl)
         obtain ⟨x1, e1, h1⟩ := hI.dep hd 14 129 rfl rfl rfl (by kernel_rfl)
         have hS := hI.world
         obtain ⟨r1, rfl, hr1⟩ := h0
         obtain ⟨r2, rfl, hr2⟩ := h1
         obtain rfl : r1 = r2 := HCU.out r1 r2 hr1 hr2
         clear hr1 hr2; exact hI.z1 hK (hI.r hd 8 123 false)
       · intro _ A0 w2 hI hd hnd K hK; have e0 := hI.p hd 8 123; have e1 := hI.p hd 15 130; exact hI.z hK
       · intro _ A0 w2 hI hd hnd K hK; have e0 := hI.p hd 16 131; exact hI.z hK
       · intro _ A0 w2 hI hd hnd K hK; have e0 := hI.q hnd 7; exact hI.z1 hK (hI.r hd 17 132 false)
       · intro _ A0 w2 hI hd hnd K hK; have e0 := hI.p hd 18 133; have hS := hI.world; refine wanted_yes rfl (hI.r hd 17 132 false) ?_; clear hI hd hnd; go_simp
         go_at_call 25
         refine (HLS_.out w2 hS).mono ?_
         rintro e w3 hp
         obtain ⟨v, rfl, hv, h3⟩ := hp
         exact hK.out _ _ (hS.trans (h3.mono hS.size)) (Ks.of rfl hv) (Ks.keep h3)
       · intro _ A0 w2 hI hd hnd K hK
         obtain ⟨x0, e0, h0⟩ := hI.dep hd 19 134 rfl rfl rfl (by kernel_rfl)
         have hS := hI.world
         obtain ⟨Af, cf, rfl, hlf⟩ := h0
         refine wanted_yes rfl (hI.r hd 17 132 false) ?_; clear hI hd hnd; go_simp
         go_at_call 24
         refine (HFR.out Af cf w2 hlf).mono ?_
         rintro e w3 hp
         obtain ⟨v, rfl, hv, h3⟩ := hp
         exact hK.out _ _ (hS.trans (h3.mono hS.size)) (Ks.of rfl hv) (Ks.keep h3)
       · intro _ A0 w2 hI hd hnd K hK; have e0 := hI.q hnd 9; exact hI.z1 hK (hI.r hd 17 132 false)
       · intro _ A0 w2 hI hd hnd K hK; have e0 := hI.p hd 21 136; have hS := hI.world; have hcc : w2.cell? ⟨w6.heap.size, 21, none⟩ = _ := (hS.cell (p := ⟨w6.heap.size, 21, none⟩) HB9L.out).trans HC21.out; exact hI.z1 hK (hI.r hd 17 132 false)
       · intro _ A0 w2 hI hd hnd K hK
         obtain ⟨x0, e0, h0⟩ := hI.dep hd 20 135 rfl rfl rfl (by kernel_rfl)
         have e1 := hI.p hd 22 137; have hS := hI.world
         obtain ⟨Af, cf, rfl, hlf⟩ := h0
         refine wanted_yes rfl (hI.r hd 17 132 false) ?_; clear hI hd hnd; go_simp
         go_at_call 23
         refine (HSM.out Af cf w2 hlf hS).mono ?_
         rintro e w3 ⟨rfl, h3⟩
         exact hK.out _ _ (hS.trans (h3.mono hS.size)) (Ks.of rfl rfl) (Ks.keep h3)
       · intro _ A0 w2 hI hd hnd K hK; have e0 := hI.p hd 23 138; exact hI.z1 hK (hI.r hd 17 132 false)
       · intro _ A0 w2 hI hd hnd K hK; have e0 := hI.p hd 17 132; have e1 := hI.p hd 24 139; exact hI.z hK
     · intro _ A0 w2 hI hall; have hS := hI.world; have c9 := hI.ch hall [115, 116, 117, 118, 119, 120, 121, 122, 123, 124, 125, 126, 127, 128, 129, 130, 131, 132, 133, 134, 135, 136, 137, 138, 139, 140]; obtain ⟨x0, x1, x2, x3, x4, x5, x6, x7, x8, x9, x10, x11, x12, x13, x14, x15, x16, x17, x18, x19, x20, x21, x22, x23, x24, x25, hA, hV⟩ := c9
       obtain rfl : x25 = .bool false := hV 25 _ _ rfl _ rfl
       clear hV hI hall
       simp only [setAll, List.foldl, List.setIfInBounds_toArray, List.set_cons_zero, List.set_cons_succ] at hA
       rw [hA]
       clear hA
       have HB15 := Lib.hid (HB14.out.trans (hS.mono HB14.out.size))
       have HS15 := Lib.hid hS.size
       clear hS
       go_wp2_with fail
       go_roundw
       case rel =>
        have hrs := (show RSt gl w6.heap.size bm FB (k + 1) w11 from ⟨AK, cK, KS, by rw [HLL.out]; exact HB9C11.out, HLC11.out, HLKK.out, HLEK.out⟩).fr ((Fr.ofBelow HB15.out).mono (fun q hq => hq.1)) (by have := HLBB.out.2; omega)
        exact ⟨k + 1, by have := HLTN.out; omega, by go_num, by rw [HFB.out]; exact HLKB.out.below HB15.out, by rw [HFB.out]; exact hrs, HB411.out.trans (HB15.out.mono HB411.out.size), Nat.le_trans HS711.out HB15.out.size⟩
       case measure => first | exact meas_v HLTN.out | (have := HLTN.out; simp only [intOf]; omega)
  case neg =>
   have hltI : ¬ (k : Int) < (n : Int) := by omega
   obtain ⟨FB, hFB⟩ : ∃ F, FA = F := ⟨_, rfl⟩
   rw [hFB] at HLK8 HRS8 HPOSA
   have HPOS := Lib.hid HPOSA.out
   have hrs8 := HRS8.out
   obtain ⟨AK, cK, KS, hB9c, hlc, hlk, hle⟩ := hrs8
   obtain ⟨LL, hLL⟩ : ∃ LL, (gl ++ ([.slice AK KS.length cK] : List Value)) = LL := ⟨_, rfl⟩
   rw [hLL] at hB9c
   have HLL := Lib.hid hLL
   have HB9C := Lib.hid hB9c
   have HLC := Lib.hid hlc
   have HLKK := Lib.hid hlk
   have HLEK := Lib.hid hle
   have HLLN := Lib.hid (show LL.length = 22 by rw [← hLL, List.length_append, HGL.out]; rfl)
   have HLLI := Lib.hid (show (Tryz.prog.info? 53).map (·.size) = some LL.length by rw [info_locks, HLLN.out])
   have HLLJ := Lib.hid (show (Tryz.prog.info? 53).map (·.size) = some LL.toArray.size by rw [info_locks]; simp [HLLN.out])
   clear hLL hB9c hlc hlk hle
   have hrl : RLk w8 (· < w8.heap.size) LL g KS := ⟨gl, AK, cK, HLL.out.symm, HG.out.keep (hb04.trans (HB48.out.mono hb04.size)), kl_mono HLC.out (fun q hq => hq.1)⟩
   have HATX := Lib.hid (show At w8 (· < w8.heap.size) ⟨w.heap.size + 1, 0, none⟩ [.int .i64 xi, .int .i64 xe, .int .i64 xd, .int .i64 xk, .int .i64 xo, .string xt, .slice Al nl cl] from ⟨Nat.lt_of_lt_of_le HLT4.out HB48.out.size, (box_at (cs := [.int .i64 xi, .int .i64 xe, .int .i64 xd, .int .i64 xk, .int .i64 xo, .string xt, .slice Al nl cl]) ((HB48.out.block _ HLT4.out).trans HZ4.out)).2⟩)
   have HATL := Lib.hid (show At w8 (· < w8.heap.size) ⟨w6.heap.size, 0, none⟩ LL from ⟨blk_lt HB9C.out, (box_at (cs := LL) HB9C.out).2⟩)
   have HPC := Lib.hid (fun (w2 : World) (hS : Below w8.heap.size w8 w2) => lcheck_c L bm yy mm pp ne k FB xi xe xd xk xo xt Al nl cl w2 ((HLK8.out).below hS) HPOS.out)
   have HRC := Lib.hid (fun (w2 : World) (hS : Below w8.heap.size w8 w2) => show Calls Tryz.prog 22 #[.agg LL.toArray, .agg #[.int .i64 xi, .int .i64 xe, .int .i64 xd, .int .i64 xk, .int .i64 xo, .string xt, .slice Al nl cl]] w2 (CkPost yy mm pp ne FB xe xd w2) by
    have h := rcheck13_c g KS LL FB xi xe xd xk xo xt Al nl cl w2 ((hrl).keep hS) HLKK.out (fun c h => (HPOS.out c h).1)
    rw [HEQ.out.1, HEQ.out.2.1, HEQ.out.2.2.1, HEQ.out.2.2.2] at h
    exact h)
   have HCU := Lib.hid (fun (r1 r2 : Int) (h1 : ckP yy mm pp ne FB xe xd r1) (h2 : ckP yy mm pp ne FB xe xd r2) => ckP.uniq (fun c h => (HPOS.out c h).1) (fun _ _ => rfl) h1 h2)
   unfold CkPost at HPC HRC
   clear hrl hFB
   go_upto_region 21 with fail
   refine wp_region_inv' (Ks w8 [.val (.pointer (some ⟨L, 0, none⟩)), .val (.agg #[.int .i64 xi, .int .i64 xe, .int .i64 xd, .int .i64 xk, .int .i64 xo, .string xt, .slice Al nl cl]), .own (IsCk yy mm pp ne FB xe xd) (IsCk.keep), .val (.agg LL.toArray), .val (.agg #[.int .i64 xi, .int .i64 xe, .int .i64 xd, .int .i64 xk, .int .i64 xo, .string xt, .slice Al nl cl]), .own (IsCk yy mm pp ne FB xe xd) (IsCk.keep), .val (.bool true), .val (.bool true)])
    (fun w' => Below w8.heap.size w8 w') (by kernel_rfl) (by kernel_rfl) (by kernel_rfl) (Below.refl _ _).drew ?_ ?_
   · refine ⟨?_, ?_, ?_, ?_, ?_, ?_, ?_, ?_, trivial⟩
     · intro _ A0 w2 hI hd hnd K hK; have e0 := hI.q hnd 7; exact hI.z hK
     · intro _ A0 w2 hI hd hnd K hK; have e0 := hI.q hnd 5; have hS := hI.world; have hrange : w2.rangeAt (w.heap.size + 1) 0 [.int .i64 xi, .int .i64 xe, .int .i64 xd, .int .i64 xk, .int .i64 xo, .string xt, .slice Al nl cl] := (HATX.out.fr (Fr.ofBelow hS)).range; have hisize := info_entry; refine wanted_go rfl ?_; clear hI hd hnd
       refine wp_load_mid 46 (.tmp 5) rfl _ _ (by simpa [Act.eval, Array.getD_eq_getD_getElem?] using e0) _ _ hrange Tryz.underlying46 rfl hisize ?_
       exact kq hK hS rfl
     · intro _ A0 w2 hI hd hnd K hK; have e0 := hI.p hd 0 142; have e1 := hI.p hd 1 143; have hS := hI.world; refine wanted_go rfl ?_; clear hI hd hnd; go_simp
       go_at_call 21
       refine (HPC.out w2 hS).mono ?_
       rintro e w3 ⟨r, rfl, hr, h3⟩
       exact hK.out _ _ (hS.trans (h3.mono hS.size)) (Ks.of rfl ⟨r, rfl, hr⟩) (Ks.keep h3)
     · intro _ A0 w2 hI hd hnd K hK; have e0 := hI.q hnd 9; have hS := hI.world; have hrange : w2.rangeAt w6.heap.size 0 LL := (HATL.out.fr (Fr.ofBelow hS)).range
       have hisize := HLLI.out
       refine wanted_go rfl ?_; clear hI hd hnd
       refine wp_load_mid 53 (.tmp 9) rfl _ _ (by simpa [Act.eval, Array.getD_eq_getD_getElem?] using e0) _ _ hrange Tryz.underlying53 rfl hisize ?_
       exact kq hK hS rfl
     · intro _ A0 w2 hI hd hnd K hK; have e0 := hI.q hnd 5; have hS := hI.world; have hrange : w2.rangeAt (w.heap.size + 1) 0 [.int .i64 xi, .int .i64 xe, .int .i64 xd, .int .i64 xk, .int .i64 xo, .string xt, .slice Al nl cl] := (HATX.out.fr (Fr.ofBelow hS)).range; have hisize := info_entry; refine wanted_go rfl ?_; clear hI hd hnd
       refine wp_load_mid 46 (.tmp 5) rfl _ _ (by simpa [Act.eval, Array.getD_eq_getD_getElem?] using e0) _ _ hrange Tryz.underlying46 rfl hisize ?_
       exact kq hK hS rfl
     · intro _ A0 w2 hI hd hnd K hK; have e0 := hI.p hd 3 145; have e1 := hI.p hd 4 146; have hS := hI.world; refine wanted_go rfl ?_; clear hI hd hnd; go_simp
       go_at_call 22
       refine (HRC.out w2 hS).mono ?_
       rintro e w3 ⟨r, rfl, hr, h3⟩
       exact hK.out _ _ (hS.trans (h3.mono hS.size)) (Ks.of rfl ⟨r, rfl, hr⟩) (Ks.keep h3)
     · intro _ A0 w2 hI hd hnd K hK
       obtain ⟨x0, e0, h0⟩ := hI.dep hd 2 144 rfl rfl rfl (by kernel_rfl)
       obtain ⟨x1, e1, h1⟩ := hI.dep hd 5 147 rfl rfl rfl (by kernel_rfl)
       have hS := hI.world
       obtain ⟨r1, rfl, hr1⟩ := h0
       obtain ⟨r2, rfl, hr2⟩ := h1
       obtain rfl : r1 = r2 := HCU.out r1 r2 hr1 hr2
       clear hr1 hr2; exact hI.z hK
     · intro _ A0 w2 hI hd hnd K hK; have e0 := hI.p hd 6 148; exact hI.z hK
   · intro _ A0 w2 hI hall; have hS := hI.world; have c9 := hI.ch hall [142, 143, 144, 145, 146, 147, 148, 6]; obtain ⟨x0, x1, x2, x3, x4, x5, x6, x7, hA, hV⟩ := c9
     obtain rfl : x7 = .bool true := hV 7 _ _ rfl _ rfl
     clear hV hI hall
     simp only [setAll, List.foldl, List.setIfInBounds_toArray, List.set_cons_zero, List.set_cons_succ] at hA
     rw [hA]
     clear hA
     have hbe := hb04.trans (HB48.out.mono hb04.size)
     go_wp2_with fail
     go_ret
     exact ⟨rfl, hbe.trans (hS.mono hbe.size)⟩
end Go.Proofs.YtekelchdbkjjjaaGreat
