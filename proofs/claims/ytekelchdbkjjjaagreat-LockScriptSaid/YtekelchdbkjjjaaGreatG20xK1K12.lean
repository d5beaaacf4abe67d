/- Locks as keys of a map; the set of locks. -/
import Derived.Test.YtekelchdbkjjjaaGreatG20xB0B2
import Derived.Test.YtekelchdbkjjjaaGreatG20xB3B8
import Derived.Test.YtekelchdbkjjjaaGreatG20xB14
import Derived.Test.YtekelchdbkjjjaaGreatG20xB17B24
import Derived.Test.YtekelchdbkjjjaaGreatG20xB25B28
import Derived.Test.YtekelchdbkjjjaaGreatG20xB29B32
import Derived.Test.YtekelchdbkjjjaaGreatG20xB33C3
import Derived.Test.YtekelchdbkjjjaaGreatG20xC4I2
import Derived.Test.YtekelchdbkjjjaaGreatG20xI3I16
import Derived.Test.YtekelchdbkjjjaaGreatProg
import Derived.Maps.RangeWalk
set_option linter.unusedVariables false
set_option linter.unusedSimpArgs false
set_option maxRecDepth 4000
attribute [local go_sem ↓] Go.wp_at_zero Go.wp_at_succ
namespace Go.Proofs.YtekelchdbkjjjaaGreat
open Go Go.RowKit Go.ChangeMaps
open Go.Maps (Keyed)
open Go.WideMaps (KeyLaw)
theorem lock_row : (100 : TypeId) < Tryz.prog.types.size := of_decide_eq_true (by kernel_rfl)
theorem lock_wide : (match Tryz.prog.underlying 100 with | some (.array _ _) | some (.struct _) => true | _ => false) = true := by kernel_rfl
theorem lock_law : KeyLaw Tryz.prog 100 := deep_law_laid try_laidOut (m := 2) (by omega) lock_row (by kernel_rfl) lock_wide
theorem lock_keyed : Keyed Tryz.prog 100 := Keyed.of_law lock_law
theorem lock_cells : Tryz.prog.cellsOf 100 = 2 := by kernel_rfl
theorem lock_keyLits {d : Nat} {a z : Int} (ha : intBd a) (hz : intBd z) : Tryz.prog.keyLits (d + 2) 100 [.int .i64 a, .int .i64 z] = some [.int .i64 a, .int .i64 z] := by
 unfold Program.keyLits
 rw [Tryz.underlying100]
 have h1 := keyLits_int (d := d) ha
 have h2 := keyLits_int (d := d) hz
 simp [lock_cells, int_cells, h1, h2]
theorem lock_keyType : Tryz.prog.keyType 100 = true := by kernel_rfl
theorem lock_isStruct : ∃ fs, Tryz.prog.underlying 100 = some (.struct fs) := ⟨_, Tryz.underlying100⟩
theorem lock_formed {a b : Value} : (Value.agg #[a, b]).formed Tryz.prog 100 = true := by
 obtain ⟨fs, hu⟩ := lock_isStruct
 simp [Value.formed, hu, lock_cells]
abbrev KK := {p : Int × Int // intBd p.1 ∧ intBd p.2}
def kKey (c : KK) : Lit := .string (keyBytes [.int .i64 c.1.1, .int .i64 c.1.2])
def kVal (c : KK) : Value := .agg #[.int .i64 c.1.1, .int .i64 c.1.2]
theorem kKey_of (c : KK) : keyOf Tryz.prog 100 (kVal c) = some (kKey c) := by
 obtain ⟨fs, hu⟩ := lock_isStruct
 obtain ⟨d, hd⟩ := types_size
 unfold keyOf kVal
 rw [hu]
 simp only [lock_keyType, lock_formed, Bool.and_self, if_true, hd, Value.cells]
 rw [lock_keyLits c.2.1 c.2.2]; rfl
theorem kKey_inj (x y : KK) (h : kKey x = kKey y) : x = y := by
 have h1 := kKey_of x
 have h2 := kKey_of y
 rw [← h] at h2
 have h3 := lock_keyed.inj h1 h2
 have h4 := congrArg Array.toList (Value.agg.inj h3)
 simp only [List.cons.injEq, Value.int.injEq, true_and, and_true] at h4
 exact Subtype.ext (Prod.ext h4.1 h4.2)
theorem kKey_lit (x : KK) : WideAt.IsKeyLit (kKey x) := trivial
theorem kmap_uty : Tryz.prog.underlying 94 = some (.map 100 4) := by kernel_rfl
def MapL (w : World) (b n : Nat) (f : KK → Bool) : Prop :=
 ∃ D : UD, w.ownsMap Tryz.prog 100 (plainElem Tryz.prog 4) b n D ∧ ∀ c : KK, Maps.has D (kKey c) = f c ∧ D.atKey (kKey c) (.lit (.bool false)) = .lit (.bool (f c))
section
variable {w w' : World} {b n : Nat} {f : KK → Bool}
theorem MapL.made (w : World) : MapL (w.alloc (.map #[] 0)) w.heap.size 0 (fun _ => false) := ⟨_, World.ownsMap_made w Tryz.prog 100 _, fun _ => ⟨rfl, rfl⟩⟩
theorem MapL.lt (h : MapL w b n f) : b < w.heap.size := by
 obtain ⟨D, h1, h2⟩ := h
 exact h1.lt
theorem MapL.same (h : MapL w b n f) (hb : w'.heap[b]? = w.heap[b]?) : MapL w' b n f := by
 obtain ⟨D, ⟨es, clock, h1, h3, h4, h5⟩, h2⟩ := h
 exact ⟨D, ⟨es, clock, hb.trans h1, h3, h4, h5⟩, h2⟩
theorem MapL.fr {Q : Nat → Prop} (h : MapL w b n f) (hf : Fr Q w w') (hb : Q b) : MapL w' b n f := h.same (hf.block b hb)
theorem MapL.below (h : MapL w b n f) (hb : Below w.heap.size w w') : MapL w' b n f := h.fr (Fr.ofBelow hb) h.lt
theorem MapL.mono (h : MapL w b n f) {n' : Nat} (hn : n ≤ n') : MapL w b n' f := by
 obtain ⟨D, h1, h2⟩ := h
 exact ⟨D, h1.mono hn, h2⟩
theorem MapL.eqv {g : KK → Bool} (h : MapL w b n f) (hg : ∀ c, f c = g c) : MapL w b n g := by
 obtain ⟨D, h1, h2⟩ := h
 exact ⟨D, h1, fun c => by rw [← hg c]; exact h2 c⟩
theorem MapL.look (h : MapL w b n f) (c : KK) : (Instr.lookup 94 (.map (some b)) (kVal c) false).run Tryz.prog w = .ok (.bool (f c)) w := by
 obtain ⟨D, h1, h2⟩ := h
 obtain ⟨v, ps, hrun, hv⟩ := h1.lookup lock_keyed kmap_uty (bool_zero w) (plainElem_bool bool_uty false) (kKey_of c)
 obtain ⟨a, rfl, ha⟩ := plainElem_bool_inv bool_uty hv
 rw [(h2 c).2] at ha
 simp only [Prod.mk.injEq, DataW.lit.injEq, Lit.bool.injEq] at ha
 rw [hrun, ha.1]
theorem fr_turned {w w' : World} {b : Nat} (h : w.mapTurned w' b) : Fr (fun q => q ≠ b) w w' ∧ w'.heap.size = w.heap.size := by
 obtain ⟨es, clock, es', clock', hb, rfl⟩ := h
 exact ⟨⟨rfl, rfl, rfl, by simp [setBlock], fun i hi => heap_setBlock_other hb _ hi⟩, by simp [setBlock]⟩
theorem MapL.store (h : MapL w b n f) (hn : n < maxLen) (c : KK) :
 ∃ w', (Instr.mapUpdate 94 (.map (some b)) (kVal c) (.bool true)).run Tryz.prog w = .ok () w' ∧ MapL w' b (n + 1) (fun d => if d = c then true else f d) ∧ Fr (fun q => q ≠ b) w w' ∧ w'.heap.size = w.heap.size := by
 obtain ⟨D, h1, h2⟩ := h
 obtain ⟨w2, hrun, h3, h4⟩ := h1.store lock_keyed kmap_uty hn (kKey_of c) (plainElem_bool bool_uty true)
 have hm : Maps.IsMap D := h1.isMap
 refine ⟨w2, hrun, ⟨_, h3, fun d => ?_⟩, fr_turned h4⟩
 by_cases hd : d = c
 · subst hd
   rw [Maps.atKey_put_same hm (kKey_lit d), Maps.has_put_same hm (kKey_lit d)]; simp
 · have hne : kKey d ≠ kKey c := fun e => hd (kKey_inj _ _ e)
   rw [Maps.atKey_put_other hne, Maps.has_put_other hne]; simp only [if_neg hd]; exact h2 d
theorem MapL.drop (h : MapL w b n f) (c : KK) (ty : TypeId) :
 ∃ w', (Builtin.delete_ #[94, 100] ty #[.map (some b), kVal c]).run Tryz.prog w = .ok (.tuple #[]) w' ∧ MapL w' b n (fun d => if d = c then false else f d) ∧ Fr (fun q => q ≠ b) w w' ∧ w'.heap.size = w.heap.size := by
 obtain ⟨D, h1, h2⟩ := h
 obtain ⟨w2, hrun, h3, h4⟩ := h1.drop lock_keyed kmap_uty (kKey_of c) ty
 refine ⟨w2, hrun, ⟨_, h3, fun d => ?_⟩, fr_turned h4⟩
 by_cases hd : d = c
 · subst hd
   rw [Maps.atKey_del_same, Maps.has_del_same]; simp
 · have hne : kKey d ≠ kKey c := fun e => hd (kKey_inj _ _ e)
   rw [Maps.atKey_del_other hne, Maps.has_del_other hne]; simp only [if_neg hd]; exact h2 d
end
theorem wpList_look_l {ops : Array Oper} {rest : List Oper} {o : Oper} {a : Act} {w : World} {Q : Exit → Act → World → Prop} (hw : Region.wanted o (yielded ops a.tmps) = true) (m x : Operand) (hop : o.op = Op.lookup 94 m x false)
 (b n : Nat) (f : KK → Bool) (hm : a.eval m = .map (some b)) (h : MapL w b n f) (c : KK) (hx : a.eval x = kVal c)
 (hK : wpList Tryz.prog ops Q rest (a.put o.dst (.bool (f c))) w) : wpList Tryz.prog ops Q (o :: rest) a w :=
 wpList_step fun K' hK' => by
  rw [if_pos hw]
  have hrun := h.look c
  unfold Oper.wp
  simp [execOp, hop, hm, hx, hrun, Result.andThen]
  exact hK' _ _ hK
theorem wpList_store_l0 {ops : Array Oper} {rest : List Oper} {o : Oper} {a : Act} {w : World} {Q : Exit → Act → World → Prop} (hg : o.guard = none) (m x v : Operand) (hop : o.op = Op.mapUpdate 94 m x v)
 (b n : Nat) (f : KK → Bool) (hm : a.eval m = .map (some b)) (h : MapL w b n f) (hn : n < maxLen) (c : KK) (hx : a.eval x = kVal c) (hv : a.eval v = .bool true)
 (hK : ∀ w', MapL w' b (n + 1) (fun d => if d = c then true else f d) → Fr (fun q => q ≠ b) w w' → w'.heap.size = w.heap.size → wpList Tryz.prog ops Q rest (a.put o.dst undef) w') : wpList Tryz.prog ops Q (o :: rest) a w := by
 refine wpList_plain hg fun K' hK' => ?_
 obtain ⟨w', hrun, r1, r2, r3⟩ := h.store hn c
 unfold Oper.wp
 simp [execOp, hop, hm, hx, hv, hrun, Result.andThen]
 exact hK' _ _ (hK w' r1 r2 r3)
theorem wpList_store_l {ops : Array Oper} {rest : List Oper} {o : Oper} {a : Act} {w : World} {Q : Exit → Act → World → Prop} (hg : o.guard = none) (hd : o.dst = none) (m x v : Operand) (hop : o.op = Op.mapUpdate 94 m x v)
 (b n : Nat) (f : KK → Bool) (hm : a.eval m = .map (some b)) (h : MapL w b n f) (hn : n < maxLen) (c : KK) (hx : a.eval x = kVal c) (hv : a.eval v = .bool true)
 (hK : ∀ w', MapL w' b (n + 1) (fun d => if d = c then true else f d) → Fr (fun q => q ≠ b) w w' → w'.heap.size = w.heap.size → wpList Tryz.prog ops Q rest a w') : wpList Tryz.prog ops Q (o :: rest) a w :=
 wpList_store_l0 hg m x v hop b n f hm h hn c hx hv (fun w' h1 h2 h3 => by rw [hd]; exact hK w' h1 h2 h3)
theorem wpList_drop_l {ops : Array Oper} {rest : List Oper} {o : Oper} {a : Act} {w : World} {Q : Exit → Act → World → Prop} (hg : o.guard = none) (m x : Operand) (hop : o.op = Op.call { callee := Callee.builtin Builtin.delete, args := #[m, x], argTypes := #[94, 100] })
 (b n : Nat) (f : KK → Bool) (hm : a.eval m = .map (some b)) (h : MapL w b n f) (c : KK) (hx : a.eval x = kVal c)
 (hK : ∀ w', MapL w' b n (fun d => if d = c then false else f d) → Fr (fun q => q ≠ b) w w' → w'.heap.size = w.heap.size → wpList Tryz.prog ops Q rest (a.put o.dst (.tuple #[])) w') : wpList Tryz.prog ops Q (o :: rest) a w := by
 refine wpList_plain hg fun K' hK' => ?_
 obtain ⟨w', hrun, r1, r2, r3⟩ := h.drop c o.type
 unfold Oper.wp
 simp [execOp, hop, resolve, invoke, builtin, hm, hx, hrun, Result.andThen]
 exact hK' _ _ (hK w' r1 r2 r3)
end Go.Proofs.YtekelchdbkjjjaaGreat
namespace Go.Proofs.YtekelchdbkjjjaaGreat
open Go Go.RowKit
def LkC (w : World) (L b : Nat) (y m p ne : Int) (n : Nat) (f : KK → Bool) : Prop :=
 w.heap[L]? = some (.cells #[.int .i64 y, .int .i64 m, .int .i64 p, .int .i64 ne, .map (some b)] 96 (0, 0)) ∧ MapL w b n f ∧ L ≠ b
theorem LkC.fr {w w' : World} {Q : Nat → Prop} {L b : Nat} {y m p ne : Int} {n : Nat} {f : KK → Bool} (h : LkC w L b y m p ne n f) (hf : Fr Q w w') (hL : Q L) (hb : Q b) : LkC w' L b y m p ne n f := ⟨(hf.block L hL).trans h.1, h.2.1.fr hf hb, h.2.2⟩
theorem LkC.below {w w' : World} {L b : Nat} {y m p ne : Int} {n : Nat} {f : KK → Bool} (h : LkC w L b y m p ne n f) (hb : Below w.heap.size w w') : LkC w' L b y m p ne n f := h.fr (Fr.ofBelow hb) (blk_lt h.1) h.2.1.lt
def lockE (p ne : Int) (f : KK → Bool) (c : KK) : Int := if c.1.1 < 0 ∨ ne ≤ c.1.1 then 1 else if c.1.2 < 0 ∨ p ≤ c.1.2 then 2 else if f c = true then 9 else 0
def lockF (p ne : Int) (f : KK → Bool) (c : KK) : KK → Bool := if lockE p ne f c = 0 then (fun d => if d = c then true else f d) else f
def unlockE (f : KK → Bool) (c : KK) : Int := if f c = true then 0 else 8
def unlockF (f : KK → Bool) (c : KK) : KK → Bool := fun d => if d = c then false else f d
def LkPost (L b : Nat) (y m p ne : Int) (n : Nat) (r : Int) (f : KK → Bool) (w : World) (e : Ending) (w' : World) : Prop := e = .returned (.int .i64 r) ∧ LkC w' L b y m p ne n f ∧ Fr (fun q => q ≠ b) w w' ∧ w'.heap.size = w.heap.size
set_option maxHeartbeats 2000000 in
theorem lock_c (L b : Nat) (y m p ne : Int) (n : Nat) (f : KK → Bool) (c : KK) (w : World) (h : LkC w L b y m p ne n f) (hn : n < maxLen) : Calls Tryz.prog 35 #[.pointer (some ⟨L, 0, none⟩), .int .i64 c.1.1, .int .i64 c.1.2] w (LkPost L b y m p ne (n + 1) (lockE p ne f c) (lockF p ne f c) w) := by
 obtain ⟨hL, hM, hLb⟩ := h
 obtain ⟨r, hr⟩ : ∃ r, lockE p ne f c = r := ⟨_, rfl⟩
 have HF0 := Lib.hid (show r ≠ 0 → lockF p ne f c = f from fun h => by unfold lockF; rw [hr, if_neg h])
 have HF1 := Lib.hid (show r = 0 → lockF p ne f c = (fun d => if d = c then true else f d) from fun h => by unfold lockF; rw [hr, if_pos h])
 obtain ⟨F, hF⟩ : ∃ F, lockF p ne f c = F := ⟨_, rfl⟩
 rw [hF] at HF0 HF1
 rw [hr, hF]
 have HR := Lib.hid (show (if c.1.1 < 0 ∨ ne ≤ c.1.1 then (1 : Int) else if c.1.2 < 0 ∨ p ≤ c.1.2 then 2 else if f c = true then 9 else 0) = r from hr)
 have HL := Lib.hid hL
 have HM := Lib.hid hM
 have HLB := Lib.hid hLb
 have HNO := Lib.hid (show r ≠ 0 → LkPost L b y m p ne (n + 1) r F w (.returned (.int .i64 r)) w from fun h => ⟨rfl, ⟨hL, by rw [HF0.out h]; exact hM.mono (Nat.le_succ n), hLb⟩, Fr.refl _ _, rfl⟩)
 have c2 := blk_cell hL 2
 have c3 := blk_cell hL 3
 have c4 := blk_cell hL 4
 obtain ⟨⟨e, q⟩, hbe, hbq⟩ := c
 obtain ⟨K, hK⟩ : ∃ K : KK, K = ⟨(e, q), hbe, hbq⟩ := ⟨_, rfl⟩
 have HKV := Lib.hid (show kVal K = .agg #[.int .i64 e, .int .i64 q] by rw [hK]; rfl)
 rw [← hK] at HR HF1
 obtain ⟨fv, hfv⟩ : ∃ fv, f K = fv := ⟨_, rfl⟩
 have HFV := Lib.hid hfv
 rw [hfv] at HR
 have HR2 := Lib.hid (show (if e < 0 ∨ ne ≤ e then (1 : Int) else if q < 0 ∨ p ≤ q then 2 else if fv = true then 9 else 0) = r by have h := HR.out; rw [hK] at h; exact h)
 clear HR hr hF hL hM hLb hfv hK
 show Calls Tryz.prog 35 #[.pointer (some ⟨L, 0, none⟩), .int .i64 e, .int .i64 q] w (LkPost L b y m p ne (n + 1) r F w)
 go_enter Tryz.func35, Tryz.ntmps35
 by_cases h1 : e < 0
 case pos =>
  have h1d : decide (e < 0) = true := decide_eq_true h1
  have hf := Lib.hid (show r = 1 by rw [← HR2.out, if_pos (Or.inl h1)])
  clear h1
  go_wp2_with fail
  go_ret
  have h := HNO.out (by rw [hf.out]; decide)
  rw [hf.out] at h ⊢
  exact h
 case neg =>
 have h1d : decide (e < 0) = false := decide_eq_false h1
 by_cases h2 : ne ≤ e
 case pos =>
  have h2d : decide (ne ≤ e) = true := decide_eq_true h2
  have h2e : decide (e ≥ ne) = true := decide_eq_true h2
  have hf := Lib.hid (show r = 1 by rw [← HR2.out, if_pos (Or.inr h2)])
  clear h1 h2
  go_wp2_with fail
  go_ret
  have h := HNO.out (by rw [hf.out]; decide)
  rw [hf.out] at h ⊢
  exact h
 case neg =>
 have h2d : decide (ne ≤ e) = false := decide_eq_false h2
 have h2e : decide (e ≥ ne) = false := decide_eq_false h2
 have HR3 := Lib.hid (show (if q < 0 ∨ p ≤ q then (2 : Int) else if fv = true then 9 else 0) = r by have h := HR2.out; rw [if_neg (show ¬ (e < 0 ∨ ne ≤ e) from fun h => h.elim h1 h2)] at h; exact h)
 clear h1 h2 HR2
 by_cases h3 : q < 0
 case pos =>
  have h3d : decide (q < 0) = true := decide_eq_true h3
  have hf := Lib.hid (show r = 2 by rw [← HR3.out, if_pos (Or.inl h3)])
  clear h3
  go_wp2_with fail
  go_ret
  have h := HNO.out (by rw [hf.out]; decide)
  rw [hf.out] at h ⊢
  exact h
 case neg =>
 have h3d : decide (q < 0) = false := decide_eq_false h3
 by_cases h4 : p ≤ q
 case pos =>
  have h4d : decide (p ≤ q) = true := decide_eq_true h4
  have h4e : decide (q ≥ p) = true := decide_eq_true h4
  have hf := Lib.hid (show r = 2 by rw [← HR3.out, if_pos (Or.inr h4)])
  clear h3 h4
  go_wp2_with fail
  go_ret
  have h := HNO.out (by rw [hf.out]; decide)
  rw [hf.out] at h ⊢
  exact h
 case neg =>
 have h4d : decide (p ≤ q) = false := decide_eq_false h4
 have h4e : decide (q ≥ p) = false := decide_eq_false h4
 have HR4 := Lib.hid (show (if fv = true then (9 : Int) else 0) = r by have h := HR3.out; rw [if_neg (show ¬ (q < 0 ∨ p ≤ q) from fun h => h.elim h3 h4)] at h; exact h)
 clear h3 h4 HR3
 cases fv with
 | true =>
  have hf := Lib.hid (show r = 9 from HR4.out.symm)
  go_wp2_with (at_lookup; refine wpList_look_l rfl _ _ rfl b n f rfl HM.out K HKV.out.symm ?_; rw [HFV.out])
  go_ret
  have h := HNO.out (by rw [hf.out]; decide)
  rw [hf.out] at h ⊢
  exact h
 | false =>
  have hf := Lib.hid (show r = 0 from HR4.out.symm)
  go_wp2_with (first | (at_lookup; refine wpList_look_l rfl _ _ rfl b n f rfl HM.out K HKV.out.symm ?_; rw [HFV.out]) | (at_mapUpdate; refine wpList_store_l rfl rfl _ _ _ rfl b n f rfl HM.out hn K HKV.out.symm rfl ?_; intro w1 hm1 hf1 hs1; replace hs1 := Lib.hid hs1))
  go_ret
  refine ⟨by rw [hf.out]; rfl, ⟨(hf1.block L HLB.out).trans HL.out, by rw [HF1.out hf.out]; exact hm1, HLB.out⟩, hf1, hs1.out⟩
set_option maxHeartbeats 2000000 in
theorem unlock_c (L b : Nat) (y m p ne : Int) (n : Nat) (f : KK → Bool) (c : KK) (w : World) (h : LkC w L b y m p ne n f) : Calls Tryz.prog 39 #[.pointer (some ⟨L, 0, none⟩), .int .i64 c.1.1, .int .i64 c.1.2] w (LkPost L b y m p ne n (unlockE f c) (unlockF f c) w) := by
 obtain ⟨hL, hM, hLb⟩ := h
 obtain ⟨r, hr⟩ : ∃ r, unlockE f c = r := ⟨_, rfl⟩
 obtain ⟨F, hF⟩ : ∃ F, unlockF f c = F := ⟨_, rfl⟩
 rw [hr, hF]
 have HL := Lib.hid hL
 have HM := Lib.hid hM
 have HLB := Lib.hid hLb
 have c4 := blk_cell hL 4
 obtain ⟨fv, hfv⟩ : ∃ fv, f c = fv := ⟨_, rfl⟩
 have HFV := Lib.hid hfv
 have HR := Lib.hid (show (if fv = true then (0 : Int) else 8) = r by rw [← hfv]; exact hr)
 have HF := Lib.hid (show (fun d => if d = c then false else f d) = F from hF)
 have HF0 := Lib.hid (show fv = false → F = f from fun h => by
  rw [← hF]
  funext d
  unfold unlockF
  by_cases hd : d = c
  · rw [if_pos hd, hd, hfv, h]
  · rw [if_neg hd])
 obtain ⟨K, hK⟩ : ∃ K : KK, K = c := ⟨_, rfl⟩
 rw [← hK] at HFV HF
 obtain ⟨⟨e, q⟩, hbe, hbq⟩ := c
 have HKV := Lib.hid (show kVal K = .agg #[.int .i64 e, .int .i64 q] by rw [hK]; rfl)
 clear hr hF hL hM hLb hfv hK
 show Calls Tryz.prog 39 #[.pointer (some ⟨L, 0, none⟩), .int .i64 e, .int .i64 q] w (LkPost L b y m p ne n r F w)
 go_enter Tryz.func39, Tryz.ntmps39
 cases fv with
 | false =>
  have hf := Lib.hid (show r = 8 from HR.out.symm)
  go_wp2_with (at_lookup; refine wpList_look_l rfl _ _ rfl b n f rfl HM.out K HKV.out.symm ?_; rw [HFV.out])
  go_ret
  exact ⟨by rw [hf.out]; rfl, ⟨HL.out, by rw [show F = f from by first | exact HF0.out rfl | exact HF0.out trivial | simpa using HF0.out]; exact HM.out, HLB.out⟩, Fr.refl _ _, rfl⟩
 | true =>
  have hf := Lib.hid (show r = 0 from HR.out.symm)
  go_wp2_with (first | (at_lookup; refine wpList_look_l rfl _ _ rfl b n f rfl HM.out K HKV.out.symm ?_; rw [HFV.out]) | (at_delete; refine wpList_drop_l rfl _ _ rfl b n f rfl HM.out K HKV.out.symm ?_; intro w1 hm1 hf1 hs1; replace hs1 := Lib.hid hs1))
  go_ret
  refine ⟨by rw [hf.out]; rfl, ⟨(hf1.block L HLB.out).trans HL.out, by rw [← HF.out]; exact hm1, HLB.out⟩, hf1, hs1.out⟩
end Go.Proofs.YtekelchdbkjjjaaGreat
namespace Go.Proofs.YtekelchdbkjjjaaGreat
open Go Go.RowKit Go.ChangeMaps
open Go.Maps (Keyed)
theorem lock_inv {v : Value} {l : Lit} (h : keyOf Tryz.prog 100 v = some l) : ∃ c : KK, v = kVal c := by
 unfold keyOf at h
 rw [Tryz.underlying100] at h
 simp only [lock_keyType, Bool.true_and] at h
 split at h
 case isFalse => cases h
 case isTrue hf =>
  cases v <;> simp [Value.formed, Tryz.underlying100, lock_cells, int_cells] at hf
  rename_i cs
  obtain ⟨d, hd⟩ := types_size
  rw [hd] at h
  obtain ⟨a, z, rfl⟩ : ∃ a z, cs = #[a, z] := by
   obtain ⟨l⟩ := cs
   match l, hf with
   | [], h => simp at h
   | [_], h => simp at h
   | [a, z], _ => exact ⟨a, z, rfl⟩
   | _ :: _ :: _ :: _, h => simp at h
  unfold Program.keyLits at h
  rw [Tryz.underlying100] at h
  simp only [Value.cells] at h
  have hk : ∀ (v : Value) (r : List Lit), Tryz.prog.keyLits (d + 1) 3 [v] = some r → ∃ n : Int, v = .int .i64 n ∧ intBd n := by
   intro v r hr
   unfold Program.keyLits at hr
   rw [int_uty] at hr
   cases v <;> simp at hr
   rename_i q n
   obtain ⟨⟨rfl, hw⟩, _⟩ := hr
   refine ⟨n, rfl, ?_⟩
   simp [Lit.wf, IntKind.min, IntKind.max, IntKind.signed, IntKind.bits] at hw
   unfold intBd; omega
  cases h1 : Tryz.prog.keyLits (d + 1) 3 [a] with
  | none => simp [int_cells, lock_cells, List.range_succ, h1] at h
  | some r1 =>
   cases h2 : Tryz.prog.keyLits (d + 1) 3 [z] with
   | none => simp [int_cells, lock_cells, List.range_succ, h1, h2] at h
   | some r2 =>
    obtain ⟨n1, rfl, b1⟩ := hk _ _ h1
    obtain ⟨n2, rfl, b2⟩ := hk _ _ h2
    exact ⟨⟨(n1, n2), b1, b2⟩, rfl⟩
theorem kKey_same {a c : KK} : (kKey a).sameKey (kKey c) = true ↔ a = c :=
 ⟨fun h => kKey_inj _ _ (WideAt.sameKey_eq h), fun h => by rw [h]; exact WideAt.sameKey_self (kKey_lit c)⟩
theorem wpList_next_locks (w : World) {ops : Array Oper} {rest : List Oper} {o : Oper} {a : Act} {Q : Exit → Act → World → Prop} (hg : o.guard = none) (it : Operand) (hop : o.op = Op.next it false) (b r n : Nat) (D : UD) (left : Lit → Bool) (cnt : Nat)
 (hit : a.eval it = .pointer (some ⟨r, 0, none⟩)) (h : w.ranges Tryz.prog 100 (plainElem Tryz.prog 4) b r n D left cnt)
 (hDone : (∀ kl, left kl = false) → wpList Tryz.prog ops Q rest (a.put o.dst (.tuple #[.bool false])) w)
 (hMore : ∀ (c : KK) (v : Bool) (w' : World) (cnt' : Nat), left (kKey c) = true → w'.ranges Tryz.prog 100 (plainElem Tryz.prog 4) b r n D (fun z => left z && !z.sameKey (kKey c)) cnt' → cnt' < cnt → w.grownBy w' (some r) → w'.heap.size = w.heap.size →
  (Instr.entry (.pointer (some ⟨r, 0, none⟩))).run Tryz.prog w' = .ok (.tuple #[kVal c, .bool v]) w' → wpList Tryz.prog ops Q rest (a.put o.dst (.tuple #[.bool true, kVal c, .bool v])) w') :
 wpList Tryz.prog ops Q (o :: rest) a w :=
 wpList_next_ranges w hg it hop 100 lock_keyed (plainElem Tryz.prog 4) kVal Value.bool
  (fun key kl hkey => lock_inv hkey) (fun v y hv => by obtain ⟨c, rfl, _⟩ := plainElem_bool_inv bool_uty hv; exact ⟨c, rfl⟩)
  b r n D left cnt hit h (fun _ hl => hDone hl) (fun c v kl y w' cnt' hkey hlk hv hat' hrg hlt hgr hsz hen => by
   rw [kKey_of c] at hkey
   obtain rfl := Option.some.inj hkey
   exact hMore c v w' cnt' hlk hrg hlt hgr hsz hen)
def MostP (f : KK → Bool) (e last : Int) : Prop := (∀ c : KK, f c = true → c.1.1 = e → c.1.2 ≤ last) ∧ (last = -1 ∨ ∃ c : KK, f c = true ∧ c.1.1 = e ∧ c.1.2 = last)
theorem MostP.uniq {f : KK → Bool} {e a b : Int} (hp : ∀ c, f c = true → 0 ≤ c.1.2) (ha : MostP f e a) (hb : MostP f e b) : a = b := by
 rcases ha.2 with h1 | ⟨c, h1, h2, h3⟩ <;> rcases hb.2 with k1 | ⟨d, k1, k2, k3⟩
 · omega
 · have := ha.1 d k1 k2; have := hp d k1; omega
 · have := hb.1 c h1 h2; have := hp c h1; omega
 · have := ha.1 d k1 k2; have := hb.1 c h1 h2; omega
def KInv (f : KK → Bool) (e : Int) (left : Lit → Bool) (last : Int) : Prop := (∀ c : KK, left (kKey c) = true → f c = true) ∧ (∀ c : KK, f c = true → c.1.1 = e → left (kKey c) = false → c.1.2 ≤ last) ∧ (last = -1 ∨ ∃ c : KK, f c = true ∧ c.1.1 = e ∧ c.1.2 = last) ∧ -1 ≤ last ∧ last ≤ 1000
theorem KInv.start {f : KK → Bool} {e : Int} {D : UD} (hat : ∀ c, Maps.has D (kKey c) = f c) : KInv f e (Maps.has D) (-1) := by
 refine ⟨fun c hc => by rw [← hat c]; exact hc, fun c hf _ hl => ?_, Or.inl rfl, by omega, by omega⟩
 rw [hat c, hf] at hl
 cases hl
theorem KInv.skip {f : KK → Bool} {e last : Int} {left : Lit → Bool} (h : KInv f e left last) {c : KK} (hc : c.1.1 ≠ e) : KInv f e (fun z => left z && !z.sameKey (kKey c)) last := by
 obtain ⟨h1, h2, h3⟩ := h
 refine ⟨fun d hd => h1 d (by simp at hd; exact hd.1), fun d hf hd hl => ?_, h3⟩
 refine h2 d hf hd ?_
 simp only [Bool.and_eq_false_iff, Bool.not_eq_false'] at hl
 rcases hl with hl | hl
 · exact hl
 · exact absurd (kKey_same.1 hl ▸ hd) hc
theorem KInv.step {f : KK → Bool} {e last : Int} {left : Lit → Bool} (h : KInv f e left last) {c : KK} (hl : left (kKey c) = true) (hc : c.1.1 = e) (hb : 0 ≤ c.1.2 ∧ c.1.2 ≤ 1000) {l2 : Int} (hm : (c.1.2 ≤ last ∧ l2 = last) ∨ (last < c.1.2 ∧ l2 = c.1.2)) : KInv f e (fun z => left z && !z.sameKey (kKey c)) l2 := by
 obtain ⟨h1, h2, h3, h4, h5⟩ := h
 have hf := h1 c hl
 refine ⟨fun d hd => h1 d (by simp at hd; exact hd.1), fun d hf hd hl => ?_, ?_, by omega, by omega⟩
 · simp only [Bool.and_eq_false_iff, Bool.not_eq_false'] at hl
   rcases hl with hl | hl
   · have := h2 d hf hd hl; omega
   · rw [kKey_same.1 hl]; omega
 · rcases hm with ⟨hm, rfl⟩ | ⟨hm, rfl⟩
   · exact h3
   · exact Or.inr ⟨c, hf, hc, rfl⟩
theorem KInv.done {f : KK → Bool} {e last : Int} {left : Lit → Bool} (h : KInv f e left last) (hl : ∀ kl, left kl = false) : MostP f e last := ⟨fun c hf hc => h.2.1 c hf hc (hl _), h.2.2.1⟩
def untD (y m p last : Int) : Int := if last < 0 then 0 else (calLast y m p last).1
def UntPost (y m p : Int) (f : KK → Bool) (e : Int) (w : World) (en : Ending) (w' : World) : Prop := ∃ last, MostP f e last ∧ -1 ≤ last ∧ en = .returned (.tuple #[.int .i64 (untD y m p last), .bool (decide (0 ≤ last))]) ∧ Below w.heap.size w w'
set_option maxHeartbeats 2000000 in
theorem until_c (L b : Nat) (y m p ne : Int) (n : Nat) (f : KK → Bool) (e : Int) (w : World) (h : LkC w L b y m p ne n f) (hpos : ∀ c, f c = true → 0 ≤ c.1.2 ∧ c.1.2 ≤ 1000) : Calls Tryz.prog 19 #[.pointer (some ⟨L, 0, none⟩), .int .i64 e] w (UntPost y m p f e w) := by
 obtain ⟨hL, hM, hLb⟩ := h
 have HL := Lib.hid hL
 have HP := Lib.hid hpos
 have hml := hM.lt
 have HML := Lib.hid hml
 obtain ⟨D, hown, hat⟩ := hM
 have HST := Lib.hid (show KInv f e (Maps.has D) (-1) from KInv.start (fun c => (hat c).1))
 have HOWN := Lib.hid hown
 have c4 := blk_cell hL 4
 have HLW := Lib.hid (blk_lt hL)
 clear hL hpos hat hown hLb hml
 go_enter Tryz.func19, Tryz.ntmps19
 go_wp2_with (at_range; refine wpList_range_own _ rfl _ 94 rfl 100 4 lock_keyed kmap_uty _ b n D rfl HOWN.out ?_; intro w0 hrg0 hg0 hs0)
 have hb0 : Below w.heap.size w w0 := (Below.refl _ _).grown hg0 (Nat.le_refl _) (fun _ h => by cases h)
 have HS0 := Lib.hid hs0
 have HRG0 := Lib.hid hrg0
 obtain ⟨rI, hrI⟩ : ∃ r, w.heap.size = r := ⟨_, rfl⟩
 rw [hrI] at HRG0 ⊢
 have HRI := Lib.hid hrI
 clear hrI hs0 hrg0 hg0; go_simp
 go_loopw [6] (fun v wx => ∃ (left : Lit → Bool) (cnt : Nat) (last : Int), v = .int .i64 last ∧ wx.ranges Tryz.prog 100 (plainElem Tryz.prog 4) b rI n D left cnt ∧ Below w.heap.size w wx ∧ KInv f e left last ∧ rI < wx.heap.size) (fun _ wx => wx.rangeLeft b rI)
 case atStart => exact ⟨_, _, _, rfl, HRG0.out, hb0, HST.out, by have h1 := HS0.out; have h2 := HRI.out; omega⟩
 case round =>
  obtain ⟨left, cnt, last, rfl, hrg, hbx, hki, hsz⟩ := hrel
  have HRG := Lib.hid hrg
  have HKI := Lib.hid hki
  have HBX := Lib.hid hbx
  have HSZ := Lib.hid hsz
  have hlast := HKI.out.2.2.2
  obtain ⟨hla, hlb⟩ := hlast
  have HLX := Lib.hid ((HBX.out.block _ HLW.out).trans HL.out)
  clear hrg hki hsz
  by_cases hneg : last < 0
  case pos =>
   have hnd : decide (last < 0) = true := decide_eq_true hneg
   have hf := Lib.hid (show untD y m p last = 0 from if_pos hneg)
   have hf2 := Lib.hid (show decide (0 ≤ last) = false from decide_eq_false (by omega))
   go_upto_block 1 with (at_next; refine wpList_next_locks _ rfl _ rfl b rI n D left cnt rfl HRG.out (fun hl0 => ?_) (fun c v1 w1 cnt1 hlk hrg1 hlt1 hg1 hs1 hen => ?_))
   · have HMP := Lib.hid (HKI.out.done hl0)
     go_ret2
     exact ⟨last, HMP.out, hla, by rw [hf.out, hf2.out]; rfl, HBX.out⟩
   · skip
     obtain ⟨⟨ce, cq⟩, hbe, hbq⟩ := c
     have hb3 := HP.out _ (HKI.out.1 _ hlk)
     have HSKIP := Lib.hid (fun (hc : ¬ ce = e) => HKI.out.skip (c := ⟨(ce, cq), hbe, hbq⟩) hc)
     have HSTP := Lib.hid (fun (hc : ce = e) (l2 : Int) (hm : (cq ≤ last ∧ l2 = last) ∨ (last < cq ∧ l2 = cq)) => HKI.out.step (c := ⟨(ce, cq), hbe, hbq⟩) (l2 := l2) hlk hc hb3 hm)
     simp only [kVal] at hen ⊢
     have hsw := HBX.out.size
     have hbx1 : Below w.heap.size w w1 := hbx.grown hg1 hsw (fun q h => by cases h; exact Nat.le_of_eq HRI.out)
     have HS1 := Lib.hid hs1
     have HRG1 := Lib.hid hrg1
     have HLT1 := Lib.hid hlt1
     clear hlk hs1 hlt1 hg1 hbx hsw hb3 hf hf2 hnd hneg
     go_upto_region 7 with fail
     have H6 := heap_alloc_new w1 (.cells #[.int .i64 ce, .int .i64 cq] 100)
     have HB6 := below1 w1 (.cells #[.int .i64 ce, .int .i64 cq] 100)
     have HS6 := blk_lt H6
     have HRG6 := hrg1.alloc (.cells #[.int .i64 ce, .int .i64 cq] 100)
     generalize hW6 : w1.alloc (Obj.cells #[.int .i64 ce, .int .i64 cq] 100) = W6 at *
     clear hW6
     have HRGX := Lib.hid HRG6
     have HB6' := Lib.hid (hbx1.trans (HB6.mono hbx1.size))
     have HSZ6 := Lib.hid (show rI < W6.heap.size by have h1 := HSZ.out; have h2 := HS1.out; have h3 := HB6.size; omega)
     have k0 := blk_cell H6 0
     have k1 := blk_cell H6 1
     clear H6 HRG6 hrg1 hen hbx1 HB6 HS6
     by_cases hc : ce = e
     case neg =>
      have hcb : (ce == e) = false := by simpa using hc
      have HK2 := Lib.hid (HSKIP.out hc)
      clear hc
      go_wp2_with fail
      go_roundw
      case rel => exact ⟨_, cnt1, last, rfl, HRGX.out, HB6'.out, HK2.out, HSZ6.out⟩
      case measure => rw [HRGX.out.left_eq, HRG.out.left_eq]; exact HLT1.out
     case pos =>
      have hcb : (ce == e) = true := by simpa using hc
      have HK2 := Lib.hid (HSTP.out hc)
      clear hc
      go_wp2_with fail
      go_roundw
      case rel => exact ⟨_, cnt1, _, rfl, HRGX.out, HB6'.out, HK2.out _ (by omega), HSZ6.out⟩
      case measure => rw [HRGX.out.left_eq, HRG.out.left_eq]; exact HLT1.out
  case neg =>
   have hnd : decide (last < 0) = false := decide_eq_false hneg
   have hf := Lib.hid (show untD y m p last = (calLast y m p last).1 from if_neg hneg)
   have hf2 := Lib.hid (show decide (0 ≤ last) = true from decide_eq_true (by omega))
   have HCR := Lib.hid (show wr.rangeAt L 0 [.int .i64 y, .int .i64 m, .int .i64 p] from fun j v hj => by
    have h := HLX.out
    rcases j with _ | _ | _ | j
    · cases hj; exact blk_cell h 0
    · cases hj; exact blk_cell h 1
    · cases hj; exact blk_cell h 2
    · simp at hj)
   go_upto_block 1 with (first | (at_next; refine wpList_next_locks _ rfl _ rfl b rI n D left cnt rfl HRG.out (fun hl0 => ?_) (fun c v1 w1 cnt1 hlk hrg1 hlt1 hg1 hs1 hen => ?_)) | (show wpList _ _ _ (Oper.mk (some 35) _ _ _ _ _ :: _) _ _; go_loud (refine wpList_load_mid_g (by rfl) 23 (.tmp 34) rfl L 0 rfl [.int .i64 y, .int .i64 m, .int .i64 p] _ HCR.out Tryz.underlying23 rfl info_cal ?_)))
   · have HMP := Lib.hid (HKI.out.done hl0)
     refine (calLast_c y m p last wr).mono ?_
     rintro e2 w9 ⟨rfl, hb9⟩
     have HB9 := Lib.hid (HBX.out.trans (hb9.mono HBX.out.size))
     clear hb9
     go_wp2_with fail
     go_ret2
     exact ⟨last, HMP.out, hla, by rw [hf.out, hf2.out]; rfl, HB9.out⟩
   · skip
     obtain ⟨⟨ce, cq⟩, hbe, hbq⟩ := c
     have hb3 := HP.out _ (HKI.out.1 _ hlk)
     have HSKIP := Lib.hid (fun (hc : ¬ ce = e) => HKI.out.skip (c := ⟨(ce, cq), hbe, hbq⟩) hc)
     have HSTP := Lib.hid (fun (hc : ce = e) (l2 : Int) (hm : (cq ≤ last ∧ l2 = last) ∨ (last < cq ∧ l2 = cq)) => HKI.out.step (c := ⟨(ce, cq), hbe, hbq⟩) (l2 := l2) hlk hc hb3 hm)
     simp only [kVal] at hen ⊢
     have hsw := HBX.out.size
     have hbx1 : Below w.heap.size w w1 := hbx.grown hg1 hsw (fun q h => by cases h; exact Nat.le_of_eq HRI.out)
     have HS1 := Lib.hid hs1
     have HRG1 := Lib.hid hrg1
     have HLT1 := Lib.hid hlt1
     clear hlk hs1 hlt1 hg1 hbx hsw hb3 hf hf2 hnd hneg
     go_upto_region 7 with fail
     have H6 := heap_alloc_new w1 (.cells #[.int .i64 ce, .int .i64 cq] 100)
     have HB6 := below1 w1 (.cells #[.int .i64 ce, .int .i64 cq] 100)
     have HS6 := blk_lt H6
     have HRG6 := hrg1.alloc (.cells #[.int .i64 ce, .int .i64 cq] 100)
     generalize hW6 : w1.alloc (Obj.cells #[.int .i64 ce, .int .i64 cq] 100) = W6 at *
     clear hW6
     have HRGX := Lib.hid HRG6
     have HB6' := Lib.hid (hbx1.trans (HB6.mono hbx1.size))
     have HSZ6 := Lib.hid (show rI < W6.heap.size by have h1 := HSZ.out; have h2 := HS1.out; have h3 := HB6.size; omega)
     have k0 := blk_cell H6 0
     have k1 := blk_cell H6 1
     clear H6 HRG6 hrg1 hen hbx1 HB6 HS6
     by_cases hc : ce = e
     case neg =>
      have hcb : (ce == e) = false := by simpa using hc
      have HK2 := Lib.hid (HSKIP.out hc)
      clear hc
      go_wp2_with fail
      go_roundw
      case rel => exact ⟨_, cnt1, last, rfl, HRGX.out, HB6'.out, HK2.out, HSZ6.out⟩
      case measure => rw [HRGX.out.left_eq, HRG.out.left_eq]; exact HLT1.out
     case pos =>
      have hcb : (ce == e) = true := by simpa using hc
      have HK2 := Lib.hid (HSTP.out hc)
      clear hc
      go_wp2_with fail
      go_roundw
      case rel => exact ⟨_, cnt1, _, rfl, HRGX.out, HB6'.out, HK2.out _ (by omega), HSZ6.out⟩
      case measure => rw [HRGX.out.left_eq, HRG.out.left_eq]; exact HLT1.out
end Go.Proofs.YtekelchdbkjjjaaGreat
namespace Go.Proofs.YtekelchdbkjjjaaGreat
open Go Go.RowKit
def chkL (y m p ne e d last : Int) : Int := if e < 0 ∨ ne ≤ e then 1 else if 0 ≤ last ∧ d ≤ untD y m p last then 12 else 0
def CkPost (y m p ne : Int) (f : KK → Bool) (e d : Int) (w : World) (en : Ending) (w' : World) : Prop := ∃ r, en = .returned (.int .i64 r) ∧ ((e < 0 ∨ ne ≤ e) ∧ r = 1 ∨ ∃ last, MostP f e last ∧ -1 ≤ last ∧ r = chkL y m p ne e d last) ∧ Below w.heap.size w w'
set_option maxHeartbeats 2000000 in
theorem lcheck_c (L b : Nat) (y m p ne : Int) (n : Nat) (f : KK → Bool) (xi xe xd xk xo : Int) (xt : ByteArray) (Al : Option Addr) (nl cl : Nat) (w : World) (h : LkC w L b y m p ne n f) (hpos : ∀ c, f c = true → 0 ≤ c.1.2 ∧ c.1.2 ≤ 1000) : Calls Tryz.prog 21 #[.pointer (some ⟨L, 0, none⟩), .agg #[.int .i64 xi, .int .i64 xe, .int .i64 xd, .int .i64 xk, .int .i64 xo, .string xt, .slice Al nl cl]] w (CkPost y m p ne f xe xd w) := by
 have HK := Lib.hid h
 have HP := Lib.hid hpos
 clear h hpos
 go_enter Tryz.func21, Tryz.ntmps21
 go_upto_region 1 with fail
 have H := heap_alloc_new w (.cells #[.int .i64 xi, .int .i64 xe, .int .i64 xd, .int .i64 xk, .int .i64 xo, .string xt, .slice Al nl cl] 46)
 have HB := below1 w (.cells #[.int .i64 xi, .int .i64 xe, .int .i64 xd, .int .i64 xk, .int .i64 xo, .string xt, .slice Al nl cl] 46)
 have HS := blk_lt H
 generalize hW : w.alloc (Obj.cells #[.int .i64 xi, .int .i64 xe, .int .i64 xd, .int .i64 xk, .int .i64 xo, .string xt, .slice Al nl cl] 46) = W at *
 clear hW
 have HKW := Lib.hid (HK.out.below HB)
 have HX := Lib.hid H
 have HBW := Lib.hid HB
 have FL3 := Lib.hid (show W.drew.cell? ⟨L, 3, none⟩ = some (.int .i64 ne) from blk_cell HKW.out.1 3)
 have FX1 := Lib.hid (show W.drew.cell? ⟨w.heap.size, 1, none⟩ = some (.int .i64 xe) from blk_cell H 1)
 clear H HB
 by_cases h1 : xe < 0
 case pos =>
  have hbad : xe < 0 ∨ ne ≤ xe := Or.inl h1
  have HBAD := Lib.hid hbad
  have h1d : decide (xe < 0) = true := decide_eq_true h1
  clear h1 hbad
  go_upto_region 3 with fail
  refine wp_region_inv (Ks W [.val (.pointer (some ⟨w.heap.size, 1, none⟩)), .val (.int .i64 xe), .val (.bool true), .val (.bool true), .val (undef), .val (undef), .val (undef), .val (undef), .val (undef), .val (undef), .val (undef), .val (.bool true), .val (.bool true)])
   (fun w' => w' = W.drew) (by kernel_rfl) (by kernel_rfl) (by kernel_rfl) rfl ?_ ?_
  · refine ⟨?_, ?_, ?_, ?_, ?_, ?_, ?_, ?_, ?_, ?_, ?_, ?_, ?_, trivial⟩
    · intro _ A0 w2 hI hd hnd K hK; have e0 := hI.q hnd 3
      have hS := Lib.hid (show w2 = W.drew from hI.world)
      exact hI.z hK
    · intro _ A0 w2 hI hd hnd K hK; have e0 := hI.p hd 0 11
      have hS := Lib.hid (show w2 = W.drew from hI.world)
      have hcc : w2.cell? ⟨w.heap.size, 1, none⟩ = some (.int .i64 xe) := by rw [hS.out]; exact FX1.out
      exact hI.z hK
    · intro _ A0 w2 hI hd hnd K hK; have e0 := hI.p hd 1 12
      have hS := Lib.hid (show w2 = W.drew from hI.world)
      exact hI.z hK
    · intro _ A0 w2 hI hd hnd K hK; have e0 := hI.p hd 2 13
      have hS := Lib.hid (show w2 = W.drew from hI.world)
      exact hI.z hK
    · intro _ A0 w2 hI hd hnd K hK
      have hS := Lib.hid (show w2 = W.drew from hI.world)
      exact hI.z2 hK (hI.r hd 3 14 true)
    · intro _ A0 w2 hI hd hnd K hK
      have hS := Lib.hid (show w2 = W.drew from hI.world)
      exact hI.z2 hK (hI.r hd 3 14 true)
    · intro _ A0 w2 hI hd hnd K hK
      have hS := Lib.hid (show w2 = W.drew from hI.world)
      exact hI.z2 hK (hI.r hd 3 14 true)
    · intro _ A0 w2 hI hd hnd K hK
      have hS := Lib.hid (show w2 = W.drew from hI.world)
      exact hI.z2 hK (hI.r hd 3 14 true)
    · intro _ A0 w2 hI hd hnd K hK
      have hS := Lib.hid (show w2 = W.drew from hI.world)
      exact hI.z2 hK (hI.r hd 3 14 true)
    · intro _ A0 w2 hI hd hnd K hK
      have hS := Lib.hid (show w2 = W.drew from hI.world)
      exact hI.z2 hK (hI.r hd 3 14 true)
    · intro _ A0 w2 hI hd hnd K hK
      have hS := Lib.hid (show w2 = W.drew from hI.world)
      exact hI.z2 hK (hI.r hd 3 14 true)
    · intro _ A0 w2 hI hd hnd K hK; have e0 := hI.p hd 3 14; have e1 := hI.p hd 10 21
      have hS := Lib.hid (show w2 = W.drew from hI.world)
      exact hI.z hK
    · intro _ A0 w2 hI hd hnd K hK; have e0 := hI.p hd 11 22
      have hS := Lib.hid (show w2 = W.drew from hI.world)
      exact hI.z hK
  · intro _ A0 w2 hI hall; obtain ⟨x0, g0, h0⟩ := hI.got 0 _ 11 rfl rfl (hall 0 (by decide)); obtain ⟨x1, g1, h1⟩ := hI.got 1 _ 12 rfl rfl (hall 1 (by decide)); obtain ⟨x2, g2, h2⟩ := hI.got 2 _ 13 rfl rfl (hall 2 (by decide)); obtain ⟨x3, g3, h3⟩ := hI.got 3 _ 14 rfl rfl (hall 3 (by decide)); obtain ⟨x4, g4, h4⟩ := hI.got 4 _ 15 rfl rfl (hall 4 (by decide)); obtain ⟨x5, g5, h5⟩ := hI.got 5 _ 16 rfl rfl (hall 5 (by decide)); obtain ⟨x6, g6, h6⟩ := hI.got 6 _ 17 rfl rfl (hall 6 (by decide)); obtain ⟨x7, g7, h7⟩ := hI.got 7 _ 18 rfl rfl (hall 7 (by decide)); obtain ⟨x8, g8, h8⟩ := hI.got 8 _ 19 rfl rfl (hall 8 (by decide)); obtain ⟨x9, g9, h9⟩ := hI.got 9 _ 20 rfl rfl (hall 9 (by decide)); obtain ⟨x10, g10, h10⟩ := hI.got 10 _ 21 rfl rfl (hall 10 (by decide)); obtain ⟨x11, g11, h11⟩ := hI.got 11 _ 22 rfl rfl (hall 11 (by decide)); obtain ⟨x12, g12, h12⟩ := hI.got 12 _ 10 rfl rfl (hall 12 (by decide))
    obtain rfl : w2 = W.drew := hI.world
    have hA : A0 = _ := hI.tmps [(11, x0), (12, x1), (13, x2), (14, x3), (15, x4), (16, x5), (17, x6), (18, x7), (19, x8), (20, x9), (21, x10), (22, x11), (10, x12)] (by simp only [List.mem_cons, List.not_mem_nil, or_false, forall_eq_or_imp, forall_eq]; exact ⟨g0, g1, g2, g3, g4, g5, g6, g7, g8, g9, g10, g11, g12⟩) (by kernel_rfl)
    obtain rfl : x12 = .bool true := h12 _ rfl
    clear h0 g0 h1 g1 h2 g2 h3 g3 h4 g4 h5 g5 h6 g6 h7 g7 h8 g8 h9 g9 h10 g10 h11 g11 h12 g12 hI hall
    simp only [setAll, List.foldl, List.setIfInBounds_toArray, List.set_cons_zero, List.set_cons_succ] at hA
    rw [hA]
    clear hA
    go_wp2_with fail
    go_ret
    exact ⟨1, rfl, Or.inl ⟨HBAD.out, rfl⟩, HBW.out.drew⟩
 case neg =>
 have h1d : decide (xe < 0) = false := decide_eq_false h1
 by_cases h2 : ne ≤ xe
 case pos =>
  have hbad : xe < 0 ∨ ne ≤ xe := Or.inr h2
  have HBAD := Lib.hid hbad
  have h2d : decide (xe ≥ ne) = true := decide_eq_true h2
  have h2e : decide (ne ≤ xe) = true := decide_eq_true h2
  clear h1 h2 hbad
  go_upto_region 3 with fail
  refine wp_region_inv (Ks W [.val (.pointer (some ⟨w.heap.size, 1, none⟩)), .val (.int .i64 xe), .val (.bool false), .val (.bool false), .val (.pointer (some ⟨w.heap.size, 1, none⟩)), .val (.int .i64 xe), .val (.pointer (some ⟨L, 0, none⟩)), .val (.pointer (some ⟨L, 0, none⟩)), .val (.pointer (some ⟨L, 3, none⟩)), .val (.int .i64 ne), .val (.bool true), .val (.bool true), .val (.bool true)])
   (fun w' => w' = W.drew) (by kernel_rfl) (by kernel_rfl) (by kernel_rfl) rfl ?_ ?_
  · refine ⟨?_, ?_, ?_, ?_, ?_, ?_, ?_, ?_, ?_, ?_, ?_, ?_, ?_, trivial⟩
    · intro _ A0 w2 hI hd hnd K hK; have e0 := hI.q hnd 3
      have hS := Lib.hid (show w2 = W.drew from hI.world)
      exact hI.z hK
    · intro _ A0 w2 hI hd hnd K hK; have e0 := hI.p hd 0 11
      have hS := Lib.hid (show w2 = W.drew from hI.world)
      have hcc : w2.cell? ⟨w.heap.size, 1, none⟩ = some (.int .i64 xe) := by rw [hS.out]; exact FX1.out
      exact hI.z hK
    · intro _ A0 w2 hI hd hnd K hK; have e0 := hI.p hd 1 12
      have hS := Lib.hid (show w2 = W.drew from hI.world)
      exact hI.z hK
    · intro _ A0 w2 hI hd hnd K hK; have e0 := hI.p hd 2 13
      have hS := Lib.hid (show w2 = W.drew from hI.world)
      exact hI.z hK
    · intro _ A0 w2 hI hd hnd K hK; have e0 := hI.q hnd 3
      have hS := Lib.hid (show w2 = W.drew from hI.world)
      exact hI.z1 hK (hI.r hd 3 14 false)
    · intro _ A0 w2 hI hd hnd K hK; have e0 := hI.p hd 4 15
      have hS := Lib.hid (show w2 = W.drew from hI.world)
      have hcc : w2.cell? ⟨w.heap.size, 1, none⟩ = some (.int .i64 xe) := by rw [hS.out]; exact FX1.out
      exact hI.z1 hK (hI.r hd 3 14 false)
    · intro _ A0 w2 hI hd hnd K hK; have e0 := hI.q hnd 0
      have hS := Lib.hid (show w2 = W.drew from hI.world)
      exact hI.z1 hK (hI.r hd 3 14 false)
    · intro _ A0 w2 hI hd hnd K hK; have e0 := hI.p hd 6 17
      have hS := Lib.hid (show w2 = W.drew from hI.world)
      exact hI.z1 hK (hI.r hd 3 14 false)
    · intro _ A0 w2 hI hd hnd K hK; have e0 := hI.p hd 7 18
      have hS := Lib.hid (show w2 = W.drew from hI.world)
      exact hI.z1 hK (hI.r hd 3 14 false)
    · intro _ A0 w2 hI hd hnd K hK; have e0 := hI.p hd 8 19
      have hS := Lib.hid (show w2 = W.drew from hI.world)
      have hcc : w2.cell? ⟨L, 3, none⟩ = some (.int .i64 ne) := by rw [hS.out]; exact FL3.out
      exact hI.z1 hK (hI.r hd 3 14 false)
    · intro _ A0 w2 hI hd hnd K hK; have e0 := hI.p hd 5 16; have e1 := hI.p hd 9 20
      have hS := Lib.hid (show w2 = W.drew from hI.world)
      exact hI.z1 hK (hI.r hd 3 14 false)
    · intro _ A0 w2 hI hd hnd K hK; have e0 := hI.p hd 3 14; have e1 := hI.p hd 10 21
      have hS := Lib.hid (show w2 = W.drew from hI.world)
      exact hI.z hK
    · intro _ A0 w2 hI hd hnd K hK; have e0 := hI.p hd 11 22
      have hS := Lib.hid (show w2 = W.drew from hI.world)
      exact hI.z hK
  · intro _ A0 w2 hI hall; obtain ⟨x0, g0, h0⟩ := hI.got 0 _ 11 rfl rfl (hall 0 (by decide)); obtain ⟨x1, g1, h1⟩ := hI.got 1 _ 12 rfl rfl (hall 1 (by decide)); obtain ⟨x2, g2, h2⟩ := hI.got 2 _ 13 rfl rfl (hall 2 (by decide)); obtain ⟨x3, g3, h3⟩ := hI.got 3 _ 14 rfl rfl (hall 3 (by decide)); obtain ⟨x4, g4, h4⟩ := hI.got 4 _ 15 rfl rfl (hall 4 (by decide)); obtain ⟨x5, g5, h5⟩ := hI.got 5 _ 16 rfl rfl (hall 5 (by decide)); obtain ⟨x6, g6, h6⟩ := hI.got 6 _ 17 rfl rfl (hall 6 (by decide)); obtain ⟨x7, g7, h7⟩ := hI.got 7 _ 18 rfl rfl (hall 7 (by decide)); obtain ⟨x8, g8, h8⟩ := hI.got 8 _ 19 rfl rfl (hall 8 (by decide)); obtain ⟨x9, g9, h9⟩ := hI.got 9 _ 20 rfl rfl (hall 9 (by decide)); obtain ⟨x10, g10, h10⟩ := hI.got 10 _ 21 rfl rfl (hall 10 (by decide)); obtain ⟨x11, g11, h11⟩ := hI.got 11 _ 22 rfl rfl (hall 11 (by decide)); obtain ⟨x12, g12, h12⟩ := hI.got 12 _ 10 rfl rfl (hall 12 (by decide))
    obtain rfl : w2 = W.drew := hI.world
    have hA : A0 = _ := hI.tmps [(11, x0), (12, x1), (13, x2), (14, x3), (15, x4), (16, x5), (17, x6), (18, x7), (19, x8), (20, x9), (21, x10), (22, x11), (10, x12)] (by simp only [List.mem_cons, List.not_mem_nil, or_false, forall_eq_or_imp, forall_eq]; exact ⟨g0, g1, g2, g3, g4, g5, g6, g7, g8, g9, g10, g11, g12⟩) (by kernel_rfl)
    obtain rfl : x12 = .bool true := h12 _ rfl
    clear h0 g0 h1 g1 h2 g2 h3 g3 h4 g4 h5 g5 h6 g6 h7 g7 h8 g8 h9 g9 h10 g10 h11 g11 h12 g12 hI hall
    simp only [setAll, List.foldl, List.setIfInBounds_toArray, List.set_cons_zero, List.set_cons_succ] at hA
    rw [hA]
    clear hA
    go_wp2_with fail
    go_ret
    exact ⟨1, rfl, Or.inl ⟨HBAD.out, rfl⟩, HBW.out.drew⟩
 case neg =>
 have h2d : decide (xe ≥ ne) = false := decide_eq_false h2
 have h2e : decide (ne ≤ xe) = false := decide_eq_false h2
 have HGOOD := Lib.hid (show ¬ (xe < 0 ∨ ne ≤ xe) from fun h => h.elim h1 h2)
 clear h1 h2
 go_upto_region 3 with fail
 refine wp_region_inv (Ks W [.val (.pointer (some ⟨w.heap.size, 1, none⟩)), .val (.int .i64 xe), .val (.bool false), .val (.bool false), .val (.pointer (some ⟨w.heap.size, 1, none⟩)), .val (.int .i64 xe), .val (.pointer (some ⟨L, 0, none⟩)), .val (.pointer (some ⟨L, 0, none⟩)), .val (.pointer (some ⟨L, 3, none⟩)), .val (.int .i64 ne), .val (.bool false), .val (.bool false), .val (.bool false)])
  (fun w' => w' = W.drew) (by kernel_rfl) (by kernel_rfl) (by kernel_rfl) rfl ?_ ?_
 · refine ⟨?_, ?_, ?_, ?_, ?_, ?_, ?_, ?_, ?_, ?_, ?_, ?_, ?_, trivial⟩
   · intro _ A0 w2 hI hd hnd K hK; have e0 := hI.q hnd 3
     have hS := Lib.hid (show w2 = W.drew from hI.world)
     exact hI.z hK
   · intro _ A0 w2 hI hd hnd K hK; have e0 := hI.p hd 0 11
     have hS := Lib.hid (show w2 = W.drew from hI.world)
     have hcc : w2.cell? ⟨w.heap.size, 1, none⟩ = some (.int .i64 xe) := by rw [hS.out]; exact FX1.out
     exact hI.z hK
   · intro _ A0 w2 hI hd hnd K hK; have e0 := hI.p hd 1 12
     have hS := Lib.hid (show w2 = W.drew from hI.world)
     exact hI.z hK
   · intro _ A0 w2 hI hd hnd K hK; have e0 := hI.p hd 2 13
     have hS := Lib.hid (show w2 = W.drew from hI.world)
     exact hI.z hK
   · intro _ A0 w2 hI hd hnd K hK; have e0 := hI.q hnd 3
     have hS := Lib.hid (show w2 = W.drew from hI.world)
     exact hI.z1 hK (hI.r hd 3 14 false)
   · intro _ A0 w2 hI hd hnd K hK; have e0 := hI.p hd 4 15
     have hS := Lib.hid (show w2 = W.drew from hI.world)
     have hcc : w2.cell? ⟨w.heap.size, 1, none⟩ = some (.int .i64 xe) := by rw [hS.out]; exact FX1.out
     exact hI.z1 hK (hI.r hd 3 14 false)
   · intro _ A0 w2 hI hd hnd K hK; have e0 := hI.q hnd 0
     have hS := Lib.hid (show w2 = W.drew from hI.world)
     exact hI.z1 hK (hI.r hd 3 14 false)
   · intro _ A0 w2 hI hd hnd K hK; have e0 := hI.p hd 6 17
     have hS := Lib.hid (show w2 = W.drew from hI.world)
     exact hI.z1 hK (hI.r hd 3 14 false)
   · intro _ A0 w2 hI hd hnd K hK; have e0 := hI.p hd 7 18
     have hS := Lib.hid (show w2 = W.drew from hI.world)
     exact hI.z1 hK (hI.r hd 3 14 false)
   · intro _ A0 w2 hI hd hnd K hK; have e0 := hI.p hd 8 19
     have hS := Lib.hid (show w2 = W.drew from hI.world)
     have hcc : w2.cell? ⟨L, 3, none⟩ = some (.int .i64 ne) := by rw [hS.out]; exact FL3.out
     exact hI.z1 hK (hI.r hd 3 14 false)
   · intro _ A0 w2 hI hd hnd K hK; have e0 := hI.p hd 5 16; have e1 := hI.p hd 9 20
     have hS := Lib.hid (show w2 = W.drew from hI.world)
     exact hI.z1 hK (hI.r hd 3 14 false)
   · intro _ A0 w2 hI hd hnd K hK; have e0 := hI.p hd 3 14; have e1 := hI.p hd 10 21
     have hS := Lib.hid (show w2 = W.drew from hI.world)
     exact hI.z hK
   · intro _ A0 w2 hI hd hnd K hK; have e0 := hI.p hd 11 22
     have hS := Lib.hid (show w2 = W.drew from hI.world)
     exact hI.z hK
 · intro _ A0 w2 hI hall; obtain ⟨x0, g0, h0⟩ := hI.got 0 _ 11 rfl rfl (hall 0 (by decide)); obtain ⟨x1, g1, h1⟩ := hI.got 1 _ 12 rfl rfl (hall 1 (by decide)); obtain ⟨x2, g2, h2⟩ := hI.got 2 _ 13 rfl rfl (hall 2 (by decide)); obtain ⟨x3, g3, h3⟩ := hI.got 3 _ 14 rfl rfl (hall 3 (by decide)); obtain ⟨x4, g4, h4⟩ := hI.got 4 _ 15 rfl rfl (hall 4 (by decide)); obtain ⟨x5, g5, h5⟩ := hI.got 5 _ 16 rfl rfl (hall 5 (by decide)); obtain ⟨x6, g6, h6⟩ := hI.got 6 _ 17 rfl rfl (hall 6 (by decide)); obtain ⟨x7, g7, h7⟩ := hI.got 7 _ 18 rfl rfl (hall 7 (by decide)); obtain ⟨x8, g8, h8⟩ := hI.got 8 _ 19 rfl rfl (hall 8 (by decide)); obtain ⟨x9, g9, h9⟩ := hI.got 9 _ 20 rfl rfl (hall 9 (by decide)); obtain ⟨x10, g10, h10⟩ := hI.got 10 _ 21 rfl rfl (hall 10 (by decide)); obtain ⟨x11, g11, h11⟩ := hI.got 11 _ 22 rfl rfl (hall 11 (by decide)); obtain ⟨x12, g12, h12⟩ := hI.got 12 _ 10 rfl rfl (hall 12 (by decide))
   obtain rfl : w2 = W.drew := hI.world
   have hA : A0 = _ := hI.tmps [(11, x0), (12, x1), (13, x2), (14, x3), (15, x4), (16, x5), (17, x6), (18, x7), (19, x8), (20, x9), (21, x10), (22, x11), (10, x12)] (by simp only [List.mem_cons, List.not_mem_nil, or_false, forall_eq_or_imp, forall_eq]; exact ⟨g0, g1, g2, g3, g4, g5, g6, g7, g8, g9, g10, g11, g12⟩) (by kernel_rfl)
   obtain rfl : x12 = .bool false := h12 _ rfl
   clear h0 g0 h1 g1 h2 g2 h3 g3 h4 g4 h5 g5 h6 g6 h7 g7 h8 g8 h9 g9 h10 g10 h11 g11 h12 g12 hI hall
   simp only [setAll, List.foldl, List.setIfInBounds_toArray, List.set_cons_zero, List.set_cons_succ] at hA
   rw [hA]
   clear hA
   have HUN := Lib.hid (until_c L b y m p ne n f xe W.drew (HKW.out.below (Below.refl _ _).drew) HP.out)
   have k1 : W.drew.cell? ⟨w.heap.size, 1, none⟩ = some (.int .i64 xe) := FX1.out
   have HX2 := Lib.hid (show W.drew.heap[w.heap.size]? = _ from HX.out)
   have HBW2 := Lib.hid (show Below w.heap.size w W.drew from HBW.out.drew)
   have HS2 := Lib.hid (show w.heap.size < W.drew.heap.size from HS)
   generalize W.drew = W2 at *
   go_wp2_with fail
   refine HUN.out.mono ?_
   rintro e2 w3 ⟨last, hmp, hl1, rfl, hb3⟩
   have HMP := Lib.hid hmp
   have HL1 := Lib.hid hl1
   have HB3 := Lib.hid (HBW2.out.trans (hb3.mono HBW2.out.size))
   have HX3 := Lib.hid ((hb3.block _ HS2.out).trans HX2.out)
   obtain ⟨day, hday⟩ : ∃ day, untD y m p last = day := ⟨_, rfl⟩
   have HDAY := Lib.hid hday
   rw [hday]
   clear hmp hl1 hb3 k1 hday
   by_cases h0 : 0 ≤ last
   case neg =>
    have hr := Lib.hid (show chkL y m p ne xe xd last = 0 by unfold chkL; rw [if_neg HGOOD.out, if_neg (fun h => h0 h.1)])
    rw [decide_eq_false h0]
    clear h0
    go_wp2_with fail
    go_ret
    exact ⟨0, rfl, Or.inr ⟨last, HMP.out, HL1.out, hr.out.symm⟩, HB3.out⟩
   case pos =>
   rw [decide_eq_true h0]
   have k2 : w3.cell? ⟨w.heap.size, 2, none⟩ = some (.int .i64 xd) := blk_cell HX3.out 2
   by_cases h3 : xd ≤ day
   case pos =>
    have h3d : decide (xd ≤ day) = true := decide_eq_true h3
    have hr := Lib.hid (show chkL y m p ne xe xd last = 12 by unfold chkL; rw [HDAY.out, if_neg HGOOD.out, if_pos ⟨h0, h3⟩])
    clear h0 h3
    go_wp2_with fail
    go_ret
    exact ⟨12, rfl, Or.inr ⟨last, HMP.out, HL1.out, hr.out.symm⟩, HB3.out⟩
   case neg =>
    have h3d : decide (xd ≤ day) = false := decide_eq_false h3
    have hr := Lib.hid (show chkL y m p ne xe xd last = 0 by unfold chkL; rw [HDAY.out, if_neg HGOOD.out, if_neg (fun h => h3 h.2)])
    clear h0 h3
    go_wp2_with fail
    go_ret
    exact ⟨0, rfl, Or.inr ⟨last, HMP.out, HL1.out, hr.out.symm⟩, HB3.out⟩
def doF (p ne : Int) (f : KK → Bool) (c : KK) (u : Bool) : KK → Bool := if u = true then unlockF f c else lockF p ne f c
theorem LkC.more {w : World} {L b : Nat} {y m p ne : Int} {n : Nat} {f : KK → Bool} (h : LkC w L b y m p ne n f) : LkC w L b y m p ne (n + 1) f := ⟨h.1, h.2.1.mono (Nat.le_succ n), h.2.2⟩
def LNewPost (g : XGroup) (w : World) (e : Ending) (w' : World) : Prop := Below w.heap.size w w' ∧
 ((groupB g = false ∧ e = .returned (.tuple #[.pointer none, .int .i64 1])) ∨
  (groupB g = true ∧ ∃ L b : Nat, e = .returned (.tuple #[.pointer (some ⟨L, 0, none⟩), .int .i64 0]) ∧ LkC w' L b g.calendar.year g.calendar.month g.calendar.periods (g.entities.length : Int) 0 (fun _ => false) ∧ w.heap.size ≤ L ∧ w.heap.size ≤ b))
set_option maxHeartbeats 2000000 in
theorem lnew_c (g : XGroup) (gl : List Value) (w : World) (hg : GroupC w (· < w.heap.size) gl g) (hsm : smallG g) : Calls Tryz.prog 12 #[.agg gl.toArray] w (LNewPost g w) := by
 have hmm := @run_makeMap Tryz.prog
 have HVAL := Lib.hid (group_v hg hsm)
 have hlen : gl.toArray.size = 21 := by have := hg.len; simpa using this
 have HGS := Lib.hid hlen
 have HV := Lib.hid hg.view
 obtain ⟨b, hb⟩ : ∃ b, groupB g = b := ⟨_, rfl⟩
 have HB := Lib.hid hb
 rw [hb] at HVAL
 clear hg hsm hlen hb
 go_enter Tryz.func12, Tryz.ntmps12
 go_upto_region 1 with fail
 have H1 := heap_alloc_new w (.cells gl.toArray 29)
 have HB1 := below1 w (.cells gl.toArray 29)
 have HS1 := blk_lt H1
 generalize hW1 : w.alloc (Obj.cells gl.toArray 29) = W at *
 clear hW1
 have HK := Lib.hid H1
 clear H1
 go_wp2_with (show wpList _ _ _ (Oper.mk (some 4) _ _ _ _ _ :: _) _ _; refine wpList_load_row_g rfl 29 (.tmp 1) rfl (w.heap.size) rfl _ _ _ _ HK.out Tryz.underlying29 rfl (by rw [info_group]; exact congrArg some HGS.out.symm) ?_)
 refine (HVAL.out W HB1).mono ?_
 rintro e w2 ⟨rfl, hb2⟩
 have hb02 := HB1.trans (hb2.mono HB1.size)
 have HK2 := Lib.hid ((hb2.block _ HS1).trans HK.out)
 cases b with
 | false =>
  have hf := HB.out
  go_wp2_with fail
  go_ret2
  exact ⟨hb02, .inl ⟨hf, rfl⟩⟩
 | true =>
 go_upto_region 3 with fail
 obtain ⟨Ac, cc, Ae, ce, hv⟩ := HV.out
 have c1 : gl[1]? = some (.int .i64 g.calendar.year) := by first | exact hv.2.2.2.1 | simp [hv]
 have c2 : gl[2]? = some (.int .i64 g.calendar.month) := by first | exact hv.2.2.2.2.1 | simp [hv]
 have c3 : gl[3]? = some (.int .i64 g.calendar.periods) := by first | exact hv.2.2.2.2.2.1 | simp [hv]
 have HCR := Lib.hid (cal_range HK2.out c1 c2 c3)
 have g20 : w2.cell? ⟨w.heap.size, 20, none⟩ = some (.slice Ae g.entities.length ce) := (blk_cell HK2.out 20).trans (by simpa using hv.2.1)
 clear hv c1 c2 c3
 obtain ⟨ne, hne⟩ : ∃ ne, g.entities.length = ne := ⟨_, rfl⟩
 have HNE := Lib.hid hne
 rw [hne] at g20
 clear hne
 go_wp2_with (show wpList _ _ _ (Oper.mk (some 8) _ _ _ _ _ :: _) _ _; go_loud (refine wpList_load_mid_g (by rfl) 23 (.tmp 7) rfl w.heap.size 1 rfl [.int .i64 g.calendar.year, .int .i64 g.calendar.month, .int .i64 g.calendar.periods] _ HCR.out Tryz.underlying23 rfl info_cal ?_))
 go_ret2
 have hsz := hb02.size
 have hm := (MapL.made w2).below (below1 _ (.cells #[.int .i64 g.calendar.year, .int .i64 g.calendar.month, .int .i64 g.calendar.periods, .int .i64 (ne : Int), .map (some w2.heap.size)] 96))
 have hh := heap_alloc_new (w2.alloc (.map #[] 0)) (.cells #[.int .i64 g.calendar.year, .int .i64 g.calendar.month, .int .i64 g.calendar.periods, .int .i64 (ne : Int), .map (some w2.heap.size)] 96)
 have e1 : (w2.alloc (.map #[] 0)).heap.size = w2.heap.size + 1 := by simp
 rw [e1] at hh
 refine ⟨(hb02.alloc hb02.size _).alloc (by rw [e1]; omega) _, .inr ⟨HB.out, w2.heap.size + 1, w2.heap.size, rfl, ⟨?_, hm, by omega⟩, by omega, hsz⟩⟩
 rw [HNE.out]
 exact hh
def bdS (x : XStep) : Prop := intBd x.entity ∧ intBd x.period
instance (x : XStep) : Decidable (bdS x) := by unfold bdS intBd; infer_instance
theorem kk0 : intBd ((0 : Int), (0 : Int)).1 ∧ intBd ((0 : Int), (0 : Int)).2 := by unfold intBd; omega
def keyS (x : XStep) : KK := if h : bdS x then ⟨(x.entity, x.period), h⟩ else ⟨(0, 0), kk0⟩
theorem keyS_bd {x : XStep} (h : bdS x) : keyS x = ⟨(x.entity, x.period), h⟩ := dif_pos h
def stepF (p ne : Int) (f : KK → Bool) (x : XStep) : KK → Bool := doF p ne f (keyS x) x.unlock
def allF (p ne : Int) (l : List XStep) : KK → Bool := l.foldl (stepF p ne) (fun _ => false)
theorem allF_snoc (p ne : Int) (l : List XStep) (x : XStep) : allF p ne (l ++ [x]) = stepF p ne (allF p ne l) x := by
 unfold allF
 rw [List.foldl_append]
 rfl
theorem allF_succ {p ne : Int} {l : List XStep} {k : Nat} (hk : k < l.length) : allF p ne (l.take (k + 1)) = stepF p ne (allF p ne (l.take k)) l[k] := by
 rw [List.take_add_one, List.getElem?_eq_getElem hk]
 exact allF_snoc p ne _ _
def inF (p ne : Int) (c : KK) : Prop := (0 ≤ c.1.1 ∧ c.1.1 < ne) ∧ 0 ≤ c.1.2 ∧ c.1.2 < p
theorem lockE_in {p ne : Int} {f : KK → Bool} {c : KK} (h : lockE p ne f c = 0) : inF p ne c ∧ f c = false := by
 unfold lockE at h
 unfold inF
 split at h
 · exact absurd h (by decide)
 · split at h
   · exact absurd h (by decide)
   · split at h
     · exact absurd h (by decide)
     · rename_i h1 h2 h3
       exact ⟨by omega, by simpa using h3⟩
theorem stepF_range {p ne : Int} {f : KK → Bool} (hf : ∀ c, f c = true → inF p ne c) (x : XStep) : ∀ c, stepF p ne f x c = true → inF p ne c := by
 intro c hc
 unfold stepF doF at hc
 split at hc
 · unfold unlockF at hc
   split at hc
   · cases hc
   · exact hf c hc
 · unfold lockF at hc
   split at hc
   · rename_i h0
     simp only at hc
     split at hc
     · rename_i h1
       rw [h1]
       exact (lockE_in h0).1
     · exact hf c hc
   · exact hf c hc
theorem foldF_range (p ne : Int) : ∀ (l : List XStep) (f : KK → Bool), (∀ c, f c = true → inF p ne c) → ∀ c, l.foldl (stepF p ne) f c = true → inF p ne c
 | [], f, hf => hf
 | x :: l, f, hf => foldF_range p ne l _ (stepF_range hf x)
theorem allF_range (p ne : Int) (l : List XStep) : ∀ c, allF p ne l c = true → inF p ne c := foldF_range p ne l _ (fun c h => by cases h)
theorem MostP.same {f g : KK → Bool} {e a : Int} (h : ∀ c : KK, c.1.1 = e → f c = g c) (ha : MostP f e a) : MostP g e a :=
 ⟨fun c hc he => ha.1 c ((h c he).trans hc) he, ha.2.imp id (fun ⟨c, h1, h2, h3⟩ => ⟨c, (h c h2).symm.trans h1, h2, h3⟩)⟩
def ckP (y m p ne : Int) (f : KK → Bool) (e d r : Int) : Prop := (e < 0 ∨ ne ≤ e) ∧ r = 1 ∨ ∃ last, MostP f e last ∧ -1 ≤ last ∧ r = chkL y m p ne e d last
theorem ckP.uniq {y m p ne : Int} {f g : KK → Bool} {e d r s : Int} (hf : ∀ c, f c = true → 0 ≤ c.1.2) (h : ∀ c : KK, c.1.1 = e → f c = g c) (h1 : ckP y m p ne f e d r) (h2 : ckP y m p ne g e d s) : r = s := by
 rcases h1 with ⟨a, rfl⟩ | ⟨l1, m1, b1, rfl⟩
 · rcases h2 with ⟨_, rfl⟩ | ⟨l2, m2, b2, rfl⟩
   · rfl
   · unfold chkL; rw [if_pos a]
 · rcases h2 with ⟨a, rfl⟩ | ⟨l2, m2, b2, rfl⟩
   · unfold chkL; rw [if_pos a]
   · rw [m1.uniq hf (m2.same (fun c hc => (h c hc).symm))]
def ltK (a c : KK) : Prop := a.1.1 < c.1.1 ∨ a.1.1 = c.1.1 ∧ a.1.2 < c.1.2
theorem ltK_irr (a : KK) : ¬ ltK a a := fun h => by unfold ltK at h; omega
theorem ltK_trans {a b c : KK} (h : ltK a b) (h2 : ltK b c) : ltK a c := by unfold ltK at *; omega
theorem sortedK_uniq : ∀ {a b : List KK}, a.Pairwise ltK → b.Pairwise ltK → (∀ c, c ∈ a ↔ c ∈ b) → a = b
 | [], [], _, _, _ => rfl
 | [], y :: b, _, _, h => absurd ((h y).2 (List.mem_cons_self ..)) (by simp)
 | x :: a, [], _, _, h => absurd ((h x).1 (List.mem_cons_self ..)) (by simp)
 | x :: a, y :: b, ha, hb, h => by
  obtain ⟨ha1, ha2⟩ := List.pairwise_cons.1 ha
  obtain ⟨hb1, hb2⟩ := List.pairwise_cons.1 hb
  have hxy : x = y := by
   rcases List.mem_cons.1 ((h x).1 (List.mem_cons_self ..)) with e | hx
   · exact e
   · rcases List.mem_cons.1 ((h y).2 (List.mem_cons_self ..)) with e | hy
     · exact e.symm
     · exact absurd (ltK_trans (hb1 x hx) (ha1 y hy)) (ltK_irr y)
  subst hxy
  rw [sortedK_uniq ha2 hb2 (fun c => ?_)]
  constructor
  · intro hc
    rcases List.mem_cons.1 ((h c).1 (List.mem_cons_of_mem _ hc)) with e | h2
    · subst e; exact absurd (ha1 c hc) (ltK_irr c)
    · exact h2
  · intro hc
    rcases List.mem_cons.1 ((h c).2 (List.mem_cons_of_mem _ hc)) with e | h2
    · subst e; exact absurd (hb1 c hc) (ltK_irr c)
    · exact h2
def ListK (f : KK → Bool) (ks : List KK) : Prop := ks.Pairwise ltK ∧ ∀ c, c ∈ ks ↔ f c = true
theorem ListK.uniq {f g : KK → Bool} {a b : List KK} (h : ∀ c, f c = g c) (ha : ListK f a) (hb : ListK g b) : a = b := sortedK_uniq ha.1 hb.1 (fun c => by rw [ha.2, hb.2, h])
end Go.Proofs.YtekelchdbkjjjaaGreat
