/- Maps of bools that the call itself makes. Written by gen_b7.py. -/
import Derived.Test.YtebdajkknkapcaaG4xB0B6
import Derived.Test.YtebdajkknkapcaaProg
import Derived.Maps.Views
namespace Go.Proofs.Ytebdajkknkapcaa
open Go Go.RowKit
open Go.Maps (Keyed)
set_option linter.unusedVariables false
set_option linter.unusedSimpArgs false
attribute [local go_sem ↓] Go.wp_at_zero Go.wp_at_succ
abbrev UD := DataW Unit
theorem plainElem_bool_inv {P : Program} {e : TypeId} (he : P.underlying e = some .bool) {v : Value} {z : UD × List MemPlace} (h : plainElem P e v = some z) : ∃ a, v = .bool a ∧ z = (.lit (.bool a), []) := by
  unfold plainElem at h
  rw [he] at h
  cases v <;> simp at h
  exact ⟨_, rfl, h.symm⟩
/-- Block b is a map of bools of at most n entries: f says what stands at each key. -/
def SetK {α : Type} (P : Program) (k e : TypeId) (κ : α → Lit) (w : World) (b n : Nat) (f : α → Bool) : Prop :=
  ∃ D : UD, w.ownsMap P k (plainElem P e) b n D ∧ ∀ c, D.atKey (κ c) (.lit (.bool false)) = .lit (.bool (f c))
section
variable {α : Type} {P : Program} {k e t : TypeId} {κ : α → Lit} {w w' : World} {b n : Nat} {f : α → Bool}
theorem SetK.made (P : Program) (k e : TypeId) (κ : α → Lit) (w : World) : SetK P k e κ (w.alloc (.map #[] 0)) w.heap.size 0 (fun _ => false) :=
  ⟨_, World.ownsMap_made w P k _, fun _ => rfl⟩
theorem SetK.kept {row : Option Nat} (h : SetK P k e κ w b n f) (hg : w.grownBy w' row) (hne : some b ≠ row) : SetK P k e κ w' b n f := by
  obtain ⟨D, h1, h2⟩ := h
  exact ⟨D, h1.kept hg hne, h2⟩
theorem SetK.lt (h : SetK P k e κ w b n f) : b < w.heap.size := by
  obtain ⟨D, h1, h2⟩ := h
  exact h1.lt
theorem SetK.fr {Q : Nat → Prop} (h : SetK P k e κ w b n f) (hf : Fr Q w w') (hb : Q b) : SetK P k e κ w' b n f := by
  obtain ⟨D, ⟨es, clock, h1, h3, h4, h5⟩, h2⟩ := h
  exact ⟨D, ⟨es, clock, (hf.block b hb).trans h1, h3, h4, h5⟩, h2⟩
theorem SetK.below (h : SetK P k e κ w b n f) (hb : Below w.heap.size w w') : SetK P k e κ w' b n f := h.fr (Fr.ofBelow hb) h.lt
theorem SetK.mono (h : SetK P k e κ w b n f) {n' : Nat} (hn : n ≤ n') : SetK P k e κ w b n' f := by
  obtain ⟨D, h1, h2⟩ := h
  exact ⟨D, h1.mono hn, h2⟩
theorem SetK.eqv {g : α → Bool} (h : SetK P k e κ w b n f) (hg : ∀ c, f c = g c) : SetK P k e κ w b n g := by
  obtain ⟨D, h1, h2⟩ := h
  exact ⟨D, h1, fun c => by rw [h2 c, hg c]⟩
theorem SetK.look (h : SetK P k e κ w b n f) (K : Keyed P k) (ht : P.underlying t = some (.map k e)) (he : P.underlying e = some .bool) (hz : (zeroValue e).run P w = .ok (.bool false) w)
    {key : Value} {c : α} (hkey : keyOf P k key = some (κ c)) : (Instr.lookup t (.map (some b)) key false).run P w = .ok (.bool (f c)) w := by
  obtain ⟨D, h1, h2⟩ := h
  obtain ⟨v, ps, hrun, hv⟩ := h1.lookup K ht hz (plainElem_bool he false) hkey
  obtain ⟨a, rfl, ha⟩ := plainElem_bool_inv he hv
  rw [h2 c] at ha
  simp only [Prod.mk.injEq, DataW.lit.injEq, Lit.bool.injEq] at ha
  rw [hrun, ha.1]
theorem SetK.store [DecidableEq α] (h : SetK P k e κ w b n f) (K : Keyed P k) (ht : P.underlying t = some (.map k e)) (he : P.underlying e = some .bool) (hn : n < maxLen) (hκ : ∀ x y, κ x = κ y → x = y) (hl : ∀ x, WideAt.IsKeyLit (κ x))
    {key : Value} {c : α} (x : Bool) (hkey : keyOf P k key = some (κ c)) :
    ∃ w', (Instr.mapUpdate t (.map (some b)) key (.bool x)).run P w = .ok () w' ∧ SetK P k e κ w' b (n + 1) (fun d => if d = c then x else f d) ∧ w.grownBy w' (some b) := by
  obtain ⟨D, h1, h2⟩ := h
  obtain ⟨w2, hrun, h3, h4⟩ := h1.update K ht hn hkey (plainElem_bool he x)
  refine ⟨w2, hrun, ⟨_, h3, fun d => ?_⟩, h4⟩
  have hm : Maps.IsMap D := by obtain ⟨es, clock, _, _, _, e⟩ := h1; exact ⟨_, e⟩
  by_cases hd : d = c
  · subst hd
    rw [Maps.atKey_put_same hm (hl d)]; simp
  · rw [Maps.atKey_put_other (fun e => hd (hκ _ _ e)), h2 d]; simp [hd]
end
/-- 'm[k]' at the operation. -/
theorem wpList_look_set {α : Type} {P : Program} {κ : α → Lit} {ops : Array Oper} {rest : List Oper} {o : Oper} {a : Act} {w : World} {Q : Exit → Act → World → Prop} (hw : Region.wanted o (yielded ops a.tmps) = true) (m x : Operand) (t : TypeId) (hop : o.op = Op.lookup t m x false)
    (k e : TypeId) (K : Keyed P k) (ht : P.underlying t = some (.map k e)) (he : P.underlying e = some .bool) (hz : (zeroValue e).run P w = .ok (.bool false) w) (b n : Nat) (f : α → Bool)
    (hm : a.eval m = .map (some b)) (h : SetK P k e κ w b n f) (key : Value) (c : α) (hx : a.eval x = key) (hkey : keyOf P k key = some (κ c))
    (hK : wpList P ops Q rest (a.put o.dst (.bool (f c))) w) : wpList P ops Q (o :: rest) a w :=
  wpList_step fun K' hK' => by
    rw [if_pos hw]
    have hrun := h.look K ht he hz hkey
    unfold Oper.wp
    simp [execOp, hop, hm, hx, hrun, Result.andThen]
    exact hK' _ _ hK
/-- 'm[k] = x' at the operation. -/
theorem wpList_store_set {α : Type} [DecidableEq α] {P : Program} {κ : α → Lit} {ops : Array Oper} {rest : List Oper} {o : Oper} {a : Act} {w : World} {Q : Exit → Act → World → Prop} (hg : o.guard = none) (m x v : Operand) (t : TypeId) (hop : o.op = Op.mapUpdate t m x v)
    (k e : TypeId) (K : Keyed P k) (ht : P.underlying t = some (.map k e)) (he : P.underlying e = some .bool) (b n : Nat) (f : α → Bool)
    (hm : a.eval m = .map (some b)) (h : SetK P k e κ w b n f) (hn : n < maxLen) (hκ : ∀ x y, κ x = κ y → x = y) (hl : ∀ x, WideAt.IsKeyLit (κ x)) (key : Value) (c : α) (hx : a.eval x = key) (xv : Bool) (hv : a.eval v = .bool xv) (hkey : keyOf P k key = some (κ c))
    (hK : ∀ w', SetK P k e κ w' b (n + 1) (fun d => if d = c then xv else f d) → w.grownBy w' (some b) → wpList P ops Q rest (a.put o.dst undef) w') : wpList P ops Q (o :: rest) a w := by
  refine wpList_plain hg fun K' hK' => ?_
  obtain ⟨w', hrun, r1, r2⟩ := h.store K ht he hn hκ hl xv hkey
  unfold Oper.wp
  simp [execOp, hop, hm, hx, hv, hrun, Result.andThen]
  exact hK' _ _ (hK w' r1 r2)
/-- Keys that are ints. -/
def iKey (n : Int) : Lit := .int .i64 n
theorem iKey_inj (x y : Int) (h : iKey x = iKey y) : x = y := by unfold iKey at h; injection h
theorem iKey_lit (x : Int) : WideAt.IsKeyLit (iKey x) := by unfold iKey; first | trivial | exact Or.inl trivial | simp [WideAt.IsKeyLit]
theorem int_uty : Try.prog.underlying 3 = some (.int .i64) := by kernel_rfl
theorem bool_uty : Try.prog.underlying 4 = some .bool := by kernel_rfl
theorem bool_zero (w : World) : (zeroValue 4).run Try.prog w = .ok (.bool false) w := by kernel_rfl
theorem imap_uty : Try.prog.underlying 211 = some (.map 3 4) := by kernel_rfl
theorem int_keyed3 : Keyed Try.prog 3 := Maps.int_keyed int_uty
theorem iKey_of {n : Int} (h : intBd n) : keyOf Try.prog 3 (.int .i64 n) = some (iKey n) := Maps.keyOf_int_mk int_uty (WalkArith.wf_i64 h)
abbrev SetI (w : World) (b n : Nat) (f : Int → Bool) : Prop := SetK Try.prog 3 4 iKey w b n f
end Go.Proofs.Ytebdajkknkapcaa
/- Charts: Find, in the program and in the reference. Written by gen_b8.py. -/
namespace Go.Proofs.Ytebdajkknkapcaa
open Go Go.RowKit
set_option linter.unusedVariables false
set_option linter.unusedSimpArgs false
set_option maxRecDepth 4000
attribute [local go_sem ↓] Go.wp_at_zero Go.wp_at_succ
theorem info_acc : (Try.prog.info? 152).map (·.size) = some 4 := by kernel_rfl
abbrev accL (a : XAccount) : List Value := [.int .i64 a.code, .int .i64 a.kind, .int .i64 a.basis, .int .i64 a.parent]
def accB (a : XAccount) : Prop := intBd a.code ∧ intBd a.kind ∧ intBd a.basis ∧ intBd a.parent
theorem AccountC.lit {w : World} {Q : Nat → Prop} {cs : List Value} {x : XAccount} (h : AccountC w Q cs x) : cs = accL x ∧ accB x := by
  obtain ⟨c0, c1, c2, c3, rfl, ⟨rfl, h0⟩, ⟨rfl, h1⟩, ⟨rfl, h2⟩, ⟨rfl, h3⟩⟩ := h
  exact ⟨rfl, h0, h1, h2, h3⟩
theorem At.range {w : World} {Q : Nat → Prop} {b o : Nat} {vs : List Value} (h : At w Q ⟨b, o, none⟩ vs) : w.rangeAt b o vs := fun j v hj => h.c hj
theorem info_accL (a : XAccount) : (Try.prog.info? 152).map (·.size) = some (accL a).length := info_acc
theorem info_accS (a : XAccount) : (Try.prog.info? 152).map (·.size) = some (accL a).toArray.size := info_acc
theorem accL_one (a : XAccount) : (accL a).toArray.all (·.oneCell') = true := by simp only [accL, List.all_toArray, List.all_cons, List.all_nil, Value.oneCell', Bool.and_true]
/-- A new variable is set whole (the world of the goal is a letter: to be tried at any operation). -/
theorem wpList_store_fresh3 {P : Program} {ops : Array Oper} {rest : List Oper} {o : Oper} {a : Act} {Q : Exit → Act → World → Prop} {w0 : World} (hgd : o.guard = none) (ty : TypeId) (x y : Operand) (ho : o.op = .store ty x y) (hd : o.dst = none)
    (w1 : World) (old : Array Value) (t : TypeId) (cells : Array Value) (hw : w0 = w1.alloc (.cells old t)) (hx : a.eval x = .pointer (some ⟨w1.heap.size, 0, none⟩)) (hy : a.eval y = .agg cells)
    (hi : (P.info? ty).map (·.size) = some cells.size) (hold : old.size = cells.size) (h1 : cells.all (·.oneCell') = true)
    (h : ∀ w2 : World, w2.heap[w1.heap.size]? = some (.cells cells t (0, 0)) → Below w1.heap.size w1 w2 → w1.heap.size < w2.heap.size → wpList P ops Q rest a w2) :
    wpList P ops Q (o :: rest) a w0 := by
  subst hw
  exact wpList_store_fresh2 hgd ty x y ho hd w1 old t cells hx hy hi hold h1 h
theorem alloc_keep {w : World} {g : Nat} {x : Obj} (h : w.heap[g]? = some x) (o : Obj) : (w.alloc o).heap[g]? = some x := by
  rw [Below.heap_alloc _ _ _ (blk_lt h)]; exact h
theorem below_setRow {B : Nat} {w w' : World} (h : Below B w w') {g : Nat} (hg : B ≤ g) (cs : Array Value) : Below B w (w'.setRow g cs) :=
  ((Fr.ofBelow h).trans ((fr_setRow w' g cs).mono (fun k (hk : k < B) => by omega))).below
theorem accZ (a : XAccount) : (accL {}).toArray.size = (accL a).toArray.size := rfl
/-- The first account with a code. -/
def findA (l : List XAccount) (c : Int) : Option XAccount := l.find? (fun a => a.code == c)
def accO (o : Option XAccount) : XAccount := o.getD {}
def findV (l : List XAccount) (c : Int) : Value := .tuple #[.agg (accL (accO (findA l c))).toArray, .bool (findA l c).isSome]
theorem findA_none {l : List XAccount} {c : Int} (h : ∀ j (hj : j < l.length), l[j].code ≠ c) : findA l c = none := by
  unfold findA
  rw [List.find?_eq_none]
  intro x hx
  obtain ⟨j, hj, rfl⟩ := List.getElem_of_mem hx
  simpa using h j hj
theorem findA_some {l : List XAccount} {c : Int} {k : Nat} (hk : k < l.length) (he : l[k].code = c) (h : ∀ j (hj : j < k), (l[j]'(by omega)).code ≠ c) : findA l c = some l[k] := by
  unfold findA
  rw [List.find?_eq_some_iff_getElem]
  exact ⟨by simpa using he, k, hk, rfl, fun j hj => by simpa using h j hj⟩
set_option maxHeartbeats 1000000 in
theorem find_c (l : List XAccount) (A : Option Addr) (c : Nat) (code : Int) (w : World) (hl : ListC AccountC 4 w (· < w.heap.size) [.slice A l.length c] l) (hc : intBd code) (hn : l.length ≤ 1000) : Calls Try.prog 120 #[.slice A l.length c, .int .i64 code] w (Quiet w (findV l code)) := by
  obtain ⟨r, hr⟩ : ∃ r, findV l code = r := ⟨_, rfl⟩
  rw [hr]
  have HR := Lib.hid hr
  clear hr
  obtain ⟨n, hnl⟩ : ∃ n, l.length = n := ⟨_, rfl⟩
  rw [hnl] at hn
  have HL := Lib.hid hl
  have HN := Lib.hid hnl
  rw [hnl]
  clear hl hnl
  obtain ⟨hc1, hc2⟩ := hc
  go_enter Try.func120, Try.ntmps120
  go_upto_region 1 with fail
  have H0 := heap_alloc_new w (.cells #[.int .i64 0, .int .i64 0, .int .i64 0, .int .i64 0] 152)
  have HB := below1 w (.cells #[.int .i64 0, .int .i64 0, .int .i64 0, .int .i64 0] 152)
  have HS : w.heap.size < (w.alloc (.cells #[.int .i64 0, .int .i64 0, .int .i64 0, .int .i64 0] 152)).heap.size := blk_lt H0
  generalize hW : w.alloc (Obj.cells #[.int .i64 0, .int .i64 0, .int .i64 0, .int .i64 0] 152) = W at *
  have HH0 := Lib.hid H0
  clear hW H0
  go_wp2_with fail
  go_loopw [10] (fun i wr => ∃ k : Nat, k ≤ n ∧ i = .int .i64 (k : Int) ∧ Below W.heap.size W wr ∧ ∀ j (hj : j < l.length), j < k → l[j].code ≠ code) (fun i _ => n - (intOf i).toNat)
  case atStart => exact ⟨0, by omega, rfl, Below.refl _ _, fun j hj h => by omega⟩
  case round =>
    obtain ⟨k, hk, rfl, hb, hall⟩ := hrel
    have HA := Lib.hid hall
    have G0 := (hb.block _ HS).trans HH0.out
    have HG0 := Lib.hid G0
    clear hall G0
    have hsz := hb.size
    by_cases hlt : k < n
    case pos =>
      have hltI : (k : Int) < (n : Int) := by omega
      have hkl : k < l.length := by rw [HN.out]; exact hlt
      obtain ⟨b, o, es, hAe, hbw, hes, hat⟩ := ListC.get HL.out k hkl
      subst hAe
      obtain ⟨hes1, hb1, hb2, hb3, hb4⟩ := AccountC.lit hes
      rw [hes1] at hat
      obtain ⟨ac, hac⟩ : ∃ ac, l[k] = ac := ⟨_, rfl⟩
      rw [hac] at hat hb1 hb2 hb3 hb4
      have HAC := Lib.hid hac
      have HAR := Lib.hid ((hat.fr (Fr.ofBelow (HB.trans (hb.mono HB.size)))).range)
      clear hes hes1 hat hac
      obtain ⟨c1, c2, c3, c4⟩ := ac
      simp only at hb1 hb2 hb3 hb4

      have hwr := HB.trans (hb.mono HB.size)
      by_cases he : c1 = code
      case pos =>
        subst he
        have hr2 := Lib.hid (show r = .tuple #[.agg (accL ⟨c1, c2, c3, c4⟩).toArray, .bool true] by
          rw [← HR.out]; unfold findV
          rw [findA_some hkl (by rw [HAC.out]) (fun j hj => HA.out j (by omega) hj), HAC.out]; rfl)
        go_wp2_with (first | (show wpList _ _ _ (Oper.mk (some 13) _ _ _ _ _ :: _) _ _; refine wpList_load_mid rfl 152 (.tmp 12) rfl b (o + k * 4) rfl (accL ⟨c1, c2, c3, c4⟩) _ HAR.out Try.underlying152 rfl (info_accL _) ?_) | (show wpList _ _ _ (Oper.mk none (Op.store _ (Operand.tmp 4) _) _ _ _ _ :: _) _ _; refine wpList_store_row rfl 152 (.tmp 4) (.tmp 18) rfl w.heap.size (accL ⟨c1, c2, c3, c4⟩).toArray rfl rfl 152 (accL {}).toArray (alloc_keep HG0.out _) (info_accS _) (accZ _) (accL_one _) ?_))
        refine bodyPost_ret (v := .tuple #[.agg (accL ⟨c1, c2, c3, c4⟩).toArray, .bool true]) (results_cell_tmp rfl _ _ w.heap.size 152 _ (0, 0) _ rfl (heap_setRow (alloc_keep HG0.out _) _) Try.underlying152 rfl (info_accS _) _ rfl) rfl ⟨by rw [hr2.out]; first | done | rfl, below_setRow (hwr.alloc hwr.size _) (Nat.le_refl _) _⟩

      case neg =>
        go_wp2_with (show wpList _ _ _ (Oper.mk (some 13) _ _ _ _ _ :: _) _ _; refine wpList_load_mid rfl 152 (.tmp 12) rfl b (o + k * 4) rfl (accL ⟨c1, c2, c3, c4⟩) _ HAR.out Try.underlying152 rfl (info_accL _) ?_)
        go_roundw
        case rel => exact ⟨k + 1, by omega, by go_num, hb.alloc hb.size _, fun j hj hjk => by
          rcases Nat.lt_or_ge j k with h | h
          · exact HA.out j hj h
          · have : j = k := by omega
            subst this
            rw [HAC.out]
            exact he⟩
        case measure =>
          have e : wrap64 ((k : Int) + 1) = ((k + 1 : Nat) : Int) := by unfold wrap64; omega
          simp only [intOf, e]
          omega
    case neg =>
      have hltI : ¬ (k : Int) < (n : Int) := by omega
      have hwr := HB.trans (hb.mono HB.size)
      have hr2 := Lib.hid (show r = .tuple #[.agg (accL {}).toArray, .bool false] by
        rw [← HR.out]; unfold findV
        rw [findA_none (fun j hj => HA.out j hj (by have := HN.out; omega))]; rfl)
      go_wp2_with (show wpList _ _ _ (Oper.mk none (Op.store _ (Operand.tmp 4) _) _ _ _ _ :: _) _ _; refine wpList_store_row rfl 152 (.tmp 4) (.tmp 20) rfl w.heap.size (accL {}).toArray rfl rfl 152 (accL {}).toArray HG0.out (info_accS _) (accZ _) (accL_one _) ?_)
      refine bodyPost_ret (v := .tuple #[.agg (accL {}).toArray, .bool false]) (results_cell_tmp rfl _ _ w.heap.size 152 _ (0, 0) _ rfl (heap_setRow HG0.out _) Try.underlying152 rfl (info_accS _) _ rfl) rfl ⟨by rw [hr2.out]; first | done | rfl, below_setRow hwr (Nat.le_refl _) _⟩
end Go.Proofs.Ytebdajkknkapcaa
/- Charts: the way up, in plain Lean. Written by gen_b9.py. -/
namespace Go.Proofs.Ytebdajkknkapcaa
open Go Go.RowKit
set_option linter.unusedVariables false
set_option linter.unusedSimpArgs false
/-- The program's way up: the codes, and the code at which it stops. -/
def upP (l : List XAccount) : Nat → List Int → Int → List Int × Int
  | 0, acc, c => (acc, c)
  | f + 1, acc, c => match findA l c with
    | none => (acc, c)
    | some a => if acc.contains c then (acc, c) else upP l f (acc ++ [c]) a.parent
theorem findA_mem {l : List XAccount} {c : Int} {a : XAccount} (h : findA l c = some a) : a ∈ l ∧ a.code = c := by
  unfold findA at h
  exact ⟨List.mem_of_find?_eq_some h, by simpa using List.find?_some h⟩
theorem findA_of_mem {l : List XAccount} {a : XAccount} (h : a ∈ l) : (findA l a.code).isSome = true := by
  unfold findA
  rw [List.find?_isSome]
  exact ⟨a, h, by simp⟩
/-- Codes that are on the list: no two alike. -/
def known (l : List XAccount) (acc : List Int) : Prop := acc.Nodup ∧ ∀ x ∈ acc, (findA l x).isSome = true
theorem nodup_le : ∀ (xs ys : List Int), xs.Nodup → (∀ x ∈ xs, x ∈ ys) → xs.length ≤ ys.length
  | [], _, _, _ => Nat.zero_le _
  | x :: xs, ys, h, hs => by
    rw [List.nodup_cons] at h
    have hx : x ∈ ys := hs x (by simp)
    have := nodup_le xs (ys.erase x) h.2 (fun y hy => (List.mem_erase_of_ne (by rintro rfl; exact h.1 hy)).2 (hs y (by simp [hy])))
    rw [List.length_erase_of_mem hx] at this
    have := List.length_pos_of_mem hx
    simp only [List.length_cons]
    omega
theorem known_le {l : List XAccount} {acc : List Int} (h : known l acc) : acc.length ≤ l.length := by
  have h1 : acc ⊆ l.map (·.code) := by
    intro x hx
    have := h.2 x hx
    obtain ⟨a, ha⟩ := Option.isSome_iff_exists.1 this
    obtain ⟨m, e⟩ := findA_mem ha
    exact List.mem_map.2 ⟨a, m, e⟩
  have := nodup_le acc _ h.1 (fun x hx => h1 hx)
  simpa using this
theorem known_nil (l : List XAccount) : known l [] := ⟨List.nodup_nil, by simp⟩
theorem known_snoc {l : List XAccount} {acc : List Int} {c : Int} {a : XAccount} (h : known l acc) (hc : acc.contains c = false) (ha : findA l c = some a) : known l (acc ++ [c]) := by
  have hn : c ∉ acc := by simpa using hc
  refine ⟨List.nodup_append.2 ⟨h.1, by simp, ?_⟩, ?_⟩
  · intro x hx y hy
    simp only [List.mem_singleton] at hy
    subst hy
    exact fun e => hn (e ▸ hx)
  · intro x hx
    rcases List.mem_append.1 hx with h1 | h1
    · exact h.2 x h1
    · simp only [List.mem_singleton] at h1
      subst h1
      rw [ha]; rfl
/-- Each code of the way leads to one of the way, or to c. -/
def leads (l : List XAccount) (acc : List Int) (c : Int) : Prop := ∀ x ∈ acc, ∃ a, findA l x = some a ∧ (a.parent ∈ acc ∨ a.parent = c)
/-- The last account on the way leads to where the way stops. -/
theorem upP_last {l : List XAccount} : ∀ (f : Nat) (acc : List Int) (c : Int), (∀ x, acc.getLast? = some x → ∃ a, findA l x = some a ∧ a.parent = c) →
    ∀ x, (upP l f acc c).1.getLast? = some x → ∃ a, findA l x = some a ∧ a.parent = (upP l f acc c).2
  | 0, acc, c, h => h
  | f + 1, acc, c, h => by
    unfold upP
    cases ha : findA l c with
    | none => exact h
    | some a =>
      simp only
      by_cases hc : acc.contains c = true
      · rw [if_pos hc]; exact h
      · rw [if_neg hc]
        refine upP_last f (acc ++ [c]) a.parent ?_
        intro x hx
        rw [List.getLast?_append] at hx
        simp only [List.getLast?_singleton, Option.some_or, Option.some.injEq] at hx
        subst hx
        exact ⟨a, ha, rfl⟩
theorem upP_pos {l : List XAccount} : ∀ (f : Nat) (acc : List Int) (c : Int), acc.length ≤ (upP l f acc c).1.length
  | 0, acc, c => Nat.le_refl _
  | f + 1, acc, c => by
    unfold upP
    cases ha : findA l c with
    | none => exact Nat.le_refl _
    | some a =>
      simp only
      by_cases hc : acc.contains c = true
      · rw [if_pos hc]; exact Nat.le_refl _
      · rw [if_neg hc]
        have := upP_pos (l := l) f (acc ++ [c]) a.parent
        simp only [List.length_append, List.length_cons, List.length_nil] at this
        omega
/-- The fields of an account; its parent, if any, is another account of its kind. -/
def fieldB (g : Bool) (a : XAccount) : Bool := decide (1 ≤ a.code ∧ a.code ≤ 99999 ∧ 1 ≤ a.kind ∧ a.kind ≤ 5) && (if g then decide (1 ≤ a.basis ∧ a.basis ≤ 3) else a.basis == 0)
def parB (l : List XAccount) (a : XAccount) : Bool := match findA l a.parent with
  | none => false
  | some p => !(p.code == a.code) && p.kind == a.kind
def properP (l : List XAccount) (g : Bool) (a : XAccount) : Bool := fieldB g a && (a.parent == 0 || (parB l a && (upP l (l.length + 1) [] a.code).2 == 0))
def rowP (l : List XAccount) (g : Bool) (i : Nat) : Bool := match l[i]? with
  | none => false
  | some a => !(decide (0 < i) && decide ((l.getD (i - 1) {}).code ≥ a.code)) && properP l g a
def chartB (l : List XAccount) (g : Bool) : Bool := (List.range l.length).all (rowP l g) && decide (l.length ≤ 200)
end Go.Proofs.Ytebdajkknkapcaa
/- Charts: the way up, in the program. Written by gen_b10.py. -/
namespace Go.Proofs.Ytebdajkknkapcaa
open Go Go.RowKit
set_option linter.unusedVariables false
set_option linter.unusedSimpArgs false
set_option maxRecDepth 4000
attribute [local go_sem ↓] Go.wp_at_zero Go.wp_at_succ
def iv (l : List Int) : List Value := l.map (Value.int .i64)
theorem grown_of_below {w w' : World} (h : Below w.heap.size w w') : w.grownBy w' none := ⟨h.os, h.tape, h.output, h.size, fun k hk _ => h.block k hk⟩
theorem info_int : (Try.prog.info? 3).map (fun i => (i.zero, i.size, i.bytes)) = some (some (.int .i64 0), 1, 8) := by kernel_rfl
theorem findV_none {l : List XAccount} {c : Int} (h : findA l c = none) : findV l c = .tuple #[.agg (accL {}).toArray, .bool false] := by unfold findV; rw [h]; rfl
theorem findV_some {l : List XAccount} {c : Int} {a : XAccount} (h : findA l c = some a) : findV l c = .tuple #[.agg (accL a).toArray, .bool true] := by unfold findV; rw [h]; rfl
theorem upP_none {l : List XAccount} {c : Int} {f : Nat} {acc : List Int} (h : findA l c = none) : upP l (f + 1) acc c = (acc, c) := by unfold upP; rw [h]
theorem upP_seen {l : List XAccount} {c : Int} {f : Nat} {acc : List Int} {a : XAccount} (h : findA l c = some a) (hs : acc.contains c = true) : upP l (f + 1) acc c = (acc, c) := by unfold upP; rw [h]; simp only; rw [if_pos hs]
theorem upP_on {l : List XAccount} {c : Int} {f : Nat} {acc : List Int} {a : XAccount} (h : findA l c = some a) (hs : acc.contains c = false) : upP l (f + 1) acc c = upP l f (acc ++ [c]) a.parent := by
  conv => lhs; unfold upP
  rw [h]; simp only; rw [if_neg (by rw [hs]; decide)]
def lenOf : Value → Nat
  | .slice _ n _ => n
  | _ => 0
theorem own_len {w : World} {base : Nat} {e : TypeId} {size n : Nat} {v : Value} {xs : List Value} (h : w.ownsRow base e size v n xs) : lenOf v = n := by
  rcases h.2 with ⟨rfl, rfl⟩ | ⟨g, cap, cur, rfl, _⟩
  · rfl
  · rfl
/-- All accounts of a list are of the size of an int. -/
theorem ListC.accB {w : World} {Q : Nat → Prop} {cs : List Value} {l : List XAccount} (h : ListC AccountC 4 w Q cs l) : ∀ a ∈ l, accB a := by
  intro a ha
  obtain ⟨i, hi, rfl⟩ := List.getElem_of_mem ha
  obtain ⟨A, c, rfl, _, _⟩ := h.form
  obtain ⟨b, o, es, _, _, h1, _⟩ := h.get i hi
  exact (AccountC.lit h1).2
theorem chart_keep {w w' : World} {cs : List Value} {l : List XAccount} (h : ListC AccountC 4 w (· < w.heap.size) cs l) (hb : Below w.heap.size w w') : ListC AccountC 4 w' (· < w'.heap.size) cs l :=
  (h.fr (fun h => AccountC.fr h (Fr.ofBelow hb)) (Fr.ofBelow hb)).mono (fun h => AccountC.mono h (fun k hk => by have := hb.size; omega)) (fun k hk => by have := hb.size; omega)
theorem keep3 {w8 w9 : World} {o x : Obj} {g : Nat} {row : Option Nat} (h : w8.heap[g]? = some x) (hg9 : (w8.alloc o).grownBy w9 row) (hne : some g ≠ row) : w9.heap[g]? = some x :=
  (hg9.block g (by simp; have := blk_lt h; omega) hne).trans (alloc_keep h o)
theorem own_base {w : World} {base base' : Nat} {e : TypeId} {size n : Nat} {v : Value} {xs : List Value} (h : w.ownsRow base e size v n xs) (hb : base' ≤ base) : w.ownsRow base' e size v n xs := by
  refine ⟨h.1, ?_⟩
  rcases h.2 with h | ⟨g, cap, cur, h1, h2, h3⟩
  · exact .inl h
  · exact .inr ⟨g, cap, cur, h1, Nat.le_trans hb h2, h3⟩
theorem own_below {w w' : World} {base : Nat} {e : TypeId} {size n : Nat} {v : Value} {xs : List Value} (h : w.ownsRow base e size v n xs) (hb : Below w.heap.size w w') : w'.ownsRow base e size v n xs :=
  h.kept (grown_of_below hb) (by cases v.ownBlock <;> simp)
theorem own_ne {w : World} {base k : Nat} {e : TypeId} {size n : Nat} {v : Value} {xs : List Value} (h : w.ownsRow base e size v n xs) (hk : k < base) : v.ownBlock = none ∨ v.ownBlock ≠ some k := by
  cases hv : v.ownBlock with
  | none => exact .inl rfl
  | some g =>
    refine .inr (fun e => ?_)
    have h1 := (h.lt g hv).1
    injection e with e
    omega
theorem below_grown {B : Nat} {w w1 w2 : World} {row : Option Nat} (h : Below B w w1) (hg : w1.grownBy w2 row) (hr : ∀ k, row = some k → B ≤ k) (hB : B ≤ w.heap.size) : Below B w w2 :=
  ((Fr.ofBelow h).grown hg (fun k hk => by omega) (fun k hk hlt => by have := hr k hk; omega)).below
set_option maxHeartbeats 1000000 in
theorem climb_c (l : List XAccount) (A : Option Addr) (c : Nat) (code : Int) (w : World) (hl : ListC AccountC 4 w (· < w.heap.size) [.slice A l.length c] l) (hc : intBd code) (hn : l.length ≤ 1000) :
    Calls Try.prog 199 #[.slice A l.length c, .int .i64 code] w (fun e w' => ∃ v, e = .returned v ∧ w'.ownsRow w.heap.size 3 1 v (upP l (l.length + 1) [] code).1.length (iv (upP l (l.length + 1) [] code).1) ∧ Below w.heap.size w w') := by
  have hmm := @run_makeMap Try.prog
  obtain ⟨i0, hi0, hz0, hz1, hz2⟩ := info_parts info_int
  obtain ⟨R, hR⟩ : ∃ R, upP l (l.length + 1) [] code = R := ⟨_, rfl⟩
  rw [hR]
  have HR := Lib.hid hR
  clear hR
  obtain ⟨n, hnl⟩ : ∃ n, l.length = n := ⟨_, rfl⟩
  rw [hnl] at hn
  have HL := Lib.hid hl
  have HN := Lib.hid hnl
  have HC := Lib.hid hc
  rw [hnl]
  clear hl hnl hc
  go_enter Try.func199, Try.ntmps199
  go_wp2_with fail
  go_step3
  go_wp2_with fail
  go_step3
  have hs0 := SetK.made Try.prog 3 4 iKey w
  have HB := below1 w (.map #[] 0)
  have HS : w.heap.size < (w.alloc (.map #[] 0)).heap.size := by simp
  generalize hW : w.alloc (Obj.map #[] 0) = W at *
  clear hW
  go_wp2_with fail
  go_loopw [5, 1] (fun o i wr => ∃ (acc : List Int) (c' : Int) (f : Nat), wr.ownsRow W.heap.size 3 1 o acc.length (iv acc) ∧ i = .int .i64 c' ∧ intBd c' ∧ SetI wr w.heap.size acc.length (fun x => acc.contains x) ∧ Below w.heap.size w wr ∧ W.heap.size ≤ wr.heap.size ∧ known l acc ∧ acc.length + f = l.length + 1 ∧ upP l f acc c' = R) (fun o _ _ => n + 1 - lenOf o)
  case atStart => exact ⟨[], code, l.length + 1, World.ownsRow_nil _ _ _ _, rfl, HC.out, hs0.eqv (fun _ => rfl), HB, Nat.le_refl _, known_nil l, by simp, HR.out⟩
  case round =>
    obtain ⟨acc, c', f, hown, rfl, hc', hset, hb, hsz, hk, hf, hup⟩ := hrel
    have hal := known_le hk
    obtain ⟨f, rfl⟩ : ∃ g, f = g + 1 := ⟨f - 1, by omega⟩
    have HK := Lib.hid hk
    have HF := Lib.hid hf
    have HUP := Lib.hid hup
    have HC' := Lib.hid hc'
    have HO := Lib.hid hown
    have HAL := Lib.hid (show acc.length ≤ 1000 by have := HN.out; omega)
    have HLW := Lib.hid (chart_keep HL.out hb)
    clear hk hf hup hal
    obtain ⟨hc1, hc2⟩ := hc'
    go_wp2_with fail
    have hcall := find_c l A c c' wr HLW.out HC'.out (by rw [HN.out]; exact hn)
    rw [HN.out] at hcall
    refine hcall.mono ?_
    clear hcall
    rintro e w2 ⟨rfl, hb2⟩
    have hbw2 := hb.trans (hb2.mono hb.size)
    cases ha : findA l c' with
    | none =>
      have e0 : findV l c' = .tuple #[.agg (accL {}).toArray, .bool false] := findV_none ha
      rw [e0]
      clear e0
      have HA := Lib.hid ha
      clear ha
      go_wp2_with fail
      try rw [Exit.noGoto_ret]
      go_ret
      have e1 : R = (acc, c') := by rw [← HUP.out, upP_none HA.out]
      rw [e1]
      exact ⟨_, rfl, own_base ((own_below HO.out hb2).alloc _) (Nat.le_of_lt HS), hbw2.alloc hbw2.size _⟩
    | some a =>
      have e0 : findV l c' = .tuple #[.agg (accL a).toArray, .bool true] := findV_some ha
      rw [e0]
      clear e0
      have HA := Lib.hid ha
      have hab := HL.out.accB a (findA_mem ha).1
      have hset2 := hset.below hb2
      clear ha
      obtain ⟨c1, c2, c3, c4⟩ := a
      have hab4 := Lib.hid hab.2.2.2
      clear hab
      obtain ⟨F, hF⟩ : ∃ F : Int → Bool, (fun x => acc.contains x) = F := ⟨_, rfl⟩
      rw [hF] at hset2
      have HF2 := Lib.hid hF
      clear hF
      go_upto_region 4 with fail
      have H7 := heap_alloc_new w2 (.cells #[.int .i64 c1, .int .i64 c2, .int .i64 c3, .int .i64 c4] 152)
      have HB7 := below1 w2 (.cells #[.int .i64 c1, .int .i64 c2, .int .i64 c3, .int .i64 c4] 152)
      generalize hW7 : w2.alloc (Obj.cells #[.int .i64 c1, .int .i64 c2, .int .i64 c3, .int .i64 c4] 152) = W7 at *
      clear hW7
      have hset7 := hset2.below HB7
      have hb7 := hbw2.trans (HB7.mono hbw2.size)
      cases hcont : F c' with
      | true =>
        go_wp2_with (at_lookup; refine wpList_look_set rfl _ _ 211 rfl 3 4 int_keyed3 imap_uty bool_uty (bool_zero _) w.heap.size acc.length F rfl hset7 _ c' rfl (iKey_of HC'.out) ?_)
        try rw [Exit.noGoto_ret]
        go_ret
        have e1 : R = (acc, c') := by rw [← HUP.out, upP_seen HA.out ((congrFun HF2.out c').trans hcont)]
        rw [e1]
        exact ⟨_, rfl, own_base (own_below (own_below HO.out hb2) HB7) (Nat.le_of_lt HS), hb7⟩
      | false =>
        have hown7 := own_below (own_below HO.out hb2) HB7
        have G7 := Lib.hid H7
        have hs2 := hb2.size
        have hs7 := HB7.size
        clear H7
        go_wp2_with (first | (at_lookup; refine wpList_look_set rfl _ _ 211 rfl 3 4 int_keyed3 imap_uty bool_uty (bool_zero _) w.heap.size acc.length F rfl hset7 _ c' rfl (iKey_of HC'.out) ?_) | (at_mapUpdate; refine wpList_store_set rfl _ _ _ 211 rfl 3 4 int_keyed3 imap_uty bool_uty w.heap.size acc.length F rfl hset7 (by have := HAL.out; simp only [maxLen]; omega) iKey_inj iKey_lit _ c' rfl true rfl (iKey_of HC'.out) ?_; intro w8 hset8 hg8; replace hset8 := Lib.hid hset8; have hown8 := Lib.hid (hown7.kept hg8 ((own_ne hown7 HS))); have hsz8 := hg8.size) | (at_builtin; go_loud (refine wpList_append_own _ rfl (.tmp 25) (.tmp 27) _ rfl W.heap.size 3 i0 _ 1 8 Try.underlying169 hi0 hz0 hz1 hz2 rfl (by have := HAL.out; omega) _ acc.length (iv acc) rfl (hown8.out.alloc _) ⟨w8.heap.size, 0, none⟩ 1 1 [.int .i64 c'] rfl rfl (cell_one_new _ _ _) (by simp [Value.oneCell']) (by have := HAL.out; simp only [maxLen]; omega) (by have := HAL.out; omega) (by have := HAL.out; simp; omega) ?_); intro v9 w9 hown9 hg9 _; have d3 := blk_cell (keep3 ((hg8.block _ (by have := blk_lt G7.out; omega) (fun e => by injection e with e; omega)).trans G7.out) hg9 (fun e => by have := (HO.out.lt _ e.symm).2; omega)) 3))
        go_roundw
        case rel =>
          refine ⟨acc ++ [c'], c4, f, ?_, rfl, hab4.out, ?_, ?_, ?_, known_snoc HK.out ((congrFun HF2.out c').trans hcont) HA.out, ?_, ?_⟩
          · have e1 : iv (acc ++ [c']) = iv acc ++ [.int .i64 c'] := by simp [iv]
            rw [e1, List.length_append]
            exact hown9
          · rw [List.length_append]
            refine ((hset8.out.kept (World.grownBy_alloc _ _ none) (by simp)).kept hg9 (fun e => by have := (HO.out.lt _ e.symm).1; omega)).eqv (fun d => ?_)
            rw [← HF2.out]
            by_cases hd : d = c'
            · subst hd; simp
            · simp [hd]
          · exact below_grown ((below_grown hb7 hg8 (fun k hk => by injection hk with hk; omega) (Nat.le_refl _)).alloc (by omega) _) hg9 (fun k hk => by have := (HO.out.lt _ hk).1; omega) (Nat.le_refl _)
          · have := hg9.size
            simp at this
            omega
          · have := HF.out; simp only [List.length_append, List.length_cons, List.length_nil]; omega
          · rw [← HUP.out]
            exact (upP_on HA.out ((congrFun HF2.out c').trans hcont)).symm
        case measure =>
          rw [own_len hown9, own_len HO.out]
          have := HAL.out
          have := HF.out
          have := HN.out
          omega
end Go.Proofs.Ytebdajkknkapcaa
/- Charts: proper, in the program. Written by gen_b12.py. -/
namespace Go.Proofs.Ytebdajkknkapcaa
open Go Go.RowKit
set_option linter.unusedVariables false
set_option linter.unusedSimpArgs false
set_option maxRecDepth 4000
attribute [local go_sem ↓] Go.wp_at_zero Go.wp_at_succ
section
variable {l : List XAccount} {g : Bool} {a : XAccount}
theorem fieldB_f (h : ¬ (1 ≤ a.code ∧ a.code ≤ 99999 ∧ 1 ≤ a.kind ∧ a.kind ≤ 5)) : fieldB g a = false := by unfold fieldB; rw [decide_eq_false h]; rfl
theorem fieldB_t (h : ¬ (1 ≤ a.basis ∧ a.basis ≤ 3)) : fieldB true a = false := by unfold fieldB; rw [if_pos rfl, decide_eq_false h, Bool.and_false]
theorem fieldB_e (h : ¬ a.basis = 0) : fieldB false a = false := by
  unfold fieldB
  rw [if_neg (by decide), show (a.basis == 0) = false from by simpa using h, Bool.and_false]
theorem fieldB_T (h : 1 ≤ a.code ∧ a.code ≤ 99999 ∧ 1 ≤ a.kind ∧ a.kind ≤ 5) (h2 : 1 ≤ a.basis ∧ a.basis ≤ 3) : fieldB true a = true := by unfold fieldB; rw [decide_eq_true h, if_pos rfl, decide_eq_true h2]; rfl
theorem fieldB_E (h : 1 ≤ a.code ∧ a.code ≤ 99999 ∧ 1 ≤ a.kind ∧ a.kind ≤ 5) (h2 : a.basis = 0) : fieldB false a = true := by
  unfold fieldB
  rw [decide_eq_true h, if_neg (by decide), h2]; rfl
theorem properP_f (h : fieldB g a = false) : properP l g a = false := by unfold properP; rw [h]; rfl
theorem properP_0 (h : fieldB g a = true) (h0 : a.parent = 0) : properP l g a = true := by unfold properP; rw [h, h0]; rfl
theorem properP_p (h0 : ¬ a.parent = 0) (hp : parB l a = false) : properP l g a = false := by
  unfold properP
  rw [hp, show (a.parent == 0) = false from by simpa using h0]; simp
theorem properP_up (h : fieldB g a = true) (h0 : ¬ a.parent = 0) (hp : parB l a = true) : properP l g a = ((upP l (l.length + 1) [] a.code).2 == 0) := by
  unfold properP
  rw [h, hp, show (a.parent == 0) = false from by simpa using h0]; simp
theorem parB_none (h : findA l a.parent = none) : parB l a = false := by unfold parB; rw [h]
theorem parB_some {p : XAccount} (h : findA l a.parent = some p) : parB l a = (!(p.code == a.code) && p.kind == a.kind) := by unfold parB; rw [h]
end
/-- The way up from an account of the list: it is not empty; the last code on it is of an account that leads to where the way stops. -/
theorem upP_top {l : List XAccount} {c : Int} (h : (findA l c).isSome = true) : ∃ (j : Nat) (x : Int) (top : XAccount), (upP l (l.length + 1) [] c).1.length = j + 1 ∧ (upP l (l.length + 1) [] c).1[j]? = some x ∧ findA l x = some top ∧ top.parent = (upP l (l.length + 1) [] c).2 := by
  have hlast := upP_last (l := l) (l.length + 1) [] c (fun x hx => by cases hx)
  obtain ⟨a0, ha0⟩ := Option.isSome_iff_exists.1 h
  have hlen : 1 ≤ (upP l (l.length + 1) [] c).1.length := by
    unfold upP
    rw [ha0]
    have := upP_pos (l := l) l.length ([] ++ [c]) a0.parent
    simpa using this
  generalize upP l (l.length + 1) [] c = P at *
  obtain ⟨p, e⟩ := P
  simp only at *
  obtain ⟨j, hj⟩ : ∃ j, p.length = j + 1 := ⟨p.length - 1, by omega⟩
  obtain ⟨x, hx⟩ : ∃ x, p[j]? = some x := ⟨p[j], List.getElem?_eq_getElem (by omega)⟩
  have hl : p.getLast? = some x := by rw [List.getLast?_eq_getElem?, hj]; exact hx
  obtain ⟨top, h1, h2⟩ := hlast x hl
  exact ⟨j, x, top, hj, hx, h1, h2⟩
theorem upP_small {l : List XAccount} : ∀ (f : Nat) (acc : List Int) (c : Int), known l acc → acc.length + f = l.length + 1 → (upP l f acc c).1.length ≤ l.length ∧ (∀ x ∈ (upP l f acc c).1, (findA l x).isSome = true)
  | 0, acc, c, hk, hf => by have := known_le hk; omega
  | f + 1, acc, c, hk, hf => by
    unfold upP
    cases ha : findA l c with
    | none => exact ⟨known_le hk, hk.2⟩
    | some a =>
      simp only
      by_cases hc : acc.contains c = true
      · rw [if_pos hc]; exact ⟨known_le hk, hk.2⟩
      · rw [if_neg hc]
        have hc' : acc.contains c = false := by simpa using hc
        exact upP_small f (acc ++ [c]) a.parent (known_snoc hk hc' ha) (by simp only [List.length_append, List.length_cons, List.length_nil]; omega)
theorem iv_get {l : List Int} {j : Nat} {x : Int} (h : l[j]? = some x) : (iv l)[j]? = some (.int .i64 x) := by unfold iv; rw [List.getElem?_map, h]; rfl
end Go.Proofs.Ytebdajkknkapcaa
/- Charts: proper, in the program. Written by gen_b12 (second text).py. -/
namespace Go.Proofs.Ytebdajkknkapcaa
open Go Go.RowKit
set_option linter.unusedVariables false
set_option linter.unusedSimpArgs false
set_option maxRecDepth 4000
attribute [local go_sem ↓] Go.wp_at_zero Go.wp_at_succ
set_option maxHeartbeats 2000000 in
theorem proper_c (l : List XAccount) (A : Option Addr) (c : Nat) (a : XAccount) (g : Bool) (w : World) (hl : ListC AccountC 4 w (· < w.heap.size) [.slice A l.length c] l) (hab : accB a) (hn : l.length ≤ 1000) (hin : (findA l a.code).isSome = true) : Calls Try.prog 189 #[.slice A l.length c, .agg (accL a).toArray, .bool g] w (Quiet w (.bool (properP l g a))) := by
  obtain ⟨r, hr⟩ : ∃ r, properP l g a = r := ⟨_, rfl⟩
  rw [hr]
  have HR := Lib.hid hr
  clear hr
  obtain ⟨n, hnl⟩ : ∃ n, l.length = n := ⟨_, rfl⟩
  rw [hnl] at hn
  have HL := Lib.hid hl
  have HN := Lib.hid hnl
  rw [hnl]
  clear hl hnl
  obtain ⟨c1, c2, c3, c4⟩ := a
  simp only [accB] at hab
  obtain ⟨q1, q2, q3, q4⟩ := hab
  have Q4 := Lib.hid q4
  have Q1 := Lib.hid q1
  obtain ⟨q11, q12⟩ := q1
  obtain ⟨q21, q22⟩ := q2
  obtain ⟨q31, q32⟩ := q3
  obtain ⟨q41, q42⟩ := q4
  go_enter Try.func189, Try.ntmps189
  go_upto_region 1 with fail
  have H0 := heap_alloc_new w (.cells #[.int .i64 c1, .int .i64 c2, .int .i64 c3, .int .i64 c4] 152)
  have HB := below1 w (.cells #[.int .i64 c1, .int .i64 c2, .int .i64 c3, .int .i64 c4] 152)
  have HS : w.heap.size < (w.alloc (.cells #[.int .i64 c1, .int .i64 c2, .int .i64 c3, .int .i64 c4] 152)).heap.size := blk_lt H0
  generalize hW : w.alloc (Obj.cells #[.int .i64 c1, .int .i64 c2, .int .i64 c3, .int .i64 c4] 152) = W at *
  have d0 := blk_cell H0 0
  have d1 := blk_cell H0 1
  have d2 := blk_cell H0 2
  have d3 := blk_cell H0 3
  have HH0 := Lib.hid H0
  clear hW H0
  by_cases k0 : c1 < 1
  case pos =>
    have hf := Lib.hid (show r = false by rw [← HR.out]; exact properP_f (fieldB_f (fun h => by have h1 := h.1; simp only at h1; omega)))
    go_wp2_with fail
    go_ret
    exact ⟨by rw [hf.out]; first | done | rfl, HB⟩
  case neg =>
  by_cases k1 : 99999 < c1
  case pos =>
    have hf := Lib.hid (show r = false by rw [← HR.out]; exact properP_f (fieldB_f (fun h => by have h1 := h.2.1; simp only at h1; omega)))
    go_wp2_with fail
    go_ret
    exact ⟨by rw [hf.out]; first | done | rfl, HB⟩
  case neg =>
  by_cases k2 : c2 < 1
  case pos =>
    have hf := Lib.hid (show r = false by rw [← HR.out]; exact properP_f (fieldB_f (fun h => by have h1 := h.2.2.1; simp only at h1; omega)))
    go_wp2_with fail
    go_ret
    exact ⟨by rw [hf.out]; first | done | rfl, HB⟩
  case neg =>
  by_cases k3 : 5 < c2
  case pos =>
    have hf := Lib.hid (show r = false by rw [← HR.out]; exact properP_f (fieldB_f (fun h => by have h1 := h.2.2.2; simp only at h1; omega)))
    go_wp2_with fail
    go_ret
    exact ⟨by rw [hf.out]; first | done | rfl, HB⟩
  case neg =>
  have HF := Lib.hid (show 1 ≤ c1 ∧ c1 ≤ 99999 ∧ 1 ≤ c2 ∧ c2 ≤ 5 by omega)
  cases g with
  | true =>
    by_cases k4 : c3 < 1
    case pos =>
      have hf := Lib.hid (show r = false by rw [← HR.out]; exact properP_f (fieldB_t (fun h => by have h1 := h.1; simp only at h1; omega)))
      go_wp2_with fail
      go_ret
      exact ⟨by rw [hf.out]; first | done | rfl, HB⟩
    case neg =>
    by_cases k5 : 3 < c3
    case pos =>
      have hf := Lib.hid (show r = false by rw [← HR.out]; exact properP_f (fieldB_t (fun h => by have h1 := h.2; simp only at h1; omega)))
      go_wp2_with fail
      go_ret
      exact ⟨by rw [hf.out]; first | done | rfl, HB⟩
    case neg =>
    have HFB := Lib.hid (fieldB_T (a := ⟨c1, c2, c3, c4⟩) HF.out (show 1 ≤ c3 ∧ c3 ≤ 3 by omega))
    by_cases k7 : c4 = 0
    case pos =>
      have hf := Lib.hid (show r = true by rw [← HR.out]; exact properP_0 HFB.out k7)
      go_wp2_with fail
      go_ret
      exact ⟨by rw [hf.out]; first | done | rfl, HB⟩
    case neg =>
    have K7 := Lib.hid k7
    go_wp2_with fail
    have hcall := find_c l A c c4 W (chart_keep HL.out HB) Q4.out (by rw [HN.out]; exact hn)
    rw [HN.out] at hcall
    refine hcall.mono ?_
    clear hcall
    rintro e w2 ⟨rfl, hb2⟩
    have hbb := HB.trans (hb2.mono HB.size)
    have G0 := (hb2.block _ HS).trans HH0.out
    have GG := Lib.hid G0
    clear G0
    cases ha : findA l c4 with
    | none =>
      have e0 : findV l c4 = .tuple #[.agg (accL {}).toArray, .bool false] := findV_none ha
      rw [e0]
      have hf2 := Lib.hid (show r = false by rw [← HR.out]; exact properP_p k7 (parB_none ha))
      clear e0 ha
      go_wp2_with fail
      go_ret
      exact ⟨by rw [hf2.out]; first | done | rfl, hbb.alloc hbb.size _⟩
    | some p =>
      have e0 : findV l c4 = .tuple #[.agg (accL p).toArray, .bool true] := findV_some ha
      rw [e0]
      have hpb := HL.out.accB p (findA_mem ha).1
      have hf2 := Lib.hid (show parB l ⟨c1, c2, c3, c4⟩ = (!(p.code == c1) && p.kind == c2) from parB_some (a := ⟨c1, c2, c3, c4⟩) ha)
      clear e0 ha
      obtain ⟨p1, p2, p3, p4⟩ := p
      have G0 := alloc_keep GG.out (Obj.cells #[.int .i64 p1, .int .i64 p2, .int .i64 p3, .int .i64 p4] 152)
      go_upto_region 8 with fail
      have H7 := heap_alloc_new w2 (.cells #[.int .i64 p1, .int .i64 p2, .int .i64 p3, .int .i64 p4] 152)
      have HB7 := hbb.alloc hbb.size (.cells #[.int .i64 p1, .int .i64 p2, .int .i64 p3, .int .i64 p4] 152)
      generalize hW7 : w2.alloc (Obj.cells #[.int .i64 p1, .int .i64 p2, .int .i64 p3, .int .i64 p4] 152) = W7 at *
      have f0 := blk_cell H7 0
      have f1 := blk_cell H7 1
      have g0 := blk_cell G0 0
      have g1 := blk_cell G0 1
      clear hW7 H7 G0
      by_cases hp : p1 = c1
      case pos =>
        have hf3 := Lib.hid (show r = false by rw [← HR.out]; exact properP_p K7.out (by rw [hf2.out, hp]; simp))
        go_wp2_with fail
        go_ret
        exact ⟨by rw [hf3.out]; first | done | rfl, HB7⟩
      case neg =>
      have hp' : (p1 == c1) = false := by simpa using hp
      by_cases hq : p2 = c2
      case neg =>
        have hq' : (p2 != c2) = true := by simpa using hq
        have hf3 := Lib.hid (show r = false by rw [← HR.out]; exact properP_p K7.out (by rw [hf2.out]; simp [hq]))
        go_wp2_with fail
        go_ret
        exact ⟨by rw [hf3.out]; first | done | rfl, HB7⟩
      case pos =>
      have hq' : (p2 != c2) = false := by simpa using hq
      have hf3 := Lib.hid (show r = ((upP l (l.length + 1) [] c1).2 == 0) by rw [← HR.out]; exact properP_up HFB.out K7.out (by rw [hf2.out, hq]; simp [hp]))
      go_wp2_with fail
      have hcall := climb_c l A c c1 W7 (chart_keep HL.out HB7) Q1.out (by rw [HN.out]; exact hn)
      rw [HN.out] at hcall
      refine hcall.mono ?_
      clear hcall
      rintro e w8 ⟨v, rfl, hown, hb8⟩
      have HB8 := HB7.trans (hb8.mono HB7.size)
      obtain ⟨j, x, top, hj, hx, ht, htp⟩ := upP_top (l := l) (c := c1) (by simpa using hin)
      have hsm := upP_small (l := l) (l.length + 1) [] c1 (known_nil l) (by simp)
      rw [HN.out] at hj hx htp hsm
      rw [hj] at hown hsm
      have hjn : j + 1 ≤ 1000 := by have := hsm.1; omega
      obtain ⟨g8, cap, rfl, hcap1, hcap2⟩ := hown.form (by omega)
      have hcell := hown.cells (g := g8) rfl j _ (iv_get hx)
      rw [Addr.add_lit, Nat.zero_add] at hcell
      have hxb : intBd x := by
        obtain ⟨m, hm⟩ := findA_mem ht
        rw [← hm]; exact (HL.out.accB _ m).1
      have HJ := Lib.hid hj
      have HOW := Lib.hid hown
      have HT := Lib.hid ht
      have htb := HL.out.accB top (findA_mem ht).1
      clear hj hown hx ht hsm
      obtain ⟨t1, t2, t3, t4⟩ := top
      simp only at htp
      have HTP := Lib.hid htp
      clear htp htb
      have hf4 := Lib.hid (show r = (t4 == 0) by rw [hf3.out, HN.out, ← HTP.out])
      go_wp2_with fail
      have hcall := find_c l A c x w8 (chart_keep HL.out HB8) hxb (by rw [HN.out]; exact hn)
      rw [HN.out] at hcall
      refine hcall.mono ?_
      clear hcall
      rintro e w9 ⟨rfl, hb9⟩
      have HB9 := HB8.trans (hb9.mono HB8.size)
      have e0 : findV l x = .tuple #[.agg (accL ⟨t1, t2, t3, t4⟩).toArray, .bool true] := findV_some HT.out
      rw [e0]
      clear e0
      by_cases ht4 : t4 = 0
      case pos =>
        have hf5 := Lib.hid (show r = true by rw [hf4.out, ht4]; rfl)
        go_wp2_with fail
        go_ret
        exact ⟨by rw [hf5.out]; first | done | rfl, HB9.alloc HB9.size _⟩
      case neg =>
        have ht4' : (t4 == 0) = false := by simpa using ht4
        have hf5 := Lib.hid (show r = false by rw [hf4.out, ht4'])
        go_wp2_with fail
        go_ret
        exact ⟨by rw [hf5.out]; first | done | rfl, HB9.alloc HB9.size _⟩
  | false =>
    by_cases k4 : ¬ c3 = 0
    case pos =>
      have k5 : (c3 == 0) = false := by simpa using k4
      have hf := Lib.hid (show r = false by rw [← HR.out]; exact properP_f (fieldB_e k4))
      go_wp2_with fail
      go_ret
      exact ⟨by rw [hf.out]; first | done | rfl, HB⟩
    case neg =>
    have k5 : c3 = 0 := by omega
    have HFB := Lib.hid (fieldB_E (a := ⟨c1, c2, c3, c4⟩) HF.out k5)
    by_cases k7 : c4 = 0
    case pos =>
      have hf := Lib.hid (show r = true by rw [← HR.out]; exact properP_0 HFB.out k7)
      go_wp2_with fail
      go_ret
      exact ⟨by rw [hf.out]; first | done | rfl, HB⟩
    case neg =>
    have K7 := Lib.hid k7
    go_wp2_with fail
    have hcall := find_c l A c c4 W (chart_keep HL.out HB) Q4.out (by rw [HN.out]; exact hn)
    rw [HN.out] at hcall
    refine hcall.mono ?_
    clear hcall
    rintro e w2 ⟨rfl, hb2⟩
    have hbb := HB.trans (hb2.mono HB.size)
    have G0 := (hb2.block _ HS).trans HH0.out
    have GG := Lib.hid G0
    clear G0
    cases ha : findA l c4 with
    | none =>
      have e0 : findV l c4 = .tuple #[.agg (accL {}).toArray, .bool false] := findV_none ha
      rw [e0]
      have hf2 := Lib.hid (show r = false by rw [← HR.out]; exact properP_p k7 (parB_none ha))
      clear e0 ha
      go_wp2_with fail
      go_ret
      exact ⟨by rw [hf2.out]; first | done | rfl, hbb.alloc hbb.size _⟩
    | some p =>
      have e0 : findV l c4 = .tuple #[.agg (accL p).toArray, .bool true] := findV_some ha
      rw [e0]
      have hpb := HL.out.accB p (findA_mem ha).1
      have hf2 := Lib.hid (show parB l ⟨c1, c2, c3, c4⟩ = (!(p.code == c1) && p.kind == c2) from parB_some (a := ⟨c1, c2, c3, c4⟩) ha)
      clear e0 ha
      obtain ⟨p1, p2, p3, p4⟩ := p
      have G0 := alloc_keep GG.out (Obj.cells #[.int .i64 p1, .int .i64 p2, .int .i64 p3, .int .i64 p4] 152)
      go_upto_region 8 with fail
      have H7 := heap_alloc_new w2 (.cells #[.int .i64 p1, .int .i64 p2, .int .i64 p3, .int .i64 p4] 152)
      have HB7 := hbb.alloc hbb.size (.cells #[.int .i64 p1, .int .i64 p2, .int .i64 p3, .int .i64 p4] 152)
      generalize hW7 : w2.alloc (Obj.cells #[.int .i64 p1, .int .i64 p2, .int .i64 p3, .int .i64 p4] 152) = W7 at *
      have f0 := blk_cell H7 0
      have f1 := blk_cell H7 1
      have g0 := blk_cell G0 0
      have g1 := blk_cell G0 1
      clear hW7 H7 G0
      by_cases hp : p1 = c1
      case pos =>
        have hf3 := Lib.hid (show r = false by rw [← HR.out]; exact properP_p K7.out (by rw [hf2.out, hp]; simp))
        go_wp2_with fail
        go_ret
        exact ⟨by rw [hf3.out]; first | done | rfl, HB7⟩
      case neg =>
      have hp' : (p1 == c1) = false := by simpa using hp
      by_cases hq : p2 = c2
      case neg =>
        have hq' : (p2 != c2) = true := by simpa using hq
        have hf3 := Lib.hid (show r = false by rw [← HR.out]; exact properP_p K7.out (by rw [hf2.out]; simp [hq]))
        go_wp2_with fail
        go_ret
        exact ⟨by rw [hf3.out]; first | done | rfl, HB7⟩
      case pos =>
      have hq' : (p2 != c2) = false := by simpa using hq
      have hf3 := Lib.hid (show r = ((upP l (l.length + 1) [] c1).2 == 0) by rw [← HR.out]; exact properP_up HFB.out K7.out (by rw [hf2.out, hq]; simp [hp]))
      go_wp2_with fail
      have hcall := climb_c l A c c1 W7 (chart_keep HL.out HB7) Q1.out (by rw [HN.out]; exact hn)
      rw [HN.out] at hcall
      refine hcall.mono ?_
      clear hcall
      rintro e w8 ⟨v, rfl, hown, hb8⟩
      have HB8 := HB7.trans (hb8.mono HB7.size)
      obtain ⟨j, x, top, hj, hx, ht, htp⟩ := upP_top (l := l) (c := c1) (by simpa using hin)
      have hsm := upP_small (l := l) (l.length + 1) [] c1 (known_nil l) (by simp)
      rw [HN.out] at hj hx htp hsm
      rw [hj] at hown hsm
      have hjn : j + 1 ≤ 1000 := by have := hsm.1; omega
      obtain ⟨g8, cap, rfl, hcap1, hcap2⟩ := hown.form (by omega)
      have hcell := hown.cells (g := g8) rfl j _ (iv_get hx)
      rw [Addr.add_lit, Nat.zero_add] at hcell
      have hxb : intBd x := by
        obtain ⟨m, hm⟩ := findA_mem ht
        rw [← hm]; exact (HL.out.accB _ m).1
      have HJ := Lib.hid hj
      have HOW := Lib.hid hown
      have HT := Lib.hid ht
      have htb := HL.out.accB top (findA_mem ht).1
      clear hj hown hx ht hsm
      obtain ⟨t1, t2, t3, t4⟩ := top
      simp only at htp
      have HTP := Lib.hid htp
      clear htp htb
      have hf4 := Lib.hid (show r = (t4 == 0) by rw [hf3.out, HN.out, ← HTP.out])
      go_wp2_with fail
      have hcall := find_c l A c x w8 (chart_keep HL.out HB8) hxb (by rw [HN.out]; exact hn)
      rw [HN.out] at hcall
      refine hcall.mono ?_
      clear hcall
      rintro e w9 ⟨rfl, hb9⟩
      have HB9 := HB8.trans (hb9.mono HB8.size)
      have e0 : findV l x = .tuple #[.agg (accL ⟨t1, t2, t3, t4⟩).toArray, .bool true] := findV_some HT.out
      rw [e0]
      clear e0
      by_cases ht4 : t4 = 0
      case pos =>
        have hf5 := Lib.hid (show r = true by rw [hf4.out, ht4]; rfl)
        go_wp2_with fail
        go_ret
        exact ⟨by rw [hf5.out]; first | done | rfl, HB9.alloc HB9.size _⟩
      case neg =>
        have ht4' : (t4 == 0) = false := by simpa using ht4
        have hf5 := Lib.hid (show r = false by rw [hf4.out, ht4'])
        go_wp2_with fail
        go_ret
        exact ⟨by rw [hf5.out]; first | done | rfl, HB9.alloc HB9.size _⟩

end Go.Proofs.Ytebdajkknkapcaa
