/- Charts: Find, in the program and in the reference. Written by gen_b8.py. -/
import Derived.Test.YtnigokmjehemaaaProg
import Derived.Test.YtnigokmjehemaaaB7Sets
namespace Go.Proofs.Ytnigokmjehemaaa
open Go Go.RowKit
set_option linter.unusedVariables false
set_option linter.unusedSimpArgs false
set_option maxRecDepth 4000
attribute [local go_sem ↓] Go.wp_at_zero Go.wp_at_succ
theorem info_acc : (Try.prog.info? 157).map (·.size) = some 4 := by kernel_rfl
abbrev accL (a : XAccount) : List Value := [.int .i64 a.code, .int .i64 a.kind, .int .i64 a.basis, .int .i64 a.parent]
def accB (a : XAccount) : Prop := intBd a.code ∧ intBd a.kind ∧ intBd a.basis ∧ intBd a.parent
theorem AccountC.lit {w : World} {Q : Nat → Prop} {cs : List Value} {x : XAccount} (h : AccountC w Q cs x) : cs = accL x ∧ accB x := by
  obtain ⟨c0, c1, c2, c3, rfl, ⟨rfl, h0⟩, ⟨rfl, h1⟩, ⟨rfl, h2⟩, ⟨rfl, h3⟩⟩ := h
  exact ⟨rfl, h0, h1, h2, h3⟩
theorem At.range {w : World} {Q : Nat → Prop} {b o : Nat} {vs : List Value} (h : At w Q ⟨b, o, none⟩ vs) : w.rangeAt b o vs := fun j v hj => h.c hj
theorem info_accL (a : XAccount) : (Try.prog.info? 157).map (·.size) = some (accL a).length := info_acc
theorem info_accS (a : XAccount) : (Try.prog.info? 157).map (·.size) = some (accL a).toArray.size := info_acc
theorem accL_one (a : XAccount) : (accL a).toArray.all (·.oneCell') = true := by simp only [accL, List.all_toArray, List.all_cons, List.all_nil, Value.oneCell', Bool.and_true]
/-- A new variable is set whole (the world of the goal is a letter: to be tried at any operation). -/
theorem wpList_store_fresh3 {P : Program} {ops : Array Oper} {rest : List Oper} {o : Oper} {a : Act} {Q : Exit → Act → World → Prop} {w0 : World} (hgd : o.guard = none) (ty : TypeId) (x y : Operand) (ho : o.op = .store ty x y) (hd : o.dst = none)
    (w1 : World) (old : Array Value) (t : TypeId) (cells : Array Value) (hw : w0 = w1.alloc (.cells old t)) (hx : a.eval x = .pointer (some ⟨w1.heap.size, 0, none⟩)) (hy : a.eval y = .agg cells)
    (hi : (P.info? ty).map (·.size) = some cells.size) (hold : old.size = cells.size) (h1 : cells.all (·.oneCell') = true)
    (h : ∀ w2 : World, w2.heap[w1.heap.size]? = some (.cells cells t (0, 0)) → Below w1.heap.size w1 w2 → w1.heap.size < w2.heap.size → wpList P ops Q rest a w2) :
    wpList P ops Q (o :: rest) a w0 := by
  subst hw
  exact wpList_store_fresh2 hgd ty x y ho hd w1 old t cells hx hy hi hold h1 h
theorem alloc_keep {w : World} {g : Nat} {x : Obj} (h : w.heap[g]? = some x) (o : Obj) : (w.alloc o).heap[g]? = some x := by
  rw [Below.heap_alloc _ _ _ (blk_lt h)]; exact h
theorem below_setRow {B : Nat} {w w' : World} (h : Below B w w') {g : Nat} (hg : B ≤ g) (cs : Array Value) : Below B w (w'.setRow g cs) :=
  ((Fr.ofBelow h).trans ((fr_setRow w' g cs).mono (fun k (hk : k < B) => by omega))).below
theorem accZ (a : XAccount) : (accL {}).toArray.size = (accL a).toArray.size := rfl
/-- The first account with a code. -/
def findA (l : List XAccount) (c : Int) : Option XAccount := l.find? (fun a => a.code == c)
def accO (o : Option XAccount) : XAccount := o.getD {}
def findV (l : List XAccount) (c : Int) : Value := .tuple #[.agg (accL (accO (findA l c))).toArray, .bool (findA l c).isSome]
theorem findA_none {l : List XAccount} {c : Int} (h : ∀ j (hj : j < l.length), l[j].code ≠ c) : findA l c = none := by
  unfold findA
  rw [List.find?_eq_none]
  intro x hx
  obtain ⟨j, hj, rfl⟩ := List.getElem_of_mem hx
  simpa using h j hj
theorem findA_some {l : List XAccount} {c : Int} {k : Nat} (hk : k < l.length) (he : l[k].code = c) (h : ∀ j (hj : j < k), (l[j]'(by omega)).code ≠ c) : findA l c = some l[k] := by
  unfold findA
  rw [List.find?_eq_some_iff_getElem]
  exact ⟨by simpa using he, k, hk, rfl, fun j hj => by simpa using h j hj⟩
set_option maxHeartbeats 1000000 in
theorem find_c (l : List XAccount) (A : Option Addr) (c : Nat) (code : Int) (w : World) (hl : ListC AccountC 4 w (· < w.heap.size) [.slice A l.length c] l) (hc : intBd code) (hn : l.length ≤ 1000) : Calls Try.prog 141 #[.slice A l.length c, .int .i64 code] w (Quiet w (findV l code)) := by
  obtain ⟨r, hr⟩ : ∃ r, findV l code = r := ⟨_, rfl⟩
  rw [hr]
  have HR := Lib.hid hr
  clear hr
  obtain ⟨n, hnl⟩ : ∃ n, l.length = n := ⟨_, rfl⟩
  rw [hnl] at hn
  have HL := Lib.hid hl
  have HN := Lib.hid hnl
  rw [hnl]
  clear hl hnl
  obtain ⟨hc1, hc2⟩ := hc
  go_enter Try.func141, Try.ntmps141
  go_upto_region 1 with fail
  have H0 := heap_alloc_new w (.cells #[.int .i64 0, .int .i64 0, .int .i64 0, .int .i64 0] 157)
  have HB := below1 w (.cells #[.int .i64 0, .int .i64 0, .int .i64 0, .int .i64 0] 157)
  have HS : w.heap.size < (w.alloc (.cells #[.int .i64 0, .int .i64 0, .int .i64 0, .int .i64 0] 157)).heap.size := blk_lt H0
  generalize hW : w.alloc (Obj.cells #[.int .i64 0, .int .i64 0, .int .i64 0, .int .i64 0] 157) = W at *
  have HH0 := Lib.hid H0
  clear hW H0
  go_wp2_with fail
  go_loopw [10] (fun i wr => ∃ k : Nat, k ≤ n ∧ i = .int .i64 (k : Int) ∧ Below W.heap.size W wr ∧ ∀ j (hj : j < l.length), j < k → l[j].code ≠ code) (fun i _ => n - (intOf i).toNat)
  case atStart => exact ⟨0, by omega, rfl, Below.refl _ _, fun j hj h => by omega⟩
  case round =>
    obtain ⟨k, hk, rfl, hb, hall⟩ := hrel
    have HA := Lib.hid hall
    have G0 := (hb.block _ HS).trans HH0.out
    have HG0 := Lib.hid G0
    clear hall G0
    have hsz := hb.size
    by_cases hlt : k < n
    case pos =>
      have hltI : (k : Int) < (n : Int) := by omega
      have hkl : k < l.length := by rw [HN.out]; exact hlt
      obtain ⟨b, o, es, hAe, hbw, hes, hat⟩ := ListC.get HL.out k hkl
      subst hAe
      obtain ⟨hes1, hb1, hb2, hb3, hb4⟩ := AccountC.lit hes
      rw [hes1] at hat
      obtain ⟨ac, hac⟩ : ∃ ac, l[k] = ac := ⟨_, rfl⟩
      rw [hac] at hat hb1 hb2 hb3 hb4
      have HAC := Lib.hid hac
      have HAR := Lib.hid ((hat.fr (Fr.ofBelow (HB.trans (hb.mono HB.size)))).range)
      clear hes hes1 hat hac
      obtain ⟨c1, c2, c3, c4⟩ := ac
      simp only at hb1 hb2 hb3 hb4

      have hwr := HB.trans (hb.mono HB.size)
      by_cases he : c1 = code
      case pos =>
        subst he
        have hr2 := Lib.hid (show r = .tuple #[.agg (accL ⟨c1, c2, c3, c4⟩).toArray, .bool true] by
          rw [← HR.out]; unfold findV
          rw [findA_some hkl (by rw [HAC.out]) (fun j hj => HA.out j (by omega) hj), HAC.out]; rfl)
        go_wp2_with (first | (show wpList _ _ _ (Oper.mk (some 13) _ _ _ _ _ :: _) _ _; refine wpList_load_mid rfl 157 (.tmp 12) rfl b (o + k * 4) rfl (accL ⟨c1, c2, c3, c4⟩) _ HAR.out Try.underlying157 rfl (info_accL _) ?_) | (show wpList _ _ _ (Oper.mk none (Op.store _ (Operand.tmp 4) _) _ _ _ _ :: _) _ _; refine wpList_store_row rfl 157 (.tmp 4) (.tmp 18) rfl w.heap.size (accL ⟨c1, c2, c3, c4⟩).toArray rfl rfl 157 (accL {}).toArray (alloc_keep HG0.out _) (info_accS _) (accZ _) (accL_one _) ?_))
        refine bodyPost_ret (v := .tuple #[.agg (accL ⟨c1, c2, c3, c4⟩).toArray, .bool true]) (results_cell_tmp rfl _ _ w.heap.size 157 _ (0, 0) _ rfl (heap_setRow (alloc_keep HG0.out _) _) Try.underlying157 rfl (info_accS _) _ rfl) rfl ⟨by rw [hr2.out]; first | done | rfl, below_setRow (hwr.alloc hwr.size _) (Nat.le_refl _) _⟩

      case neg =>
        go_wp2_with (show wpList _ _ _ (Oper.mk (some 13) _ _ _ _ _ :: _) _ _; refine wpList_load_mid rfl 157 (.tmp 12) rfl b (o + k * 4) rfl (accL ⟨c1, c2, c3, c4⟩) _ HAR.out Try.underlying157 rfl (info_accL _) ?_)
        go_roundw
        case rel => exact ⟨k + 1, by omega, by go_num, hb.alloc hb.size _, fun j hj hjk => by
          rcases Nat.lt_or_ge j k with h | h
          · exact HA.out j hj h
          · have : j = k := by omega
            subst this
            rw [HAC.out]
            exact he⟩
        case measure =>
          have e : wrap64 ((k : Int) + 1) = ((k + 1 : Nat) : Int) := by unfold wrap64; omega
          simp only [intOf, e]
          omega
    case neg =>
      have hltI : ¬ (k : Int) < (n : Int) := by omega
      have hwr := HB.trans (hb.mono HB.size)
      have hr2 := Lib.hid (show r = .tuple #[.agg (accL {}).toArray, .bool false] by
        rw [← HR.out]; unfold findV
        rw [findA_none (fun j hj => HA.out j hj (by have := HN.out; omega))]; rfl)
      go_wp2_with (show wpList _ _ _ (Oper.mk none (Op.store _ (Operand.tmp 4) _) _ _ _ _ :: _) _ _; refine wpList_store_row rfl 157 (.tmp 4) (.tmp 20) rfl w.heap.size (accL {}).toArray rfl rfl 157 (accL {}).toArray HG0.out (info_accS _) (accZ _) (accL_one _) ?_)
      refine bodyPost_ret (v := .tuple #[.agg (accL {}).toArray, .bool false]) (results_cell_tmp rfl _ _ w.heap.size 157 _ (0, 0) _ rfl (heap_setRow HG0.out _) Try.underlying157 rfl (info_accS _) _ rfl) rfl ⟨by rw [hr2.out]; first | done | rfl, below_setRow hwr (Nat.le_refl _) _⟩
set_option maxHeartbeats 1000000 in
theorem rfind_c (l : List XAccount) (A : Option Addr) (c : Nat) (code : Int) (w : World) (hl : ListC AccountC 4 w (· < w.heap.size) [.slice A l.length c] l) (hc : intBd code) (hn : l.length ≤ 1000) : Calls Try.prog 108 #[.slice A l.length c, .int .i64 code] w (Quiet w (findV l code)) := by
  obtain ⟨r, hr⟩ : ∃ r, findV l code = r := ⟨_, rfl⟩
  rw [hr]
  have HR := Lib.hid hr
  clear hr
  obtain ⟨n, hnl⟩ : ∃ n, l.length = n := ⟨_, rfl⟩
  rw [hnl] at hn
  have HL := Lib.hid hl
  have HN := Lib.hid hnl
  rw [hnl]
  clear hl hnl
  obtain ⟨hc1, hc2⟩ := hc
  go_enter Try.func108, Try.ntmps108
  go_upto_region 1 with fail
  have H0 := heap_alloc_new w (.cells #[.int .i64 0, .int .i64 0, .int .i64 0, .int .i64 0] 157)
  have HB := below1 w (.cells #[.int .i64 0, .int .i64 0, .int .i64 0, .int .i64 0] 157)
  have HS : w.heap.size < (w.alloc (.cells #[.int .i64 0, .int .i64 0, .int .i64 0, .int .i64 0] 157)).heap.size := blk_lt H0
  generalize hW : w.alloc (Obj.cells #[.int .i64 0, .int .i64 0, .int .i64 0, .int .i64 0] 157) = W at *
  have HH0 := Lib.hid H0
  clear hW H0
  go_wp2_with fail
  go_loopw [6] (fun i wr => ∃ k : Nat, k ≤ n ∧ i = .int .i64 (k : Int) ∧ Below W.heap.size W wr ∧ ∀ j (hj : j < l.length), j < k → l[j].code ≠ code) (fun i _ => n - (intOf i).toNat)
  case atStart => exact ⟨0, by omega, rfl, Below.refl _ _, fun j hj h => by omega⟩
  case round =>
    obtain ⟨k, hk, rfl, hb, hall⟩ := hrel
    have HA := Lib.hid hall
    have G0 := (hb.block _ HS).trans HH0.out
    have HG0 := Lib.hid G0
    clear hall G0
    have hsz := hb.size
    by_cases hlt : k < n
    case pos =>
      have hltI : (k : Int) < (n : Int) := by omega
      have hkl : k < l.length := by rw [HN.out]; exact hlt
      obtain ⟨b, o, es, hAe, hbw, hes, hat⟩ := ListC.get HL.out k hkl
      subst hAe
      obtain ⟨hes1, hb1, hb2, hb3, hb4⟩ := AccountC.lit hes
      rw [hes1] at hat
      obtain ⟨ac, hac⟩ : ∃ ac, l[k] = ac := ⟨_, rfl⟩
      rw [hac] at hat hb1 hb2 hb3 hb4
      have HAC := Lib.hid hac
      have HAR := Lib.hid ((hat.fr (Fr.ofBelow (HB.trans (hb.mono HB.size)))).range)
      clear hes hes1 hat hac
      obtain ⟨c1, c2, c3, c4⟩ := ac
      simp only at hb1 hb2 hb3 hb4

      have hwr := HB.trans (hb.mono HB.size)
      have k0 : wr.cell? ⟨b, o + k * 4, none⟩ = some (.int .i64 c1) := HAR.out 0 _ rfl
      by_cases he : c1 = code
      case pos =>
        subst he
        have hr2 := Lib.hid (show r = .tuple #[.agg (accL ⟨c1, c2, c3, c4⟩).toArray, .bool true] by
          rw [← HR.out]; unfold findV
          rw [findA_some hkl (by rw [HAC.out]) (fun j hj => HA.out j (by omega) hj), HAC.out]; rfl)
        go_wp2_with (first | (show wpList _ _ _ (Oper.mk (some 23) _ _ _ _ _ :: _) _ _; refine wpList_load_mid rfl 157 (.tmp 22) rfl b (o + k * 4) rfl (accL ⟨c1, c2, c3, c4⟩) _ HAR.out Try.underlying157 rfl (info_accL _) ?_) | (show wpList _ _ _ (Oper.mk none (Op.store _ (Operand.tmp 4) _) _ _ _ _ :: _) _ _; refine wpList_store_row rfl 157 (.tmp 4) (.tmp 23) rfl w.heap.size (accL ⟨c1, c2, c3, c4⟩).toArray rfl rfl 157 (accL {}).toArray HG0.out (info_accS _) (accZ _) (accL_one _) ?_))
        refine bodyPost_ret (v := .tuple #[.agg (accL ⟨c1, c2, c3, c4⟩).toArray, .bool true]) (results_cell_tmp rfl _ _ w.heap.size 157 _ (0, 0) _ rfl (heap_setRow HG0.out _) Try.underlying157 rfl (info_accS _) _ rfl) rfl ⟨by rw [hr2.out]; first | done | rfl, below_setRow hwr (Nat.le_refl _) _⟩

      case neg =>
        go_wp2_with fail
        go_roundw
        case rel => exact ⟨k + 1, by omega, by go_num, hb, fun j hj hjk => by
          rcases Nat.lt_or_ge j k with h | h
          · exact HA.out j hj h
          · have : j = k := by omega
            subst this
            rw [HAC.out]
            exact he⟩
        case measure =>
          have e : wrap64 ((k : Int) + 1) = ((k + 1 : Nat) : Int) := by unfold wrap64; omega
          simp only [intOf, e]
          omega
    case neg =>
      have hltI : ¬ (k : Int) < (n : Int) := by omega
      have hwr := HB.trans (hb.mono HB.size)
      have hr2 := Lib.hid (show r = .tuple #[.agg (accL {}).toArray, .bool false] by
        rw [← HR.out]; unfold findV
        rw [findA_none (fun j hj => HA.out j hj (by have := HN.out; omega))]; rfl)
      go_wp2_with (show wpList _ _ _ (Oper.mk none (Op.store _ (Operand.tmp 4) _) _ _ _ _ :: _) _ _; refine wpList_store_row rfl 157 (.tmp 4) (.tmp 24) rfl w.heap.size (accL {}).toArray rfl rfl 157 (accL {}).toArray HG0.out (info_accS _) (accZ _) (accL_one _) ?_)
      refine bodyPost_ret (v := .tuple #[.agg (accL {}).toArray, .bool false]) (results_cell_tmp rfl _ _ w.heap.size 157 _ (0, 0) _ rfl (heap_setRow HG0.out _) Try.underlying157 rfl (info_accS _) _ rfl) rfl ⟨by rw [hr2.out]; first | done | rfl, below_setRow hwr (Nat.le_refl _) _⟩

end Go.Proofs.Ytnigokmjehemaaa
