/- ledger.Trial. Written by gen_a15.py. -/
import Derived.Test.YtekelchdbkjjjaaG18xB0B3
import Derived.Test.YtekelchdbkjjjaaG18xB4B12
import Derived.Test.YtekelchdbkjjjaaG18xB13B14
import Derived.Test.YtekelchdbkjjjaaG18xB15S0
import Derived.Test.YtekelchdbkjjjaaG18xB21B27
import Derived.Test.YtekelchdbkjjjaaG18xB28S2
import Derived.Test.YtekelchdbkjjjaaG18xS3C3
import Derived.Test.YtekelchdbkjjjaaG18xC4E3
import Derived.Test.YtekelchdbkjjjaaG18xE5F9
import Derived.Test.YtekelchdbkjjjaaG18xH2I7
import Derived.Test.YtekelchdbkjjjaaG18xI8I14
import Derived.Test.YtekelchdbkjjjaaG18xI15
import Derived.Test.YtekelchdbkjjjaaG18xI16
import Derived.Test.YtekelchdbkjjjaaG18xI19Q2
import Derived.Test.YtekelchdbkjjjaaG18xK1A7
import Derived.Test.YtekelchdbkjjjaaG18xA8A16
import Derived.Test.YtekelchdbkjjjaaProg
import Derived.Great.BuildSlice
import Derived.Sort.CutIn
import Derived.Shelf.SlMaps.Clone
set_option linter.unusedVariables false
set_option linter.unusedSimpArgs false
set_option maxRecDepth 4000
attribute [local go_sem ↓] Go.wp_at_zero Go.wp_at_succ
namespace Go.Proofs.Ytekelchdbkjjjaa
open Go Go.RowKit Go.Shelf
attribute [local go_sem] Oper.semAt_some
theorem MapO.look1 {w : World} {b n : Nat} {f : Int → Option Int} (h : MapO w b n f) {c : Int} (hc : intBd c) : (Instr.lookup 55 (.map (some b)) (.int .i64 c) false).run Try.prog w = .ok (.int .i64 ((f c).getD 0)) w := by
 obtain ⟨D, h1, h2⟩ := h
 obtain ⟨a, hrun, hat, _⟩ := h1.lookup_int int_keyed3 iimap_uty int_uty (int_zero w) (iKey_of hc)
 have h3 := (h2 c).2
 rw [hat] at h3
 simp only [DataW.lit.injEq, Lit.int.injEq, true_and] at h3
 rw [hrun, h3]
section
variable {F : Fence} {n : Nat} {ops : Array Oper} {rest : List Oper} {o : Oper} {a : Act} {Q : Exit → Act → World → Prop} {w : World}
theorem wpListIn_look1 (hgd : o.guard = none) (m x : Operand) (ho : o.op = Op.lookup 55 m x false) (b k : Nat) (f : Int → Option Int) (hm : a.eval m = .map (some b)) (h : MapO w b k f) (c : Int) (hx : a.eval x = .int .i64 c) (hc : intBd c)
 (hK : wpListIn F n Try.prog ops Q rest (a.put o.dst (.int .i64 ((f c).getD 0))) w) : wpListIn F n Try.prog ops Q (o :: rest) a w := by
 refine wpListIn_plain hgd fun K hK' => ?_
 unfold Oper.wpIn
 refine ⟨by simp [Oper.about, ho], ?_⟩
 rw [Oper.semAt_plain F _ _ (by rw [ho]; intro c hc'; cases hc')]
 have hrun := h.look1 hc
 simp [execOp, ho, hm, hx, hrun, Result.andThen]
 exact hK' _ _ hK
theorem wpListIn_upd (hgd : o.guard = none) (m x v : Operand) (ho : o.op = Op.mapUpdate 55 m x v) (b k : Nat) (f : Int → Option Int) (hm : a.eval m = .map (some b)) (h : MapO w b k f) (hn : k < maxLen) (c : Int) (hx : a.eval x = .int .i64 c) (hc : intBd c) (xv : Int) (hv : a.eval v = .int .i64 xv) (hxv : intBd xv)
 (hK : ∀ w', MapO w' b (k + 1) (fun d => if d = c then some xv else f d) → Fr (fun q => q ≠ b) w w' → wpListIn F n Try.prog ops Q rest (a.put o.dst undef) w') : wpListIn F n Try.prog ops Q (o :: rest) a w := by
 obtain ⟨w', hrun, r1, r2⟩ := h.store hn hc hxv
 refine wpListIn_plain hgd fun K hK' => ?_
 unfold Oper.wpIn
 refine ⟨by simp [Oper.about, ho], ?_⟩
 rw [Oper.semAt_plain F _ _ (by rw [ho]; intro c hc'; cases hc')]
 simp [execOp, ho, hm, hx, hv, hrun, Result.andThen]
 exact hK' _ _ (hK w' r1 r2)
end
theorem wpList_look1 {ops : Array Oper} {rest : List Oper} {o : Oper} {a : Act} {w : World} {Q : Exit → Act → World → Prop} (hg : o.guard = none) (m x : Operand) (hop : o.op = Op.lookup 55 m x false)
 (b n : Nat) (f : Int → Option Int) (hm : a.eval m = .map (some b)) (h : MapO w b n f) (c : Int) (hx : a.eval x = .int .i64 c) (hc : intBd c)
 (hK : wpList Try.prog ops Q rest (a.put o.dst (.int .i64 ((f c).getD 0))) w) : wpList Try.prog ops Q (o :: rest) a w := by
 refine wpList_plain hg fun K' hK' => ?_
 have hrun := h.look1 hc
 unfold Oper.wp
 simp [execOp, hop, hm, hx, hrun, Result.andThen]
 exact hK' _ _ hK
def TriPost (g : XGroup) (l : List XEntry) (ent d : Int) (w : World) (e : Ending) (w' : World) : Prop := ∃ (r : Int) (A' : Option Addr) (c' : Nat) (ts : List XBalance), e = .returned (.tuple #[.slice A' ts.length c', .int .i64 r]) ∧ BChk g l ent (-4611686018427387904) 0 false r ∧ (r = 0 → IsTri (fun c => sumE (qB d) l ent c) ts) ∧ (r ≠ 0 → ts = []) ∧ ts.length ≤ 100000 ∧ ListC BalanceC 2 w' (· < w'.heap.size) [.slice A' ts.length c'] ts ∧ Below w.heap.size w w'
def Span (pre : List (DL lineOk)) (lo hi : Int) : Prop := (pre = [] ∧ lo = 0 ∧ hi = -1) ∨ (1 ≤ lo ∧ lo ≤ hi ∧ hi ≤ 99999 ∧ ∀ z ∈ pre, lo ≤ z.1.2.account ∧ z.1.2.account ≤ hi)
theorem Span.next {pre : List (DL lineOk)} {lo hi : Int} (h : 1 ≤ lo ∧ lo ≤ hi ∧ hi ≤ 99999 ∧ ∀ z ∈ pre, lo ≤ z.1.2.account ∧ z.1.2.account ≤ hi) (z : DL lineOk) : Span (pre ++ [z]) (min lo z.1.2.account) (max hi z.1.2.account) := by
 have h1 := z.2.2
 obtain ⟨a, b, c, e⟩ := h
 refine .inr ⟨by omega, by omega, by omega, fun y hy => ?_⟩
 rcases List.mem_append.1 hy with hy | hy
 · have := e y hy; omega
 · simp at hy; subst hy; omega
theorem Span.first (z : DL lineOk) : Span ([] ++ [z]) (min z.1.2.account z.1.2.account) (max z.1.2.account z.1.2.account) := by
 have h1 := z.2.2
 refine .inr ⟨by omega, by omega, by omega, fun y hy => ?_⟩
 simp at hy; subst hy; omega
def TriI (n₀ bm : Nat) (w0 : World) (pre : List (DL lineOk)) (W : World) : Prop := KeepN n₀ (fun q => q = bm + 2 ∨ q = bm + 3) w0 W ∧ (∃ f, MapO W bm pre.length f ∧ ∀ c, (f c).getD 0 = sumPd (fun _ _ => true) c (pre.map (·.1))) ∧ ∃ lo hi : Int, W.heap[bm + 2]? = some (.cells #[.int .i64 lo] 3 (0, 0)) ∧ W.heap[bm + 3]? = some (.cells #[.int .i64 hi] 3 (0, 0)) ∧ Span pre lo hi
theorem triI_own {n₀ bm B : Nat} {w0 : World} (hn : n₀ ≤ w0.heap.size) (hB : n₀ ≤ B) (hbm : bm < B) : OwnFrom B (TriI n₀ bm w0) := fun pre W W' row hs hg hr => by
 obtain ⟨h1, ⟨f, h2, h3⟩, lo, hi, h4, h5, h6⟩ := hs
 refine ⟨keepN_own hn hB pre W W' row h1 hg hr, ⟨f, h2.same (hg.block bm h2.lt (fun e => by have := (hr bm e.symm).1; omega)), h3⟩, lo, hi, ?_, ?_, h6⟩
 · exact cells_own (β := List (DL lineOk)) (f := fun _ => #[.int .i64 lo]) pre W W' row h4 hg hr
 · exact cells_own (β := List (DL lineOk)) (f := fun _ => #[.int .i64 hi]) pre W W' row h5 hg hr
theorem two_sets {w : World} {b : Nat} {x y : Int} (h1 : w.heap[b + 2]? = some (.cells #[.int .i64 x] 3 (0, 0))) (h2 : w.heap[b + 3]? = some (.cells #[.int .i64 y] 3 (0, 0))) (u v : Int) :
 ((w.setCell ⟨b + 1 + 1, 0, none⟩ (.int .i64 u)).setCell ⟨b + 1 + 1 + 1, 0, none⟩ (.int .i64 v)).heap[b + 2]? = some (.cells #[.int .i64 u] 3 (0, 0)) ∧ ((w.setCell ⟨b + 1 + 1, 0, none⟩ (.int .i64 u)).setCell ⟨b + 1 + 1 + 1, 0, none⟩ (.int .i64 v)).heap[b + 3]? = some (.cells #[.int .i64 v] 3 (0, 0)) ∧ Fr (fun q => q ≠ b + 2 ∧ q ≠ b + 3) w ((w.setCell ⟨b + 1 + 1, 0, none⟩ (.int .i64 u)).setCell ⟨b + 1 + 1 + 1, 0, none⟩ (.int .i64 v)) := by
 have e1 := heap_setCell_same h1 0 (.int .i64 u)
 have e2 : (w.setCell ⟨b + 2, 0, none⟩ (.int .i64 u)).heap[b + 3]? = some (.cells #[.int .i64 y] 3 (0, 0)) := (Below.heap_setCell w ⟨b + 2, 0, none⟩ _ (b + 3) (by show b + 3 ≠ b + 2; omega)).trans h2
 refine ⟨(Below.heap_setCell _ ⟨b + 3, 0, none⟩ _ (b + 2) (by show b + 2 ≠ b + 3; omega)).trans e1, heap_setCell_same e2 0 (.int .i64 v), ((Fr.refl _ w).setCell (p := ⟨b + 2, 0, none⟩) (fun h => h.1 rfl) _).setCell (p := ⟨b + 3, 0, none⟩) (fun h => h.2 rfl) _⟩
theorem span_out {pre : List (DL lineOk)} {lo hi c : Int} (h : Span pre lo hi) (hc : ¬ (lo ≤ c ∧ c ≤ hi)) : sumPd (fun _ _ => true) c (pre.map (·.1)) = 0 := by
 have h2 : ∀ z ∈ pre, z.1.2.account ≠ c := fun z hz e => by
  rcases h with ⟨h, _⟩ | ⟨_, _, _, h⟩
  · rw [h] at hz; cases hz
  · have := h z hz; omega
 clear h
 induction pre with
 | nil => rfl
 | cons z pre ih =>
  have h3 : sumPd (fun _ _ => true) c ((z :: pre).map (·.1)) = (if z.1.2.account = c ∧ true = true then z.1.2.amount else 0) + sumPd (fun _ _ => true) c (pre.map (·.1)) := by simp [sumPd]
  rw [h3, if_neg (fun e => h2 z (List.mem_cons_self ..) e.1), ih (fun y hy => h2 y (List.mem_cons_of_mem _ hy))]
  rfl
theorem info_balA : (Try.prog.info? 60).map (fun i => (i.zero, i.size, i.bytes)) = some (some (.agg #[.int .i64 0, .int .i64 0]), 2, 16) := by kernel_rfl
theorem bals_uty : Try.prog.underlying 37 = some (.slice 60) := by kernel_rfl
def balL (y : XBalance) : List Value := [.int .i64 y.account, .int .i64 y.amount]
def SpanS (bm : Nat) (lo hi la : Int) (w0 : World) (listed : Array Bool) (w : World) : Prop := Fr (fun q => q ≠ bm + 2 ∧ q ≠ bm + 3) w0 w ∧ w.heap[bm + 2]? = some (.cells #[.int .i64 (if listed.getD 8 false = true then min lo la else lo)] 3 (0, 0)) ∧ w.heap[bm + 3]? = some (.cells #[.int .i64 (if listed.getD 9 false = true then max hi la else hi)] 3 (0, 0))
section
variable {bm : Nat} {lo hi la : Int} {w0 w : World} {listed : Array Bool}
theorem getD_other {i j : Nat} (h : i ≠ j) : (listed.setIfInBounds i true).getD j false = listed.getD j false := by simp [Array.getD_eq_getD_getElem?, Array.getElem?_setIfInBounds, h]
theorem getD_same {i : Nat} (h : i < listed.size) : (listed.setIfInBounds i true).getD i false = true := by simp [Array.getD_eq_getD_getElem?, h]
theorem SpanS.other (h : SpanS bm lo hi la w0 listed w) (i : Nat) (h8 : i ≠ 8) (h9 : i ≠ 9) : SpanS bm lo hi la w0 (listed.setIfInBounds i true) w := by
 unfold SpanS
 rw [getD_other h8, getD_other h9]
 exact h
theorem SpanS.load13 (h : SpanS bm lo hi la w0 listed w) (hn : listed.getD 8 false = false) : w.cell? ⟨bm + 1 + 1, 0, none⟩ = some (.int .i64 lo) := by
 have := blk_cell h.2.1 0
 rw [hn] at this
 exact this
theorem SpanS.load14 (h : SpanS bm lo hi la w0 listed w) (hn : listed.getD 9 false = false) : w.cell? ⟨bm + 1 + 1 + 1, 0, none⟩ = some (.int .i64 hi) := by
 have := blk_cell h.2.2 0
 rw [hn] at this
 exact this
theorem SpanS.c13 (h : SpanS bm lo hi la w0 listed w) : w.cell? ⟨bm + 1 + 1, 0, none⟩ = some (.int .i64 (if listed.getD 8 false = true then min lo la else lo)) := blk_cell h.2.1 0
theorem SpanS.c14 (h : SpanS bm lo hi la w0 listed w) : w.cell? ⟨bm + 1 + 1 + 1, 0, none⟩ = some (.int .i64 (if listed.getD 9 false = true then max hi la else hi)) := blk_cell h.2.2 0
theorem SpanS.f13 (h : SpanS bm lo hi la w0 listed w) : w.frozen? ⟨bm + 1 + 1, 0, none⟩ = false := blk_frozen h.2.1 0
theorem SpanS.f14 (h : SpanS bm lo hi la w0 listed w) : w.frozen? ⟨bm + 1 + 1 + 1, 0, none⟩ = false := blk_frozen h.2.2 0
theorem SpanS.set13 (h : SpanS bm lo hi la w0 listed w) (hs : 8 < listed.size) : SpanS bm lo hi la w0 (listed.setIfInBounds 8 true) (w.setCell ⟨bm + 1 + 1, 0, none⟩ (.int .i64 (min lo la))) := by
 unfold SpanS
 rw [getD_same hs, getD_other (by decide), if_pos rfl]
 exact ⟨h.1.setCell (p := ⟨bm + 2, 0, none⟩) (fun h => h.1 rfl) _, heap_setCell_same h.2.1 0 _, (Below.heap_setCell w ⟨bm + 2, 0, none⟩ _ (bm + 3) (by show bm + 3 ≠ bm + 2; omega)).trans h.2.2⟩
theorem SpanS.set14 (h : SpanS bm lo hi la w0 listed w) (hs : 9 < listed.size) : SpanS bm lo hi la w0 (listed.setIfInBounds 9 true) (w.setCell ⟨bm + 1 + 1 + 1, 0, none⟩ (.int .i64 (max hi la))) := by
 unfold SpanS
 rw [getD_same hs, getD_other (by decide), if_pos (c := (true = true)) rfl]
 exact ⟨h.1.setCell (p := ⟨bm + 3, 0, none⟩) (fun h => h.2 rfl) _, (Below.heap_setCell w ⟨bm + 3, 0, none⟩ _ (bm + 2) (by show bm + 2 ≠ bm + 3; omega)).trans h.2.1, heap_setCell_same h.2.2 0 _⟩
theorem SpanS.fin (h : SpanS bm lo hi la w0 listed w) (h8 : Done listed 8) (h9 : Done listed 9) : Fr (fun q => q ≠ bm + 2 ∧ q ≠ bm + 3) w0 w ∧ w.heap[bm + 2]? = some (.cells #[.int .i64 (min lo la)] 3 (0, 0)) ∧ w.heap[bm + 3]? = some (.cells #[.int .i64 (max hi la)] 3 (0, 0)) := by
 unfold SpanS at h
 rw [if_pos (show listed.getD 8 false = true from h8), if_pos (show listed.getD 9 false = true from h9)] at h
 exact h
end
theorem Ks.vals {W w w' : World} {ks : List Kind} {j : Nat} {u : Value} (hv : ∀ k ∈ ks, ∃ x, k = .val x) (h : Ks W ks j u w) : Ks W ks j u w' := fun k hk => by
 obtain ⟨x, rfl⟩ := hv k (List.mem_of_getElem? hk)
 exact h _ hk
set_option maxHeartbeats 4000000 in
theorem trial_c (g : XGroup) (l : List XEntry) (gl : List Value) (A : Option Addr) (c : Nat) (ent d : Int) (w : World) (hg : GroupC w (· < w.heap.size) gl g) (hl : ListC EntryC 7 w (· < w.heap.size) [.slice A l.length c] l) (hsm : smallG g) (hmo : modest l) (hle : l.length ≤ 100) :
 Calls Try.prog 7 #[.agg gl.toArray, .slice A l.length c, .int .i64 ent, .int .i64 d] w (TriPost g l ent d w) := by
 have hmm := @run_makeMap Try.prog
 have HCK := Lib.hid (fun (w2 : World) (hb : Below w.heap.size w w2) => bcheck_c g l gl A c ent (-4611686018427387904) 0 false w2 (hg.keep hb) (entries_keep hl hb) hsm hmo (by unfold intBd; omega))
 have HGS := Lib.hid (show gl.toArray.size = 21 by have := hg.len; simpa using this)
 have HBU := Lib.hid (hg.books A l.length c ent)
 have HON := Lib.hid (show (gl ++ ([.slice A l.length c, .int .i64 ent] : List Value)).toArray.all (·.oneCell') = true by
  have h1 := hg.ones
  rw [List.all_toArray, List.all_append, h1]
  rfl)
 have HSZ := Lib.hid (show (gl ++ ([.slice A l.length c, .int .i64 ent] : List Value)).toArray.size = 23 by have := hg.len; simp; omega)
 have HL := Lib.hid hl
 have HLE := Lib.hid hle
 obtain ⟨BL, hBL⟩ : ∃ BL, (gl ++ ([.slice A l.length c, .int .i64 ent] : List Value)).toArray = BL := ⟨_, rfl⟩
 rw [hBL] at HCK HBU HON HSZ
 obtain ⟨n, hn⟩ : ∃ n, l.length = n := ⟨_, rfl⟩
 have HN := Lib.hid hn
 rw [hn] at HBU ⊢
 have HIB := Lib.hid (show (Try.prog.info? 53).map (·.size) = some BL.size by rw [info_books, HSZ.out])
 clear hg hl hsm hmo hle hBL hn
 refine callsIn_wide.1 (callsIn_of_wp_marks (n := 6) Try.func7 rfl trivial (wpIn_wide.2 ?_) rfl)
 simp only [Try.ntmps7, List.size_toArray, List.length_cons, List.length_nil, Nat.reduceAdd, Nat.reduceSub, Array.replicate_succ, Array.replicate_zero, List.push_toArray, List.append_toArray, List.nil_append, List.cons_append]
 go_upto_region 1 with fail
 have H1 := heap_alloc_new w (.cells gl.toArray 29)
 have HB1 := below1 w (.cells gl.toArray 29)
 have HS1 := blk_lt H1
 generalize hW1 : w.alloc (Obj.cells gl.toArray 29) = W at *
 clear hW1
 have HK := Lib.hid H1
 have HB1h := Lib.hid HB1
 clear H1
 go_wp2_with (first | (show wpList _ _ _ (Oper.mk (some 20) _ _ _ _ _ :: _) _ _; refine wpList_load_row_g rfl 29 (.tmp 4) rfl (w.heap.size) rfl _ _ _ _ HK.out Try.underlying29 rfl (by rw [info_group]; exact congrArg some HGS.out.symm) ?_) | (show wpList _ _ _ (Oper.mk (some 23) _ _ _ _ _ :: _) _ _; go_loud (refine wpList_built rfl 53 _ rfl [(0, .agg gl.toArray), (1, .slice A n c), (2, .int .i64 ent)] (by simp [Act.eval]) BL HBU.out ?_)) | (show wpList _ _ _ (Oper.mk none (Op.store _ (Operand.tmp 10) _) _ _ _ _ :: _) _ _; refine wpList_store_fresh3 rfl 53 (.tmp 10) (.tmp 23) rfl rfl W #[.string ⟨#[]⟩, .int .i64 0, .int .i64 0, .int .i64 0, .slice none 0 0, .int .i64 0, .int .i64 0, .int .i64 0, .int .i64 0, .int .i64 0, .int .i64 0, .int .i64 0, .int .i64 0, .int .i64 0, .int .i64 0, .int .i64 0, .int .i64 0, .int .i64 0, .int .i64 0, .int .i64 0, .slice none 0 0, .slice none 0 0, .int .i64 0] 53 BL rfl rfl rfl HIB.out HSZ.out.symm HON.out ?_; intro w4 H4 HB4 HS4) | (show wpList _ _ _ (Oper.mk (some 24) _ _ _ _ _ :: _) _ _; refine wpList_load_row_g rfl 53 (.tmp 10) rfl W.heap.size rfl _ _ _ _ H4 Try.underlying53 rfl HIB.out ?_))
 have HB04 := Lib.hid (HB1h.out.trans (HB4.mono HB1h.out.size))
 clear HB4 H4
 refine (HCK.out w4 HB04.out).mono ?_
 rintro e w5 ⟨r, rfl, hr, hb5⟩
 have HR := Lib.hid hr
 have HB05 := Lib.hid (HB04.out.trans (hb5.mono HB04.out.size))
 clear hb5 hr
 by_cases hr0 : r = 0
 case neg =>
  have hrb : (r != 0) = true := by simpa using hr0
  have HP := Lib.hid hr0
  clear hr0
  go_wp2_with fail
  exact ⟨_, results_tmp2 rfl _ _ _, r, none, 0, [], rfl, HR.out, fun h => absurd h HP.out, fun _ => rfl, by decide, ⟨_, _, rfl, by decide, by decide, fun h => by cases h⟩, HB05.out⟩
 case pos =>
  subst hr0
  have HV := Lib.hid (bchk_valid HR.out)
  go_upto_region 7 with fail
  obtain ⟨W9, hW9⟩ : ∃ W9, (((w5.alloc (Obj.map #[] 0)).alloc (Obj.cells #[.map (some w5.heap.size)] 55)).alloc (Obj.cells #[.int .i64 0] 3)).alloc (Obj.cells #[.int .i64 (-1)] 3) = W9 := ⟨_, rfl⟩
  rw [hW9]
  have hM9 : MapO W9 w5.heap.size 0 (fun _ => none) := by
   rw [← hW9]
   exact ((MapO.made w5).below (((below1 _ _).trans ((below1 _ _).mono (by simp))).trans ((below1 _ _).mono (by simp))))
  have e1 : W9.heap[w5.heap.size + 1]? = some (.cells #[.map (some w5.heap.size)] 55 (0, 0)) := by
   rw [← hW9]
   refine alloc_keep (alloc_keep ?_ _) _
   have := heap_alloc_new (w5.alloc (Obj.map #[] 0)) (Obj.cells #[.map (some w5.heap.size)] 55)
   rwa [World.size_alloc] at this
  have e2 : W9.heap[w5.heap.size + 1 + 1]? = some (.cells #[.int .i64 0] 3 (0, 0)) := by
   rw [← hW9]
   refine alloc_keep ?_ _
   have := heap_alloc_new ((w5.alloc (Obj.map #[] 0)).alloc (Obj.cells #[.map (some w5.heap.size)] 55)) (Obj.cells #[.int .i64 0] 3)
   rwa [World.size_alloc, World.size_alloc] at this
  have e3 : W9.heap[w5.heap.size + 1 + 1 + 1]? = some (.cells #[.int .i64 (-1)] 3 (0, 0)) := by
   rw [← hW9]
   have := heap_alloc_new (((w5.alloc (Obj.map #[] 0)).alloc (Obj.cells #[.map (some w5.heap.size)] 55)).alloc (Obj.cells #[.int .i64 0] 3)) (Obj.cells #[.int .i64 (-1)] 3)
   rwa [World.size_alloc, World.size_alloc, World.size_alloc] at this
  have hs9 : W9.heap.size = w5.heap.size + 4 := by rw [← hW9]; simp
  have hb9 : Below w5.heap.size w5 W9 := by rw [← hW9]; exact ((((Below.refl _ w5).alloc (Nat.le_refl _) _).alloc (by simp) _).alloc (by simp; omega) _).alloc (by simp; omega) _
  have HB9 := Lib.hid (HB05.out.trans (hb9.mono HB05.out.size))
  have HS9 := Lib.hid hs9
  have HM9 := Lib.hid hM9
  have E1 := Lib.hid e1
  have E2 := Lib.hid e2
  have E3 := Lib.hid e3
  have HS5 := Lib.hid HB05.out.size
  clear hW9 e1 e2 e3 hs9 hb9 hM9
  go_wp2_with (go_at_call 16; refine (callsIn_wide.1 (lines_in Fence.wide 5 trivial rfl _ n c ent d W9)).mono ?_; rintro e w' ⟨rfl, rfl⟩)
  obtain ⟨W12, hW12⟩ : ∃ W, ((W9.alloc (.cells #[.slice A n c] 30)).alloc (.cells #[.int .i64 ent] 3)).alloc (.cells #[.int .i64 d] 3) = W := ⟨_, rfl⟩
  rw [hW12]
  have HL0 := Lib.hid (show ¬ (W9.heap.size = w5.heap.size + 2 ∨ W9.heap.size = w5.heap.size + 3) ∧ W12.heap[W9.heap.size]? = some (.cells #[.slice A l.length c] 30 (0, 0)) from ⟨by have := HS9.out; omega, by rw [← hW12, HN.out]; exact alloc_keep (alloc_keep (heap_alloc_new W9 _) _) _⟩)
  have HL1 := Lib.hid (show ¬ (W9.heap.size + 1 = w5.heap.size + 2 ∨ W9.heap.size + 1 = w5.heap.size + 3) ∧ W12.heap[W9.heap.size + 1]? = some (.cells #[.int .i64 ent] 3 (0, 0)) from ⟨by have := HS9.out; omega, by
   rw [← hW12]
   refine alloc_keep ?_ _
   have := heap_alloc_new (W9.alloc (.cells #[.slice A n c] 30)) (.cells #[.int .i64 ent] 3)
   rwa [World.size_alloc] at this⟩)
  have HL2 := Lib.hid (show ¬ (W9.heap.size + 1 + 1 = w5.heap.size + 2 ∨ W9.heap.size + 1 + 1 = w5.heap.size + 3) ∧ W12.heap[W9.heap.size + 1 + 1]? = some (.cells #[.int .i64 d] 3 (0, 0)) from ⟨by have := HS9.out; omega, by
   rw [← hW12]
   have := heap_alloc_new ((W9.alloc (.cells #[.slice A n c] 30)).alloc (.cells #[.int .i64 ent] 3)) (.cells #[.int .i64 d] 3)
   rwa [World.size_alloc, World.size_alloc] at this⟩)
  have HS12 := Lib.hid (show W12.heap.size = w5.heap.size + 7 by rw [← hW12]; have := HS9.out; simp; omega)
  have hb12 : Below W9.heap.size W9 W12 := by rw [← hW12]; exact (((Below.refl _ W9).alloc (Nat.le_refl _) _).alloc (by simp) _).alloc (by simp; omega) _
  have HB12 := Lib.hid (HB9.out.trans (hb12.mono HB9.out.size))
  have F1 := Lib.hid ((hb12.block _ (blk_lt E1.out)).trans E1.out)
  have F2 := Lib.hid ((hb12.block _ (blk_lt E2.out)).trans E2.out)
  have F3 := Lib.hid ((hb12.block _ (blk_lt E3.out)).trans E3.out)
  have FM := Lib.hid (HM9.out.below hb12)
  have HLE2 := Lib.hid (show ListC EntryC 7 W12 (· < w.heap.size) [.slice A l.length c] l from HL.out.fr (fun h => EntryC.fr h (Fr.ofBelow HB12.out)) (Fr.ofBelow HB12.out))
  clear hb12 hW12 E1 E2 E3
  have HSQ := Lib.hid (lines_gives Fence.wide 5 trivial rfl (by omega) W9.heap.size (W9.heap.size + 1) (W9.heap.size + 1 + 1) w.heap.size (fun q => q = w5.heap.size + 2 ∨ q = w5.heap.size + 3) l A c ent d lineOk 4000 W12 (by have := HS12.out; have := HS5.out; omega) (fun q hq => by have := HS12.out; omega) HL0.out HL1.out HL2.out HLE2.out (fun x hx => by have := valid_lines HV.out hx; omega) (by have := HLE.out; omega) (fun x hx _ _ y hy => (valid_line HV.out hx hy).1) (by have := linesD_len (l := l) ent d (fun x hx => valid_lines HV.out hx); have := HLE.out; omega))
  refine wpIn_wide.1 (wpIn_rangeBox (n := 6) rfl (by omega) (gf := 27) (lb := #[.pointer (some ⟨W9.heap.size, 0, none⟩), .pointer (some ⟨W9.heap.size + 1, 0, none⟩), .pointer (some ⟨W9.heap.size + 1 + 1, 0, none⟩)]) rfl trivial (enters_of Try.func27 (by kernel_rfl) rfl) HSQ.out (fun h k => h.trans k) (fun W l o o' hl ho hc hw => KeepN.putObj (w := W12) (by have := HS12.out; have := HS5.out; omega) W l o o' hl ho hc hw) (fun W W' hW hg => KeepN.grown hg (by have := HS12.out; have := HS5.out; omega)) (Below.refl _ _) (fun _ => rfl)
   (TriI w.heap.size w5.heap.size W12) (triI_own (by have := HS12.out; have := HS5.out; omega) (by have := HS12.out; have := HS5.out; omega) (by have := HS12.out; omega)) ⟨KeepN.refl _, ⟨_, FM.out, fun c => rfl⟩, 0, -1, F2.out, F3.out, .inl ⟨rfl, rfl, rfl⟩⟩ (fun x => (lineL x.1.2).toArray) 49 (fun x b => { tmps := #[.agg gl.toArray, .slice A n c, .int .i64 ent, .int .i64 d, .pointer (some ⟨w.heap.size, 0, none⟩), undef, undef, undef, .slice none 0 0, .int .i64 0, .pointer (some ⟨W.heap.size, 0, none⟩), .int .i64 0, .pointer (some ⟨w5.heap.size + 1, 0, none⟩), .pointer (some ⟨w5.heap.size + 1 + 1, 0, none⟩), .pointer (some ⟨w5.heap.size + 1 + 1 + 1, 0, none⟩), undef, .pointer (some ⟨b, 0, none⟩), undef, undef, undef, .agg gl.toArray, .slice A n c, .int .i64 ent, .agg BL, .agg BL, .int .i64 0, .int .i64 0, .bool false, undef, .map (some w5.heap.size), .slice A n c, .int .i64 ent, .int .i64 d, .func (.func 27) #[] #[.pointer (some ⟨W9.heap.size, 0, none⟩), .pointer (some ⟨W9.heap.size + 1, 0, none⟩), .pointer (some ⟨W9.heap.size + 1 + 1, 0, none⟩)], .int .i64 x.1.1, .agg (lineL x.1.2).toArray, undef, undef, undef, undef, undef, undef, undef, undef, undef, undef, undef, undef, undef, undef, undef, undef, undef, undef, undef, undef, undef, undef, undef, undef, undef, undef, undef, undef, undef, undef, undef, undef, undef, undef, undef, undef, undef, undef, undef, undef], defers := [] }) ?assign ?body ?done)
  case assign =>
   rintro l ⟨⟨t, la, lm, lp⟩, hx⟩ W K hK
   have HK := Lib.hid hK
   clear hK
   simp only [encDL, lineL]
   gi_wp2_with (show wpListIn _ _ _ _ _ (Oper.mk none (Op.store _ (Operand.tmp 16) _) _ _ _ _ :: _) _ _; refine wpListIn_store_fresh rfl 49 (.tmp 16) (.tmp 35) rfl rfl W #[.int .i64 0, .int .i64 0, .int .i64 0] 49 #[.int .i64 la, .int .i64 lm, .int .i64 lp] rfl rfl rfl info_line rfl (by simp [Value.oneCell']) ?_; intro w4 H4 HG4 HS4)
   exact HK.out w4 HG4 H4
  case body =>
   rintro l pre ⟨⟨t, la, lm, lp⟩, hx⟩ b W ⟨hK, ⟨f, hM, hf⟩, lo, hi, h13, h14, hsp⟩ hlen hbW hbx
   have HNX := Lib.hid (fun c => sumPd_next (fun _ _ => true) c pre ⟨(t, ⟨la, lm, lp⟩), hx⟩)
   have hsb := sumPd_abs (fun _ _ => true) la pre
   rw [← hf la] at hsb
   obtain ⟨s, hs⟩ : ∃ s, (f la).getD 0 = s := ⟨_, rfl⟩
   have HSV := Lib.hid hs
   rw [hs] at hsb
   have hxb : lm.natAbs ≤ 1125899906842624 := hx.1
   have hsb2 : s.natAbs ≤ 4000 * 1125899906842624 := Nat.le_trans hsb (Nat.mul_le_mul_right _ (by omega))
   have HBD := Lib.hid (show intBd la ∧ intBd (s + lm) from by have := hx.2; unfold intBd; simp only at this; omega)
   have hr1 : -9223372036854775808 ≤ s + lm := by omega
   have hr2 : s + lm ≤ 9223372036854775807 := by omega
   have x0 := blk_cell hbx 0
   have x1 := blk_cell hbx 1
   have m0 := blk_cell (hK.cells (by omega) F1.out) 0
   have HKW := Lib.hid hK
   have HM := Lib.hid hM
   have HF := Lib.hid hf
   have H13 := Lib.hid h13
   have H14 := Lib.hid h14
   have HSP := Lib.hid hsp
   have HBX := Lib.hid hbx
   have HLEN := Lib.hid (show pre.length < maxLen by unfold maxLen; omega)
   clear hsb hsb2 hxb hs hK hM hf h13 h14 hsp hbx
   simp only [lineL]
   gi_upto_region 10 with (first | (show wpListIn _ _ _ _ _ (Oper.mk (some 39) _ _ _ _ _ :: _) _ _; refine wpListIn_look1 rfl (.tmp 36) (.tmp 38) rfl w5.heap.size pre.length f rfl HM.out la rfl HBD.out.1 ?_; rw [HSV.out]) | (show wpListIn _ _ _ _ _ (Oper.mk none (Op.mapUpdate _ _ _ _) _ _ _ _ :: _) _ _; refine wpListIn_upd rfl (.tmp 36) (.tmp 38) (.tmp 42) rfl w5.heap.size pre.length f rfl HM.out HLEN.out la rfl HBD.out.1 (s + lm) rfl HBD.out.2 ?_; intro w3 hM3 hf3))
   have HM3 := Lib.hid hM3
   have HF3 := Lib.hid hf3
   have G13 := Lib.hid ((hf3.block _ (show w5.heap.size + 2 ≠ w5.heap.size by omega)).trans H13.out)
   have G14 := Lib.hid ((hf3.block _ (show w5.heap.size + 3 ≠ w5.heap.size by omega)).trans H14.out)
   have GBX := Lib.hid ((hf3.block b (show b ≠ w5.heap.size by have := HS12.out; omega)).trans HBX.out)
   clear hM3 hf3 x0 x1 m0
   have q13 := blk_cell G13.out 0
   have q14 := blk_cell G14.out 0
   have qx := blk_cell GBX.out 0
   have hmo : Try.prog.follows .mixedOrders = true := by kernel_rfl
   have f13 := blk_frozen G13.out 0
   have f14 := blk_frozen G14.out 0
   have hbb : w5.heap.size + 3 < b := by have := HS12.out; omega
   gi_upto_if 45 with fail
   gi_cut [45] from 45 (fun v wx => ∃ lo' hi' : Int, wx.heap[w5.heap.size + 2]? = some (.cells #[.int .i64 lo'] 3 (0, 0)) ∧ wx.heap[w5.heap.size + 3]? = some (.cells #[.int .i64 hi'] 3 (0, 0)) ∧ (1 ≤ lo' ∧ lo' ≤ hi' ∧ hi' ≤ 99999 ∧ ∀ z ∈ pre, lo' ≤ z.1.2.account ∧ z.1.2.account ≤ hi') ∧ Fr (fun q => q ≠ w5.heap.size + 2 ∧ q ≠ w5.heap.size + 3) w3 wx)
   case first =>
    rcases HSP.out with ⟨hp0, hlo, hhi⟩ | hsp
    · have HPE := Lib.hid hp0
      subst hlo hhi
      have HLA := Lib.hid (show 1 ≤ la ∧ la ≤ 99999 from hx.2)
      have HFIN := Lib.hid (show ∀ wx : World, wx = ((w3.setCell ⟨w5.heap.size + 1 + 1, 0, none⟩ (.int .i64 la)).setCell ⟨w5.heap.size + 1 + 1 + 1, 0, none⟩ (.int .i64 la)).drew → ∃ lo' hi' : Int, wx.heap[w5.heap.size + 2]? = some (.cells #[.int .i64 lo'] 3 (0, 0)) ∧ wx.heap[w5.heap.size + 3]? = some (.cells #[.int .i64 hi'] 3 (0, 0)) ∧ (1 ≤ lo' ∧ lo' ≤ hi' ∧ hi' ≤ 99999 ∧ ∀ z ∈ pre, lo' ≤ z.1.2.account ∧ z.1.2.account ≤ hi') ∧ Fr (fun q => q ≠ w5.heap.size + 2 ∧ q ≠ w5.heap.size + 3) w3 wx from fun wx e => by
       subst e
       obtain ⟨h1, h2, h3⟩ := two_sets G13.out G14.out la la
       exact ⟨la, la, h1, h2, ⟨HLA.out.1, Int.le_refl _, HLA.out.2, fun z hz => by rw [HPE.out] at hz; cases hz⟩, h3.drew⟩)
      clear hp0
      gi_upto_region 11 with fail
      gi_region_with_o (fail)
      all_goals
       gi_wp2_with fail
       gi_meet
       exact HFIN.out _ rfl
    · have hlp : ¬ hi < lo := by omega
      have hlh : decide (hi < lo) = false := decide_eq_false hlp
      have HSQ2 := Lib.hid hsp
      clear hsp
      gi_wp2_with fail
      gi_meet
      exact ⟨lo, hi, G13.out, G14.out, HSQ2.out, Fr.refl _ _⟩
   case rest =>
    obtain ⟨lo', hi', h13, h14, hsp, hfr⟩ := hcut
    have HR13 := Lib.hid h13
    have HR14 := Lib.hid h14
    have HSP2 := Lib.hid hsp
    have HFR := Lib.hid hfr
    have HBX2 := Lib.hid ((hfr.block b ⟨by omega, by omega⟩).trans GBX.out)
    clear h13 h14 hsp hfr q13 q14 qx f13 f14
    gi_upto_region 12 with fail
    refine wpIn_region_invL (Ks wc [.val (.int .i64 lo'), .val (.pointer (some ⟨b, 0, none⟩)), .val (.int .i64 la), .val (.int .i64 (min lo' la)), .val (.int .i64 hi'), .val (.pointer (some ⟨b, 0, none⟩)), .val (.int .i64 la), .val (.int .i64 (max hi' la)), .val undef, .val undef]) (SpanS w5.heap.size lo' hi' la wc) (by kernel_rfl) (by kernel_rfl) (by kernel_rfl) (by kernel_rfl) (fun ⟨_, _, hlo⟩ => (show False from hlo)) ⟨(Fr.refl _ _).drew, HR13.out, HR14.out⟩ ?_ ?_
    · refine ⟨?_, ?_, ?_, ?_, ?_, ?_, ?_, ?_, ?_, ?_, trivial⟩
      · intro _ A0 w2 hI hd hnd K hK; have e0 := hI.q hnd 13; have hS := hI.world
        have hcc := SpanS.load13 hS (hI.waits hnd 8 rfl (by kernel_rfl))
        refine wanted_go rfl ?_; clear hI hd hnd; go_simp
        exact hK.out _ _ (hS.other 0 (by decide) (by decide)) (Ks.of rfl rfl) (fun _ _ h => h)
      · intro _ A0 w2 hI hd hnd K hK; have e0 := hI.q hnd 16; have hS := hI.world; refine wanted_go rfl ?_; clear hI hd hnd; go_simp
        exact hK.out _ _ (hS.other 1 (by decide) (by decide)) (Ks.of rfl rfl) (fun _ _ h => h)
      · intro _ A0 w2 hI hd hnd K hK; have e0 := hI.p hd 1 51; have hS := hI.world; have hcc : w2.cell? ⟨b, 0, none⟩ = some (.int .i64 la) := blk_cell ((hS.1.block b ⟨by omega, by omega⟩).trans HBX2.out) 0
        refine wanted_go rfl ?_; clear hI hd hnd; go_simp
        exact hK.out _ _ (hS.other 2 (by decide) (by decide)) (Ks.of rfl rfl) (fun _ _ h => h)
      · intro _ A0 w2 hI hd hnd K hK; have e0 := hI.p hd 0 50; have e1 := hI.p hd 2 52; have hS := hI.world; refine wanted_go rfl ?_; clear hI hd hnd; go_simp
        exact hK.out _ _ (hS.other 3 (by decide) (by decide)) (Ks.of rfl rfl) (fun _ _ h => h)
      · intro _ A0 w2 hI hd hnd K hK; have e0 := hI.q hnd 14; have hS := hI.world
        have hcc := SpanS.load14 hS (hI.waits hnd 9 rfl (by kernel_rfl))
        refine wanted_go rfl ?_; clear hI hd hnd; go_simp
        exact hK.out _ _ (hS.other 4 (by decide) (by decide)) (Ks.of rfl rfl) (fun _ _ h => h)
      · intro _ A0 w2 hI hd hnd K hK; have e0 := hI.q hnd 16; have hS := hI.world; refine wanted_go rfl ?_; clear hI hd hnd; go_simp
        exact hK.out _ _ (hS.other 5 (by decide) (by decide)) (Ks.of rfl rfl) (fun _ _ h => h)
      · intro _ A0 w2 hI hd hnd K hK; have e0 := hI.p hd 5 55; have hS := hI.world; have hcc : w2.cell? ⟨b, 0, none⟩ = some (.int .i64 la) := blk_cell ((hS.1.block b ⟨by omega, by omega⟩).trans HBX2.out) 0
        refine wanted_go rfl ?_; clear hI hd hnd; go_simp
        exact hK.out _ _ (hS.other 6 (by decide) (by decide)) (Ks.of rfl rfl) (fun _ _ h => h)
      · intro _ A0 w2 hI hd hnd K hK; have e0 := hI.p hd 4 54; have e1 := hI.p hd 6 56; have hS := hI.world; refine wanted_go rfl ?_; clear hI hd hnd; go_simp
        exact hK.out _ _ (hS.other 7 (by decide) (by decide)) (Ks.of rfl rfl) (fun _ _ h => h)
      · intro _ A0 w2 hI hd hnd K hK; have e0 := hI.q hnd 13; have e1 := hI.p hd 3 53; have hS := hI.world
        have hsz := hI.lsize
        have hcc := SpanS.c13 hS
        have hcf := SpanS.f13 hS
        refine wanted_go rfl ?_; clear hI hd hnd; go_simp
        exact hK.out undef _ (hS.set13 (by rw [hsz]; decide)) (Ks.of rfl rfl) (fun _ _ h => Ks.vals (by simp) h)
      · intro _ A0 w2 hI hd hnd K hK; have e0 := hI.q hnd 14; have e1 := hI.p hd 7 57; have hS := hI.world
        have hsz := hI.lsize
        have hcc := SpanS.c14 hS
        have hcf := SpanS.f14 hS
        refine wanted_go rfl ?_; clear hI hd hnd; go_simp
        exact hK.out undef _ (hS.set14 (by rw [hsz]; decide)) (Ks.of rfl rfl) (fun _ _ h => Ks.vals (by simp) h)
    · intro _ A0 w2 hI hall
      obtain ⟨hf2, h13, h14⟩ := hI.world.fin (hall 8 (by decide)) (hall 9 (by decide))
      clear hI hall
      have hW2 : Fr (fun q => q ≠ w5.heap.size ∧ q ≠ w5.heap.size + 2 ∧ q ≠ w5.heap.size + 3) W w2 := ((HF3.out.mono (fun q hq => hq.1)).trans (HFR.out.mono (fun q hq => ⟨hq.2.1, hq.2.2⟩))).trans (hf2.mono (fun q hq => ⟨hq.2.1, hq.2.2⟩))
      have hs12 := HS12.out
      have hs5 := HS5.out
      have hnm : ∀ (k : Nat) (o : Obj), W.heap[k]? = some o → o.isCells = true → k ≠ w5.heap.size := fun k o ho hc e => by
       obtain ⟨D, ⟨es, clock, hb, _⟩, _⟩ := HM.out
       rw [e, hb] at ho
       cases ho
       cases hc
      have hKN : KeepN w.heap.size (fun q => q = w5.heap.size + 2 ∨ q = w5.heap.size + 3) W w2 := ⟨(hW2.mono (fun q (hq : q < w.heap.size) => ⟨by omega, by omega, by omega⟩)).below, fun k o hk ho hc => (hW2.block k ⟨hnm k o ho hc, fun e => hk (.inl e), fun e => hk (.inr e)⟩).trans ho⟩
      refine (show KeepsFrom W12.heap.size W w2 ∧ KeepN w.heap.size (fun q => q = w5.heap.size + 2 ∨ q = w5.heap.size + 3) W w2 ∧ TriI w.heap.size w5.heap.size W12 (pre ++ [⟨(t, ⟨la, lm, lp⟩), hx⟩]) w2 from ⟨⟨hW2.size, fun k o hk ho _ => (hW2.block k ⟨by omega, by omega, by omega⟩).trans ho⟩, hKN, HKW.out.trans hKN, ⟨fun d => if d = la then some (s + lm) else f d, ?_, fun c => ?_⟩, _, _, h13, h14, Span.next HSP2.out ⟨(t, ⟨la, lm, lp⟩), hx⟩⟩)
      · rw [List.length_append, List.length_singleton]
        exact HM3.out.same ((hf2.block _ ⟨by omega, by omega⟩).trans (HFR.out.block _ ⟨by omega, by omega⟩))
      · rw [HNX.out c]
        show (if c = la then some (s + lm) else f c).getD 0 = sumPd (fun _ _ => true) c (pre.map (·.1)) + (if la = c ∧ true = true then lm else 0)
        by_cases hc : c = la
        · subst hc
          rw [if_pos rfl, if_pos ⟨rfl, rfl⟩, ← HF.out, HSV.out]; rfl
        · rw [if_neg hc, if_neg (fun h => hc h.1.symm), HF.out]; omega
  case done =>
   rintro D ys W0 hD hys ⟨hK, ⟨f, hM, hf⟩, lo, hi, h13, h14, hsp⟩ hD2
   have HF := Lib.hid (show ∀ c, (f c).getD 0 = sumE (qB d) l ent c from fun c => by rw [hf c, hys]; exact sum_bal l ent c d)
   have m0 := blk_cell (hK.cells (by omega) F1.out) 0
   have n13 := blk_cell h13 0
   have n14 := blk_cell h14 0
   have HKW := Lib.hid hK
   have HM := Lib.hid hM
   have HHD := Lib.hid hD2
   have HDS := Lib.hid hD
   have HSPN := Lib.hid hsp
   have HYS := Lib.hid hys
   clear hK hf hM hD2 hsp hys hD
   obtain ⟨FF, hFF⟩ : ∃ FF : Int → Int, (fun c => sumE (qB d) l ent c) = FF := ⟨_, rfl⟩
   have HFF := Lib.hid hFF
   have HF := Lib.hid (show ∀ c, (f c).getD 0 = FF c from fun c => by rw [← hFF]; exact HF.out c)
   have HFB := Lib.hid (show ∀ c, intBd (FF c) from fun c => by
    have := sumE_lt (qB d) (qB_bd _) HV.out (by have := HLE.out; omega) ent c
    rw [← hFF]
    unfold intBd
    simp only
    omega)
   have HOUT := Lib.hid (show ∀ c, FF c ≠ 0 → lo ≤ c ∧ c ≤ hi from fun c hc => Decidable.byContradiction fun hn => hc (by
    rw [← hFF]
    show sumE (qB d) l ent c = 0
    rw [← sum_bal, ← HYS.out]
    exact span_out HSPN.out hn))
   have HLH := Lib.hid (show (lo = 0 ∧ hi = -1) ∨ (1 ≤ lo ∧ lo ≤ hi ∧ hi ≤ 99999) from by
    rcases HSPN.out with ⟨_, h1, h2⟩ | ⟨h1, h2, h3, _⟩
    · exact .inl ⟨h1, h2⟩
    · exact .inr ⟨h1, h2, h3⟩)
   obtain ⟨ia, hia, hzia, hsia, hbia⟩ := info_parts info_balA
   have G1 := Lib.hid ((HKW.out.cells (show ¬ (w5.heap.size + 1 = w5.heap.size + 2 ∨ w5.heap.size + 1 = w5.heap.size + 3) by omega) F1.out))
   have G14 := Lib.hid h14
   clear hFF h13 h14 n14 m0
   go_upto_block 2 with fail
   clear n13
   go_wp2_with fail
   go_loopw [17, 18] (fun v cd wr => ∃ (k : Nat) (q : Int), q = lo + k ∧ q ≤ hi + 1 ∧ cd = .int .i64 q ∧ wr.ownsRow W0.heap.size 60 2 v (triL FF lo k).length ((triL FF lo k).flatMap balL) ∧ Below W0.heap.size W0 wr) (fun _ cd _ => (hi + 1 - intOf cd).toNat)
   case atStart => exact ⟨0, lo, by omega, by have := HLH.out; omega, rfl, World.ownsRow_nil _ _ _ _, Below.refl _ _⟩
   case round =>
    obtain ⟨k, q, hq, hqh, rfl, hown, hb⟩ := hrel
    generalize wr = w8 at *
    have HOW := Lib.hid hown
    have HB8 := Lib.hid hb
    have HQ := Lib.hid hq
    have m0 := blk_cell ((hb.block _ (blk_lt G1.out)).trans G1.out) 0
    have n14 := blk_cell ((hb.block _ (blk_lt G14.out)).trans G14.out) 0
    have HM8 := Lib.hid (HM.out.below hb)
    have hlh := HLH.out
    clear hown hb hq
    by_cases hlt : q ≤ hi
    case pos =>
     have hqb : 0 ≤ q ∧ q ≤ 99999 := by have := HQ.out; omega
     obtain ⟨hq0, hq1⟩ := hqb
     have HQI := Lib.hid (show intBd q by unfold intBd; omega)
     obtain ⟨v, hv⟩ : ∃ v, FF q = v := ⟨_, rfl⟩
     have HVE := Lib.hid hv
     have HVF := Lib.hid (show (f q).getD 0 = v by rw [HF.out, hv])
     have HVB := Lib.hid (show intBd v by rw [← hv]; exact HFB.out q)
     have hvb : -9223372036854775808 ≤ v ∧ v ≤ 9223372036854775807 := HVB.out
     obtain ⟨hv0, hv1⟩ := hvb
     clear hv hlh
     by_cases hvz : v = 0
     case pos =>
      have HST := Lib.hid (show triL FF lo (k + 1) = triL FF lo k by
       rw [triL, ← HQ.out, if_neg (fun h => h (by rw [HVE.out]; exact hvz)), List.append_nil])
      subst hvz
      go_wp2_with (show wpList _ _ _ (Oper.mk (some 66) _ _ _ _ _ :: _) _ _; refine wpList_look1 rfl (.tmp 64) (.tmp 65) rfl w5.heap.size _ f rfl HM8.out q rfl HQI.out ?_; rw [HVF.out])
      go_roundw
      case rel => exact ⟨k + 1, q + 1, by have := HQ.out; omega, by omega, rfl, by rw [HST.out]; exact HOW.out, HB8.out⟩
      case measure => simp only [intOf]; omega
     case neg =>
      have hvn : (v != 0) = true := by simpa using hvz
      have HST := Lib.hid (show triL FF lo (k + 1) = triL FF lo k ++ [⟨q, v⟩] by
       rw [triL, ← HQ.out, if_pos (fun h => hvz (by rw [← HVE.out]; exact h)), HVE.out])
      obtain ⟨nt, hnt⟩ : ∃ n, (triL FF lo k).length = n := ⟨_, rfl⟩
      have hnl : nt ≤ 100000 := by have h1 := triL_len FF lo k; have h2 := HQ.out; have h3 := HLH.out; omega
      have HNT := Lib.hid hnt
      rw [hnt] at HOW
      clear hvz hnt
      have hsx := HB8.out.size
      go_wp2_with (first | (show wpList _ _ _ (Oper.mk (some 66) _ _ _ _ _ :: _) _ _; refine wpList_look1 rfl (.tmp 64) (.tmp 65) rfl w5.heap.size _ f rfl HM8.out q rfl HQI.out ?_; rw [HVF.out]) | (at_builtin; go_loud (refine wpList_app _ rfl (.tmp 69) (.tmp 73) 37 rfl W0.heap.size 60 ia _ 2 16 bals_uty hia hzia hsia hbia rfl (by decide) u17 nt ((triL FF lo k).flatMap balL) rfl (HOW.out.alloc _) (fun _ => True) (some ⟨w8.heap.size, 0, none⟩) 1 1 [.int .i64 q, .int .i64 v] rfl (rd_new (heap_alloc_new _ _) rfl) (by simp [Value.oneCell']) (by simp only [maxLen]; omega) (by omega) (by simp; omega) ?_); intro v9 w9 hown9 hg9 _))
      go_roundw
      case rel =>
       refine ⟨k + 1, q + 1, by have := HQ.out; omega, by omega, rfl, ?_, below_grown (HB8.out.alloc hsx _) hg9 (fun q hq => (HOW.out.lt _ hq).1) (Nat.le_refl _)⟩
       rw [HST.out, List.flatMap_append, List.length_append, HNT.out]
       exact hown9
      case measure => simp only [intOf]; omega
    case neg =>
     have HTS := Lib.hid (show IsTri FF (triL FF lo k) from triL_is (fun c hc => by have h1 := HOUT.out c hc; have h2 := HQ.out; omega))
     have hTL := triL_len FF lo k
     have HTL := Lib.hid (show (triL FF lo k).length ≤ 100000 by have h2 := HQ.out; have h3 := HLH.out; omega)
     have HMB := Lib.hid (fun (x : XBalance) (hx : x ∈ triL FF lo k) => show intBd x.account ∧ intBd x.amount by
      obtain ⟨h1, h2, h3⟩ := (triL_mem FF lo k x).1 hx
      refine ⟨by unfold intBd; have h4 := HQ.out; have h5 := HLH.out; omega, ?_⟩
      rw [h3]
      exact HFB.out _)
     obtain ⟨ts, hts⟩ : ∃ ts, triL FF lo k = ts := ⟨_, rfl⟩
     rw [hts] at HTS HTL HMB HOW
     have HHD8 := Lib.hid ((HB8.out.block D (Array.getElem?_eq_some_iff.1 HHD.out).1).trans HHD.out)
     have hlc := own_listF (El := BalanceC) (f := balL) (fun _ => rfl) HOW.out (Q := fun q => W0.heap.size ≤ q ∧ q < w8.heap.size) (fun x hx => ⟨[_], [_], rfl, ⟨rfl, (HMB.out x hx).1⟩, ⟨rfl, (HMB.out x hx).2⟩⟩) (fun q hq => HOW.out.lt _ hq)
     obtain ⟨Ao, no, co, rfl⟩ := own_shape HOW.out
     obtain rfl : no = ts.length := own_val HOW.out
     have HLC := Lib.hid hlc
     obtain ⟨no, hno⟩ : ∃ x, ts.length = x := ⟨_, rfl⟩
     rw [hno]
     have HNO := Lib.hid hno
     clear hTL hts hlc hno HOW hlh
     go_wp2_with fail
     refine ⟨by simp, .inl ⟨_, _, rfl, run_takeDeferred HHD8.out, ?_⟩⟩
     have hDl : D < W0.heap.size := (Array.getElem?_eq_some_iff.1 HHD.out).1
     have hfd : Fr (fun q => q ≠ D) w8 (w8.putObj D (.deferred none)) := ⟨rfl, rfl, rfl, by simp, fun q hq => World.putObj_heap_other hq⟩
     have hb1 : Below w.heap.size w W0 := HB12.out.trans (HKW.out.1.mono (Nat.le_refl _))
     have hb2 : Below w.heap.size w w8 := hb1.trans (HB8.out.mono hb1.size)
     refine ⟨_, results_tmp2 rfl _ _ _, 0, Ao, co, ts, by rw [HNO.out]; rfl, HR.out, fun _ => HTS.out.eqv (fun c => by rw [← HFF.out]), fun h => absurd rfl h, HTL.out, ?_, ((Fr.ofBelow hb2).trans (hfd.mono (fun q (hq : q < w.heap.size) => by have := HDS.out; have := HS12.out; have := HS5.out; omega))).below⟩
     exact (ListC.fr (HLC.out) (fun h => BalanceC.fr h (hfd.mono (fun q hq => by omega))) (hfd.mono (fun q hq => by omega))).mono (fun h => BalanceC.mono h (fun q hq => by simpa using hq.2)) (fun q hq => by simpa using hq.2)
end Go.Proofs.Ytekelchdbkjjjaa
namespace Go.Proofs.Ytekelchdbkjjjaa
open Go Go.RowKit
def swapL (l : List XEntry) (k : Nat) : List XEntry := (l.set k (l.getD (k + 1) {})).set (k + 1) (l.getD k {})
theorem swap_parts {l : List XEntry} {k : Nat} (h : k + 1 < l.length) : ∃ a b, l = a ++ [l.getD k {}, l.getD (k + 1) {}] ++ b ∧ swapL l k = a ++ [l.getD (k + 1) {}, l.getD k {}] ++ b := by
 have e0 : l.getD k {} = l[k] := by simp [List.getD_eq_getElem?_getD, show k < l.length by omega]
 have e1 : l.getD (k + 1) {} = l[k + 1] := by simp [List.getD_eq_getElem?_getD, h]
 have hl : l = l.take k ++ [l[k], l[k + 1]] ++ l.drop (k + 2) := by
  conv => lhs; rw [← List.take_append_drop k l, List.drop_eq_getElem_cons (show k < l.length by omega), List.drop_eq_getElem_cons h]
  simp
 refine ⟨l.take k, l.drop (k + 2), by rw [e0, e1]; exact hl, ?_⟩
 unfold swapL
 rw [e0, e1]
 have hk : (l.take k).length = k := by rw [List.length_take]; omega
 generalize l[k] = x at *
 generalize l[k + 1] = y at *
 generalize l.take k = a at *
 generalize l.drop (k + 2) = b at *
 subst hl
 subst hk
 simp
theorem swap_length (l : List XEntry) (k : Nat) : (swapL l k).length = l.length := by unfold swapL; simp
theorem swap_perm {l : List XEntry} {k : Nat} (h : k + 1 < l.length) : l.Perm (swapL l k) := by
 obtain ⟨a, b, h1, h2⟩ := swap_parts h
 rw [h2]
 conv => lhs; rw [h1]
 exact List.Perm.append_right b (List.Perm.append_left a (List.Perm.swap _ _ []))
theorem swap_modest {l : List XEntry} {k : Nat} (h : k + 1 < l.length) (hm : modest l) : modest (swapL l k) := ⟨fun x hx => hm.1 x ((swap_perm h).mem_iff.2 hx), by rw [swap_length]; exact hm.2⟩
theorem swap_valid {g : XGroup} {l : List XEntry} {k : Nat} (h : k + 1 < l.length) (hne : ¬ ((l.getD (k + 1) {}).kind = 3 ∧ (l.getD (k + 1) {}).of_ = (l.getD k {}).id)) (hv : validJ g l) : validJ g (swapL l k) := by
 obtain ⟨a, b, h1, h2⟩ := swap_parts h
 refine ⟨hv.1, ?_⟩
 rw [h2]
 refine okJ_swap ?_ hne
 rw [← h1]
 exact hv.2
theorem chk_valid {g : XGroup} {l : List XEntry} {ent per acc r : Int} {ch : Bool} (h : BChk g l ent per acc ch r) (hr : r ≠ 1) : validJ g l ∧ r = chkR g ent per acc ch := h.elim (fun h => absurd h.2 hr) id
theorem chk_of {g : XGroup} {l m : List XEntry} {ent per acc r s : Int} {ch : Bool} (h : BChk g l ent per acc ch r) (k : BChk g m ent per acc ch s) (hr : r ≠ 1) (hv : validJ g m) : s = r := by
 obtain ⟨_, h2⟩ := chk_valid h hr
 rcases k with ⟨k1, _⟩ | ⟨_, k2⟩
 · exact absurd hv k1
 · rw [h2, k2]
theorem order_law {g : XGroup} {l : List XEntry} {k : Nat} {ent d per acc r s : Int} {ch : Bool} {ts us : List XBalance} (h : k + 1 < l.length) (hne : ¬ ((l.getD (k + 1) {}).kind = 3 ∧ (l.getD (k + 1) {}).of_ = (l.getD k {}).id))
 (h1 : BChk g l ent per acc ch r) (h2 : BChk g (swapL l k) ent per acc ch s) (hr : r ≠ 1) (t1 : r = 0 → IsTri (fun c => sumE (qB d) l ent c) ts) (t2 : r ≠ 0 → ts = []) (u1 : s = 0 → IsTri (fun c => sumE (qB d) (swapL l k) ent c) us) (u2 : s ≠ 0 → us = []) : s = r ∧ us = ts := by
 have e := chk_of h1 h2 hr (swap_valid h hne (chk_valid h1 hr).1)
 subst e
 refine ⟨rfl, ?_⟩
 by_cases h0 : s = 0
 · exact ((u1 h0).eqv fun c => (sumE_perm (swap_perm h) ent c).symm).uniq (t1 h0)
 · rw [t2 h0, u2 h0]
theorem info_bal : (Try.prog.info? 60).map (·.size) = some 2 := by kernel_rfl
theorem BalanceC.lit {w : World} {Q : Nat → Prop} {cs : List Value} {x : XBalance} (h : BalanceC w Q cs x) : cs = balL x ∧ intBd x.account ∧ intBd x.amount := by
 obtain ⟨c0, c1, rfl, ⟨rfl, h0⟩, ⟨rfl, h1⟩⟩ := h
 exact ⟨rfl, h0, h1⟩
set_option maxHeartbeats 2000000 in
theorem same08_c (ks : List XBalance) (A1 A2 : Option Addr) (c1 c2 : Nat) (w : World) (h1 : ListC BalanceC 2 w (· < w.heap.size) [.slice A1 ks.length c1] ks) (h2 : ListC BalanceC 2 w (· < w.heap.size) [.slice A2 ks.length c2] ks) : Calls Try.prog 8 #[.slice A1 ks.length c1, .slice A2 ks.length c2] w (Quiet w (.bool true)) := by
 have HL1 := Lib.hid h1
 have HL2 := Lib.hid h2
 have hcap1 := h1.cap
 have hcap2 := h2.cap
 unfold maxLen at hcap1 hcap2
 obtain ⟨n, hnl⟩ : ∃ n, ks.length = n := ⟨_, rfl⟩
 have HN := Lib.hid hnl
 rw [hnl] at hcap1 hcap2 ⊢
 clear h1 h2 hnl
 go_enter Try.func8, Try.ntmps8
 go_wp2_with fail
 go_loopw [5] (fun i wr => ∃ k : Nat, k ≤ n ∧ i = .int .i64 (k : Int) ∧ Below w.heap.size w wr) (fun i _ => n - (intOf i).toNat)
 case atStart => exact ⟨0, by omega, rfl, Below.refl _ _⟩
 case round =>
  obtain ⟨k, hk, rfl, hb⟩ := hrel
  by_cases hlt : k < n
  case pos =>
   have hltI : (k : Int) < (n : Int) := by omega
   have hltI2 : 0 < n := by omega
   have hkl : k < ks.length := by rw [HN.out]; exact hlt
   obtain ⟨b1, o1, cs1, hAe1, hbw1, hes1, hat1⟩ := ListC.get HL1.out k hkl
   obtain ⟨b2, o2, cs2, hAe2, hbw2, hes2, hat2⟩ := ListC.get HL2.out k hkl
   subst hAe1 hAe2
   have hcs1 : cs1 = balL ks[k] := hes1.lit.1
   have hcs2 : cs2 = balL ks[k] := hes2.lit.1
   subst hcs1 hcs2
   obtain ⟨x, hx⟩ : ∃ x, ks[k] = x := ⟨_, rfl⟩
   rw [hx] at hat1 hat2
   obtain ⟨xa, xb⟩ := x
   have hf1 := hat1.fr (Fr.ofBelow hb)
   have hf2 := hat2.fr (Fr.ofBelow hb)
   have HA1 := Lib.hid (show At wr (· < wr.heap.size) ⟨b1, o1 + k * 2, none⟩ [.int .i64 xa, .int .i64 xb] from hf1.mono (fun q hq => Nat.lt_of_lt_of_le hq hb.size))
   have HA2 := Lib.hid (show At wr (· < wr.heap.size) ⟨b2, o2 + k * 2, none⟩ [.int .i64 xa, .int .i64 xb] from hf2.mono (fun q hq => Nat.lt_of_lt_of_le hq hb.size))
   have HB8 := Lib.hid hb
   clear hes1 hes2 hat1 hat2 hx hbw1 hbw2 hf1 hf2 hb
   go_upto_region 6 with fail
   refine wp_region_inv (Ks wr [.val (.slice (some ⟨b1, o1, none⟩) n c1), .val (.int .i64 (k : Int)), .val (.pointer (some ⟨b1, o1 + k * 2, none⟩)), .val (.agg #[.int .i64 xa, .int .i64 xb]), .val (.slice (some ⟨b2, o2, none⟩) n c2), .val (.int .i64 (k : Int)), .val (.pointer (some ⟨b2, o2 + k * 2, none⟩)), .val (.agg #[.int .i64 xa, .int .i64 xb]), .val (.bool false)])
    (fun w' => Below wr.heap.size wr w') (by kernel_rfl) (by kernel_rfl) (by kernel_rfl) (Below.refl _ _).drew ?_ ?_
   · refine ⟨?_, ?_, ?_, ?_, ?_, ?_, ?_, ?_, ?_, trivial⟩
     · intro _ A0 w2 hI hd hnd K hK; have e0 := hI.q hnd 0; exact hI.z hK
     · intro _ A0 w2 hI hd hnd K hK; have e0 := hI.q hnd 5; exact hI.z hK
     · intro _ A0 w2 hI hd hnd K hK; have e0 := hI.p hd 0 17; have e1 := hI.p hd 1 18; exact hI.z hK
     · intro _ A0 w2 hI hd hnd K hK; have e0 := hI.p hd 2 19; have hS := hI.world; have hrange : w2.rangeAt b1 (o1 + k * 2) [.int .i64 xa, .int .i64 xb] := (HA1.out.fr (Fr.ofBelow hS)).range; have hisize := info_bal; refine wanted_go rfl ?_; clear hI hd hnd
       refine wp_load_mid 60 (.tmp 19) rfl _ _ (by simpa [Act.eval, Array.getD_eq_getD_getElem?] using e0) _ _ hrange Try.underlying60 rfl hisize ?_
       exact kq hK hS rfl
     · intro _ A0 w2 hI hd hnd K hK; have e0 := hI.q hnd 1; exact hI.z hK
     · intro _ A0 w2 hI hd hnd K hK; have e0 := hI.q hnd 5; exact hI.z hK
     · intro _ A0 w2 hI hd hnd K hK; have e0 := hI.p hd 4 21; have e1 := hI.p hd 5 22; exact hI.z hK
     · intro _ A0 w2 hI hd hnd K hK; have e0 := hI.p hd 6 23; have hS := hI.world; have hrange : w2.rangeAt b2 (o2 + k * 2) [.int .i64 xa, .int .i64 xb] := (HA2.out.fr (Fr.ofBelow hS)).range; have hisize := info_bal; refine wanted_go rfl ?_; clear hI hd hnd
       refine wp_load_mid 60 (.tmp 23) rfl _ _ (by simpa [Act.eval, Array.getD_eq_getD_getElem?] using e0) _ _ hrange Try.underlying60 rfl hisize ?_
       exact kq hK hS rfl
     · intro _ A0 w2 hI hd hnd K hK; have e0 := hI.p hd 3 20; have e1 := hI.p hd 7 24; exact hI.z hK
   · intro _ A0 w2 hI hall; have hS := hI.world; have c9 := hI.ch hall [17, 18, 19, 20, 21, 22, 23, 24, 25]; obtain ⟨x0, x1, x2, x3, x4, x5, x6, x7, x8, hA, hV⟩ := c9
     obtain rfl : x8 = .bool false := hV 8 _ _ rfl _ rfl
     clear hV hI hall
     simp only [setAll, List.foldl, List.setIfInBounds_toArray, List.set_cons_zero, List.set_cons_succ] at hA
     rw [hA]
     clear hA
     have HB9 := Lib.hid (HB8.out.trans (hS.mono HB8.out.size))
     clear hS
     go_wp2_with fail
     go_roundw
     case rel => exact ⟨k + 1, by omega, by go_num, HB9.out⟩
     case measure => first | exact meas_v hlt | (simp only [intOf]; omega)
  case neg =>
   have hltI : ¬ (k : Int) < (n : Int) := by omega
   go_wp2_with fail
   go_ret
   exact ⟨rfl, hb⟩
def RowsAt (w : World) (g : Nat) (R : List (List Value)) : Prop := ∀ (i : Nat) cs, R[i]? = some cs → At w (fun q => q = g) ⟨g, i * 7, none⟩ cs
theorem at_cells {w : World} {g o : Nat} {cs : List Value} (h : At w (fun q => q = g) ⟨g, o, none⟩ cs) (j : Nat) (u : Value) (hu : cs[j]? = some u) : w.cell? ⟨g, o + j, none⟩ = some u ∧ w.frozen? ⟨g, o + j, none⟩ = false := by
 have := h.2 j u hu
 rw [Addr.add_lit] at this
 exact this
theorem at_out {w : World} {g o o2 : Nat} {cs vs : List Value} (h : At w (fun q => q = g) ⟨g, o, none⟩ cs) (hap : o + cs.length ≤ o2 ∨ o2 + vs.length ≤ o) : At (w.setCells g o2 vs) (fun q => q = g) ⟨g, o, none⟩ cs := by
 refine ⟨rfl, fun j u hu => ?_⟩
 have hj : j < cs.length := (List.getElem?_eq_some_iff.1 hu).1
 have := at_cells h j u hu
 rw [Addr.add_lit, World.cell?_setCells_out g vs o2 w _ (fun _ _ => by show o + j < o2 ∨ o2 + vs.length ≤ o + j; omega), World.frozen?_setCells]
 exact this
theorem at_in {w : World} {g o : Nat} {cs vs : List Value} (h : At w (fun q => q = g) ⟨g, o, none⟩ cs) (hl : vs.length = cs.length) : At (w.setCells g o vs) (fun q => q = g) ⟨g, o, none⟩ vs := by
 refine ⟨rfl, fun j u hu => ?_⟩
 have hj : j < vs.length := (List.getElem?_eq_some_iff.1 hu).1
 have hs : ∀ j, j < vs.length → (w.cell? ⟨g, o + j, none⟩).isSome = true := fun j hj => by
  have := (at_cells h j cs[j] (List.getElem?_eq_getElem (by omega))).1
  rw [this]; rfl
 rw [Addr.add_lit, World.cell?_setCells_in g vs o w hs j hj, World.frozen?_setCells]
 have h2 := (at_cells h j cs[j] (List.getElem?_eq_getElem (by omega))).2
 rw [List.getElem?_eq_getElem hj] at hu
 exact ⟨hu, h2⟩
theorem RowsAt.set {w : World} {g i : Nat} {R : List (List Value)} {cs : List Value} (h : RowsAt w g R) (hR : ∀ r ∈ R, r.length = 7) (hi : i < R.length) (hc : cs.length = 7) : RowsAt (w.setCells g (i * 7) cs) g (R.set i cs) := by
 intro q r hr
 by_cases hq : q = i
 · subst hq
   rw [List.getElem?_set_self hi] at hr
   obtain rfl := Option.some.inj hr
   exact at_in (h q R[q] (List.getElem?_eq_getElem hi)) (by rw [hc, hR _ (List.getElem_mem hi)])
 · rw [List.getElem?_set_ne (fun e => hq e.symm)] at hr
   have hl : r.length = 7 := hR r (List.mem_of_getElem? hr)
   refine at_out (h q r hr) ?_
   rw [hl, hc]
   rcases Nat.lt_or_gt_of_ne hq with h1 | h1
   · exact .inl (by omega)
   · exact .inr (by omega)
theorem RowsAt.fr {w w' : World} {g : Nat} {R : List (List Value)} {Q : Nat → Prop} (h : RowsAt w g R) (hf : Fr Q w w') (hg : Q g) : RowsAt w' g R := fun i cs hi =>
 ((h i cs hi).mono (Q' := fun q => q = g ∧ Q q) (fun q hq => ⟨hq, by rw [hq]; exact hg⟩)).fr (hf.mono (fun q hq => hq.2)) |>.mono (fun q hq => hq.1)
end Go.Proofs.Ytekelchdbkjjjaa
namespace Go.Proofs.Ytekelchdbkjjjaa
open Go Go.RowKit Go.Shelf
/-! A region that draws, by an invariant with a word R on what has been done. -/
def Apart (i j di dj : Nat) (listed : Array Bool) (a : Act) (w : World) : Prop := Done listed i → Done listed j → a.tmps[di]?.getD undef ≠ a.tmps[dj]?.getD undef
theorem Apart.put {i j di dj k : Nat} {listed : Array Bool} {a : Act} {w w' : World} {o : Option Nat} {v : Value} (h : Apart i j di dj listed a w) (h1 : k ≠ i) (h2 : k ≠ j) (h3 : o ≠ some di) (h4 : o ≠ some dj) : Apart i j di dj (listed.setIfInBounds k true) (a.put o v) w' := fun d1 d2 => by
 have := h (d1.inv.resolve_left (fun e => h1 e.symm)) (d2.inv.resolve_left (fun e => h2 e.symm))
 cases o with
 | none => exact this
 | some d =>
  have e1 : d ≠ di := fun e => h3 (by rw [e])
  have e2 : d ≠ dj := fun e => h4 (by rw [e])
  simpa [Act.put, Array.getElem?_setIfInBounds, e1, e2] using this
theorem Apart.other {i j di dj k : Nat} {listed : Array Bool} {a : Act} {w : World} {o : Option Nat} {V : Nat → Value → World → Prop} {S : World → Prop} {K : Act → World → Prop} (h : Apart i j di dj listed a w) (h1 : k ≠ i) (h2 : k ≠ j) (h3 : o ≠ some di) (h4 : o ≠ some dj)
 (hK : Shut (∀ v w', S w' → V k v w' → (∀ j u, V j u w → V j u w') → Apart i j di dj (listed.setIfInBounds k true) (a.put o v) w' → K (a.put o v) w')) : Shut (∀ v w', S w' → V k v w' → (∀ j u, V j u w → V j u w') → K (a.put o v) w') :=
 fun v w' a1 a2 a3 => hK v w' a1 a2 a3 (h.put h1 h2 h3 h4)
theorem Done.dep {md : Region.Mode} {o : Oper} {listed : Array Bool} (hd : ∀ e ∈ o.after, Region.binds md e = true → Done listed e.on) (j : Nat) (h : (o.after.toList.any fun e => Region.binds md e && e.on == j) = true) : Done listed j := by
 simp only [List.any_eq_true, Bool.and_eq_true, beq_iff_eq] at h
 obtain ⟨e, he, hb, rfl⟩ := h
 exact hd e (by simpa using he) hb
def IsRwX (B n : Nat) (cf : List Value) (v : Value) (w : World) : Prop := w.ownsRow B 36 7 v n cf
theorem IsRwX.keep {B n : Nat} {cf : List Value} : ∀ v w w', Below w.heap.size w w' → IsRwX B n cf v w → IsRwX B n cf v w' := fun v w w' hb h => own_below h hb
def IsMo (B n : Nat) (f : Int → Option Int) (v : Value) (w : World) : Prop := ∃ b : Nat, v = .map (some b) ∧ MapO w b n f ∧ B ≤ b
theorem IsMo.keep {B n : Nat} {f : Int → Option Int} : ∀ v w w', Below w.heap.size w w' → IsMo B n f v w → IsMo B n f v w' := fun v w w' hb ⟨b, h1, h2, h3⟩ => ⟨b, h1, h2.below hb, h3⟩
theorem IsMo.ne {B n : Nat} {f : Int → Option Int} {v : Value} {w : World} (h : IsMo B n f v w) : Value.map (some w.heap.size) ≠ v := by
 obtain ⟨b, rfl, hm, _⟩ := h
 have := hm.lt
 intro e
 simp only [Value.map.injEq, Option.some.injEq] at e
 omega
def IsJb (B n : Nat) (cf : List Value) (fi fr : Int → Option Int) (gl : List Value) (u : Value) (w : World) : Prop := ∃ (cs : Array Value) (v : Value) (b2 b3 : Nat), u = .agg cs ∧ (gl ++ [v, .map (some b2), .map (some b3)]).toArray = cs ∧ IsRwX B n cf v w ∧ MapO w b2 n fi ∧ MapO w b3 n fr ∧ B ≤ b2 ∧ B ≤ b3 ∧ b2 ≠ b3
theorem IsJb.keep {B n : Nat} {cf : List Value} {fi fr : Int → Option Int} {gl : List Value} : ∀ v w w', Below w.heap.size w w' → IsJb B n cf fi fr gl v w → IsJb B n cf fi fr gl v w' := fun v w w' hb ⟨cs, u, b2, b3, h1, h2, h3, h4, h5, h6⟩ => ⟨cs, u, b2, b3, h1, h2, own_below h3 hb, h4.below hb, h5.below hb, h6⟩
def IsJx (B : Nat) (D : Nat → Prop) (g : XGroup) (es : List XEntry) (u : Value) (w : World) : Prop := ∃ (L : Nat) (O : Nat → Prop), u = .pointer (some ⟨L, 0, none⟩) ∧ JC w D O L g es ∧ ∀ q, O q → B ≤ q
theorem IsJx.keep {B : Nat} {D : Nat → Prop} {g : XGroup} {es : List XEntry} : ∀ v w w', Below w.heap.size w w' → IsJx B D g es v w → IsJx B D g es v w' := fun v w w' hb ⟨L, O, h1, h2, h3⟩ => ⟨L, O, h1, h2.below hb, h3⟩
structure JKeep (w : World) (D : Nat → Prop) (g : XGroup) (es : List XEntry) (gl : List Value) (css : List (List Value)) : Prop where
 grp : GroupC w D gl g
 len : css.length = es.length
 ent : ∀ (i : Nat) x, es[i]? = some x → ∃ cs, css[i]? = some cs ∧ EntryC w D cs x
 ltD : ∀ q, D q → q < w.heap.size
 ok : okJ g es
theorem own_type {w : World} {base q : Nat} {e : TypeId} {size n : Nat} {v : Value} {xs : List Value} (h : w.ownsRow base e size v n xs) (hq : v.ownBlock = some q) : ∃ cs fz, w.heap[q]? = some (.cells cs e fz) := by
 rcases h.2 with ⟨rfl, _⟩ | ⟨g, cap, cur, rfl, _, hg, _⟩
 · simp [Value.ownBlock] at hq
 · simp [Value.ownBlock] at hq
   subst hq
   exact ⟨_, _, hg⟩
theorem MapO.obj {w : World} {b n : Nat} {f : Int → Option Int} (h : MapO w b n f) : ∃ es c, w.heap[b]? = some (.map es c) := by
 obtain ⟨D, ⟨es, clock, h1, _⟩, _⟩ := h
 exact ⟨es, clock, h1⟩
theorem IsJx.made {w w2 : World} {D : Nat → Prop} {g : XGroup} {es : List XEntry} {gl : List Value} {css : List (List Value)} {cs : Array Value} {v : Value} {n b2 b3 : Nat} {cf : List Value} {fi fr : Int → Option Int} (hk : JKeep w D g es gl css) (hS : Below w.heap.size w w2)
 (hc : css.flatten = cf ∧ es.length = n ∧ (fun id => Option.map (fun k : Nat => (k : Int)) (idxE es id)) = fi ∧ revO es = fr) (hcs : (gl ++ [v, .map (some b2), .map (some b3)]).toArray = cs) (h1 : IsRwX w.heap.size n cf v w2) (hm2 : MapO w2 b2 n fi) (hm3 : MapO w2 b3 n fr) (hge2 : w.heap.size ≤ b2) (hge3 : w.heap.size ≤ b3) (hne : b2 ≠ b3) :
 IsJx w.heap.size D g es (.pointer (some ⟨w2.heap.size, 0, none⟩)) (w2.alloc (.cells cs 95)) := by
 obtain ⟨rfl, rfl, rfl, rfl⟩ := hc
 subst hcs
 have hb := below1 w2 (.cells (gl ++ [v, .map (some b2), .map (some b3)]).toArray 95)
 have hs := hS.size
 have l2 := hm2.lt
 have l3 := hm3.lt
 have hov : ∀ q, v.ownBlock = some q → w.heap.size ≤ q ∧ q < w2.heap.size := fun q hq => h1.lt q hq
 obtain ⟨ms2, mc2, o2⟩ := hm2.obj
 obtain ⟨ms3, mc3, o3⟩ := hm3.obj
 refine ⟨w2.heap.size, fun q => q = w2.heap.size ∨ q = b2 ∨ q = b3 ∨ v.ownBlock = some q, rfl, ⟨gl, css, v, b2, b3, ?_⟩, fun q hq => ?_⟩
 · exact {
    blk := heap_alloc_new w2 _
    grp := GroupC.fr (GroupC.fr hk.grp ((Fr.ofBelow hS).mono (fun q hq => hk.ltD q hq))) ((Fr.ofBelow hb).mono (fun q hq => Nat.lt_of_lt_of_le (hk.ltD q hq) hs))
    len := hk.len
    row := own_base (own_below h1 hb) (Nat.zero_le _)
    ent := fun i x hx => by
     obtain ⟨cs, k1, k2⟩ := hk.ent i x hx
     exact ⟨cs, k1, EntryC.fr (EntryC.fr k2 ((Fr.ofBelow hS).mono (fun q hq => hk.ltD q hq))) ((Fr.ofBelow hb).mono (fun q hq => Nat.lt_of_lt_of_le (hk.ltD q hq) hs))⟩
    idx := hm2.below hb
    rev := hm3.below hb
    oj := .inl rfl
    oi := .inr (.inl rfl)
    orr := .inr (.inr (.inl rfl))
    ov := fun q hq => .inr (.inr (.inr hq))
    ne1 := by omega
    ne2 := by omega
    ne3 := hne
    ne4 := fun q hq => by
     have hh := hov q hq
     obtain ⟨xs, fz, ho⟩ := own_type h1 hq
     refine ⟨by omega, fun e => ?_, fun e => ?_⟩
     · subst e; rw [o2] at ho; simp at ho
     · subst e; rw [o3] at ho; simp at ho
    dis := fun q h h' => by
     have := hk.ltD q h
     rcases h' with h' | h' | h' | h'
     · omega
     · omega
     · omega
     · have := hov q h'; omega
    ltD := fun q h => by have := hk.ltD q h; have := hb.size; omega
    ltO := fun q h' => by
     have hlt : w2.heap.size < (w2.alloc (.cells (gl ++ [v, .map (some b2), .map (some b3)]).toArray 95)).heap.size := by simp
     rcases h' with h' | h' | h' | h'
     · omega
     · omega
     · omega
     · have := hov q h'; omega
    ok := hk.ok }
 · rcases hq with h' | h' | h' | h'
   · omega
   · omega
   · omega
   · exact (hov q h').1
end Go.Proofs.Ytekelchdbkjjjaa
namespace Go.Proofs.Ytekelchdbkjjjaa
open Go Go.RowKit
def IC (w : World) (p : Addr) : Prop := ∃ z : Int, w.cell? p = some (.int .i64 z) ∧ w.frozen? p = false
theorem IC.set {w : World} {p q : Addr} {z : Int} (hp : IC w p) (hq : IC w q) : IC (w.setCell q (.int .i64 z)) p := by
 obtain ⟨a, h1, h2⟩ := hp
 obtain ⟨b, h3, h4⟩ := hq
 by_cases e : q = p
 · subst e
   exact ⟨z, World.cell?_setCell_same _ _ _ h1, (World.frozen?_setCell _ _ _ _).trans h2⟩
 · exact ⟨a, (World.cell?_setCell_other _ _ _ _ e).trans h1, (World.frozen?_setCell _ _ _ _).trans h2⟩
theorem At.ic {w : World} {Q : Nat → Prop} {b o j : Nat} {cs : List Value} {z : Int} (h : At w Q ⟨b, o, none⟩ cs) (hj : cs[j]? = some (.int .i64 z)) : IC w ⟨b, o + j, none⟩ := by
 have h2 := h.2 j _ hj
 have e : (⟨b, o, none⟩ : Addr).add j = ⟨b, o + j, none⟩ := by
  unfold Addr.add
  split
  · rename_i h0; subst h0; rfl
  · rfl
 rw [e] at h2
 exact ⟨z, h2⟩
def RowI (A : Option Addr) (g n : Nat) (w : World) : Prop := ∀ k, k < n → A = some ⟨g, 0, none⟩ ∧ IC w ⟨g, k * 3 + 1, none⟩
theorem RowI.set {A : Option Addr} {g n k : Nat} {w : World} {z : Int} (h : RowI A g n w) (hk : k < n) : RowI A g n (w.setCell ⟨g, k * 3 + 1, none⟩ (.int .i64 z)) := fun j hj => ⟨(h j hj).1, (h j hj).2.set (h k hk).2⟩
def ShowAt (B : Nat) (A : Option Addr) (es : List XEntry) (w : World) : Prop := ∀ (i : Nat) x, es[i]? = some x → ∃ b o Al cl, A = some ⟨b, o, none⟩ ∧ w.cell? ⟨b, o + i * 7 + 6, none⟩ = some (.slice Al x.lines.length cl) ∧
 ∀ k, k < x.lines.length → ∃ bl ol, Al = some ⟨bl, ol, none⟩ ∧ B ≤ bl ∧ bl ≠ b ∧ IC w ⟨bl, ol + k * 3 + 1, none⟩
theorem ShowAt.set {B : Nat} {A : Option Addr} {es : List XEntry} {w : World} {q : Addr} {z : Int} (h : ShowAt B A es w) (hq : IC w q) (hb : ∀ b o, A = some ⟨b, o, none⟩ → q.block ≠ b) : ShowAt B A es (w.setCell q (.int .i64 z)) := fun i x hx => by
 obtain ⟨b, o, Al, cl, h1, h2, h3⟩ := h i x hx
 refine ⟨b, o, Al, cl, h1, (World.cell?_setCell_far _ _ _ _ (hb b o h1)).trans h2, fun k hk => ?_⟩
 obtain ⟨bl, ol, k1, k2, k3, k4⟩ := h3 k hk
 exact ⟨bl, ol, k1, k2, k3, k4.set hq⟩
theorem OutN.shown {B : Nat} {A : Option Addr} {c : Nat} {es : List XEntry} {w : World} (h : OutN B es (.slice A es.length c) w) : ShowAt B A es w := fun i x hx => by
 obtain ⟨css, h1, h2, h3, h4⟩ := h
 obtain ⟨cs, hc, hE⟩ := h4 i x hx
 rcases h2.2 with ⟨he, h0⟩ | ⟨g, cap, cur, he, hb, hg, _⟩
 · have : es = [] := List.eq_nil_of_length_eq_zero h0
   subst this
   simp at hx
 · simp only [Value.slice.injEq] at he
   obtain ⟨rfl, _, rfl⟩ := he
   obtain ⟨Al, cl, rfl, _, hl⟩ := hE.lit
   have hat := At.flat h3 0 (own_at (Q := fun _ => True) h2 trivial) i _ hc
   refine ⟨g, 0, Al, cl, rfl, (hat.2 6 _ rfl).1, fun k hk => ?_⟩
   obtain ⟨bl, ol, cl2, hA, hQ, hL, hA2⟩ := ListC.get hl k hk
   obtain ⟨rfl, _⟩ := LineC.lit hL
   exact ⟨bl, ol, hA, hQ.1.1, fun e => hQ.2 (by rw [e]; rfl), hA2.ic (j := 1) rfl⟩
theorem ListC.take {α : Type} {El : World → (Nat → Prop) → List Value → α → Prop} {size : Nat} {w : World} {Q : Nat → Prop} {A : Option Addr} {c m : Nat} {l : List α} (h : ListC El size w Q [.slice A l.length c] l) (hm : m ≤ l.length) : ListC El size w Q [.slice A (l.take m).length c] (l.take m) := by
 obtain ⟨A', c', he, h1, h2, h3⟩ := h
 simp only [List.cons.injEq, and_true, Value.slice.injEq] at he
 obtain ⟨rfl, _, rfl⟩ := he
 have hl : (l.take m).length = m := by rw [List.length_take]; omega
 refine ⟨_, _, rfl, by omega, h2, fun hp => ?_⟩
 obtain ⟨b, o, hA, hQ, hx⟩ := h3 (by omega)
 refine ⟨b, o, hA, hQ, fun i x hi => hx i x ?_⟩
 have him : i < m := by
  have := (List.getElem?_eq_some_iff.1 hi).1
  omega
 rw [List.getElem?_take_of_lt him] at hi
 exact hi
theorem fewJ.take {g : XGroup} {l : List XEntry} (h : fewJ g l) (m : Nat) : fewJ g (l.take m) := ⟨fun x hx => h.1 x (List.mem_of_mem_take hx), by have := h.2.1; rw [List.length_take]; omega, h.2.2⟩
def IsPd (B : Nat) (g : XGroup) (l : List XEntry) (v : Value) (w : World) : Prop := v = .tuple #[.pointer none, .slice none 0 0, .bool true] ∨
 ∃ (J : Nat) (D O : Nat → Prop) (A : Option Addr) (c : Nat), v = .tuple #[.pointer (some ⟨J, 0, none⟩), .slice A (accJ g l).length c, .bool true] ∧ JC w D O J g (accJ g l) ∧ (∀ q, D q ∨ O q → B ≤ q) ∧ ListC EntryC 7 w (fun q => q < w.heap.size ∧ ¬ (D q ∨ O q)) [.slice A (accJ g l).length c] (accJ g l)
theorem IsPd.keep {B : Nat} {g : XGroup} {l : List XEntry} : ∀ v w w', Below w.heap.size w w' → IsPd B g l v w → IsPd B g l v w' := fun v w w' hb h => by
 rcases h with h | ⟨J, D, O, A, c, h1, h2, h3, h4⟩
 · exact .inl h
 · have hf : Fr (fun q => q < w.heap.size ∧ ¬ (D q ∨ O q)) w w' := (Fr.ofBelow hb).mono (fun q hq => hq.1)
   exact .inr ⟨J, D, O, A, c, h1, h2.below hb, h3, (h4.fr (fun h => EntryC.fr h hf) hf).mono (fun h => EntryC.mono h (fun q hq => ⟨Nat.lt_of_lt_of_le hq.1 hb.size, hq.2⟩)) (fun q hq => ⟨Nat.lt_of_lt_of_le hq.1 hb.size, hq.2⟩)⟩
theorem IsPd.of {g : XGroup} {l : List XEntry} {w0 w w' : World} {e : Ending} (h : PostedPost g l w e w') (hB : w0.heap.size ≤ w.heap.size) : ∃ v, e = .returned v ∧ IsPd w0.heap.size g l v w' ∧ Below w.heap.size w w' := by
 obtain ⟨hb, ⟨_, rfl⟩ | ⟨_, J, D, O, A, c, rfl, h1, h2, h3⟩⟩ := h
 · exact ⟨_, rfl, .inl rfl, hb⟩
 · exact ⟨_, rfl, .inr ⟨J, D, O, A, c, rfl, h1, fun q hq => Nat.le_trans hB (h2 q hq), h3⟩, hb⟩
section
variable {P : Program} {w : World}
theorem wp_app_made2 {o : Oper} {a : Act} {K : Act → World → Prop} {Q' : Exit → Act → World → Prop} (s x : Operand) (t : TypeId)
 (ho : o.op = .call { callee := .builtin .append, args := #[s, x], argTypes := #[t, t] })
 (base : Nat) (e : TypeId) (i : TypeInfo) (z : Value) (size bytes : Nat) (ht : P.underlying t = some (.slice e)) (hi : P.info? e = some i) (hz : i.zero = some z)
 (hsize : i.size = size) (hby : i.bytes = bytes) (hzs : z.cells.size = size) (hsz : 0 < size)
 (g : Nat) (hs : a.eval s = .slice (some ⟨g, 0, none⟩) 0 0) (hg : w.heap[g]? = some (.cells #[] e (0, 0))) (hgb : base ≤ g)
 (Q : Nat → Prop) (A : Option Addr) (m c : Nat) (news : List Value) (hx : a.eval x = .slice A m c) (hr : Rd w Q A m size news) (h1 : ∀ u ∈ news, u.oneCell' = true)
 (h63 : m ≤ maxLen) (hbytes : m * bytes ≤ 140737488355328) (hbase : base ≤ w.heap.size)
 (h : ∀ v' w', w'.ownsRow base e size v' m news → Below w.heap.size w w' → K (a.put o.dst v') w') : o.wp P a w K Q' := by
 rcases Nat.eq_zero_or_pos m with h0 | hm
 · subst h0
   have hn : news = [] := List.eq_nil_of_length_eq_zero (by simpa using hr.1)
   subst hn
   have hown : w.ownsRow base e size (.slice (some ⟨g, 0, none⟩) 0 0) 0 [] := ⟨by simp, .inr ⟨g, 0, #[], rfl, hgb, hg, Nat.le_refl _, by simp [maxLen], by simp, by simp⟩⟩
   have hrun : (Builtin.append_ #[t, t] o.type #[.slice (some ⟨g, 0, none⟩) 0 0, .slice A 0 c]).run P w = .ok (.slice (some ⟨g, 0, none⟩) 0 0) w := by
    cases A with
    | none => exact run_app_none w base t o.type e i size ht hi _ 0 [] hown c
    | some ad =>
     have := run_append_room_cells (P := P) w t o.type e i ht hi g 0 0 0 ad 0 c [] (by simp) (by simp) (by simp) (Nat.le_refl _) (by simp) (by simp)
     simpa [World.setCells] using this
   unfold Oper.wp execOp
   simp only [ho, resolve, invoke, builtin, Sem.run_bind, Sem.run_pure, Result.andThen_ok, List.map_toArray, List.map_cons, List.map_nil, hs, hx, hrun]
   exact h _ w hown (Below.refl _ _)
 · exact wp_app_made w s x t ho base e i z size bytes ht hi hz hsize hby hzs hsz g hs hg hgb Q A m c news hx hr h1 hm h63 hbytes hbase h
end
def IsMdX (B : Nat) (v : Value) (w : World) : Prop := ∃ g, v = .slice (some ⟨g, 0, none⟩) 0 0 ∧ B ≤ g ∧ w.heap[g]? = some (.cells #[] 36 (0, 0))
theorem IsMdX.keep {B : Nat} : ∀ v w w', Below w.heap.size w w' → IsMdX B v w → IsMdX B v w' := fun v w w' hb ⟨g, e, h1, h2⟩ => ⟨g, e, h1, (hb.block g (blk_lt h2)).trans h2⟩
theorem IsMdX.made {B : Nat} {w : World} (h : B ≤ w.heap.size) : IsMdX B (.slice (some ⟨w.heap.size, 0, none⟩) 0 0) (w.alloc (.cells #[] 36)) := ⟨_, rfl, h, heap_alloc_new _ _⟩
def IsOneX (B : Nat) (cs : List Value) (v : Value) (w : World) : Prop := ∃ g, v = .slice (some ⟨g, 0, none⟩) 1 1 ∧ B ≤ g ∧ w.heap[g]? = some (.cells cs.toArray 36 (0, 0))
theorem IsOneX.keep {B : Nat} {cs : List Value} : ∀ v w w', Below w.heap.size w w' → IsOneX B cs v w → IsOneX B cs v w' := fun v w w' hb ⟨g, e, h1, h2⟩ => ⟨g, e, h1, (hb.block g (blk_lt h2)).trans h2⟩
theorem RowI.fr {A : Option Addr} {g n : Nat} {w w' : World} {Q : Nat → Prop} (h : RowI A g n w) (hf : Fr Q w w') (hg : Q g) : RowI A g n w' := fun k hk => by
 obtain ⟨h1, z, h2, h3⟩ := h k hk
 exact ⟨h1, z, (hf.cell (p := ⟨g, k * 3 + 1, none⟩) hg).trans h2, (hf.frozen (p := ⟨g, k * 3 + 1, none⟩) hg).trans h3⟩
theorem wpAny_invL' {P : Program} {md : Region.Mode} {ops : Array Oper} {Q : Exit → Act → World → Prop} {V : Nat → Value → World → Prop} {S : Array Bool → World → Prop} {a0 : Act}
 (hord : ∀ (i : Nat) (o : Oper), ops[i]? = some o → ∀ e ∈ o.after, Region.binds md e = true → e.on < i)
 (hdst : ∀ (i j : Nat) (oi oj : Oper) (d : Nat), ops[i]? = some oi → ops[j]? = some oj → oi.dst = some d → oj.dst = some d → i = j)
 (hlt : ∀ (i : Nat) (o : Oper) (d : Nat), ops[i]? = some o → o.dst = some d → d < a0.tmps.size)
 (hstep : ∀ i o, ops[i]? = some o → ∀ listed a w, Inv md ops V (S listed) a0 listed a w → (∀ e ∈ o.after, Region.binds md e = true → Done listed e.on) → ¬ Done listed i →
  ∀ K : Act → World → Prop, (∀ v w', S (listed.setIfInBounds i true) w' → V i v w' → (∀ j u, V j u w → V j u w') → K (a.put o.dst v) w') → if Region.wanted o (yielded ops a.tmps) = true then o.wp P a w K Q else K (a.put o.dst undef) w)
 (hend : ∀ listed a w, Inv md ops V (S listed) a0 listed a w → (∀ i, i < ops.size → Done listed i) → Q .normal a w) :
 ∀ fuel listed a w, Inv md ops V (S listed) a0 listed a w → left ops.size listed ≤ fuel → wpAny P md ops Q fuel listed a w
 | 0, listed, a, w, hI, hf => by
  have hr : Region.ready md ops listed = [] := by
   rw [List.eq_nil_iff_forall_not_mem]
   intro i hi
   obtain ⟨h1, o, h2, _⟩ := mem_ready.1 hi
   have := left_set hI.lsize (Array.getElem?_eq_some_iff.1 h2).1 h1
   omega
  exact ⟨hr, hend listed a w hI (fun i hi => all_done' hI.lsize hord hr (i + 1) i (by omega) hi)⟩
 | fuel + 1, listed, a, w, hI, hf => by
  refine ⟨fun hr => hend listed a w hI (fun i hi => all_done' hI.lsize hord hr (i + 1) i (by omega) hi), fun i hi => ?_⟩
  obtain ⟨h1, o, h2, h3⟩ := mem_ready.1 hi
  have hsz : i < ops.size := (Array.getElem?_eq_some_iff.1 h2).1
  have hnd : ¬ Done listed i := by
   unfold Done
   rw [← getD_tf (by rw [hI.lsize]; exact hsz), h1]
   simp
  refine wpOp_step h2 (fun K hK => hstep i o h2 listed a w hI h3 hnd K (fun v w' hS hv hst => hK _ _ ?_))
  refine wpAny_invL' hord hdst hlt hstep hend fuel _ _ _ ((Inv.step (hI.withS (S' := fun _ => True) trivial) hdst hlt h2 h3 trivial hv hst).withS hS) ?_
  have := left_set hI.lsize hsz h1
  omega
theorem wp_region_invL' {P : Program} {ops : Array Oper} {Q : Exit → Act → World → Prop} (V : Nat → Value → World → Prop) (S : Array Bool → World → Prop) {id : Nat} {a : Act} {w : World}
 (hm : P.follows .mixedOrders = true) (ho : ordB' .any ops = true) (hd : dstB ops a.tmps.size = true) (hS : S (Array.replicate ops.size false) w.drew)
 (hstep : AllOps (OpStepL P .any ops Q V S a) 0 ops.toList)
 (hend : ∀ listed a' w', Inv .any ops V (S listed) a listed a' w' → (∀ i, i < ops.size → Done listed i) → Q .normal a' w') : (Code.region id ops true).wp P Q a w := by
 refine wp_region_any hm (wpAny_invL' (V := V) (S := S) (a0 := a) (ordB_spec' ho) (fun i j oi oj d hi hj hid hjd => (dstB_spec hd i oi d hi hid).2 j oj hj hjd) (fun i o d hi hid => (dstB_spec hd i o d hi hid).1)
  (fun i o hi listed a' w' hI hdn hnd K hK => ?_) hend _ _ _ _ ?_ ?_)
 · have := AllOps.get hstep (i := i) (o := o) (by simpa using hi)
   rw [Nat.zero_add] at this
   exact this listed a' w' hI hdn hnd K hK
 · have hno : ∀ i, ¬ Done (Array.replicate ops.size false) i := fun i h => by
    unfold Done at h
    by_cases hi : i < ops.size <;> simp [Array.getD_eq_getD_getElem?, hi] at h
   exact ⟨by simp, hS, rfl, rfl, fun i _ _ h => absurd h (hno i), fun i _ _ _ _ h => absurd h (hno i), fun _ _ => rfl⟩
 · unfold left
   exact Nat.le_trans (List.length_filter_le _ _) (by simp)
theorem own_setc {base g n c : Nat} {T : TypeId} {size : Nat} : ∀ (vs : List Value) (o : Nat) {w : World} {xs : List Value}, w.ownsRow base T size (.slice (some ⟨g, 0, none⟩) n c) n xs → o + vs.length ≤ n * size → (w.setCells g o vs).ownsRow base T size (.slice (some ⟨g, 0, none⟩) n c) n (putAt xs o vs)
 | [], _, _, _, h, _ => h
 | v :: vs, o, w, xs, h, hl => by
  rw [List.length_cons] at hl
  exact own_setc vs (o + 1) (own_set h v (by omega)) (by omega)
theorem flat_put {size : Nat} {cs : List Value} (hc : cs.length = size) : ∀ {css : List (List Value)} (h : ∀ c ∈ css, c.length = size) (k : Nat), k < css.length → putAt css.flatten (k * size) cs = (css.set k cs).flatten := by
 intro css h k hk
 have e : css.flatten = (css.take k).flatten ++ css[k] ++ (css.drop (k + 1)).flatten := by
  rw [List.append_assoc, ← List.flatten_cons, ← List.drop_eq_getElem_cons hk, ← List.flatten_append, List.take_append_drop]
 have hl : (css.take k).flatten.length = k * size := by
  rw [flat_len (fun c hc => h c (List.mem_of_mem_take hc)), List.length_take, Nat.min_eq_left (by omega)]
 rw [e, putAt_head (.bool true) _ _ _ _ _ hl.symm (by rw [hc, h _ (List.getElem_mem hk)]) ]
 rw [List.set_eq_take_append_cons_drop, if_pos hk]
 simp
def xchR (css : List (List Value)) (k : Nat) (p q : Bool) : List (List Value) :=
 (fun r : List (List Value) => if q = true then r.set (k + 1) (css.getD k []) else r) (if p = true then css.set k (css.getD (k + 1) []) else css)
theorem xchR_len (css : List (List Value)) (k : Nat) (p q : Bool) : (xchR css k p q).length = css.length := by
 unfold xchR; cases p <;> cases q <;> simp
theorem xchR_all {css : List (List Value)} {k : Nat} {size : Nat} (h : ∀ c ∈ css, c.length = size) (hk : k + 1 < css.length) (p q : Bool) : ∀ c ∈ xchR css k p q, c.length = size := by
 have h0 : (css.getD k []).length = size := by rw [List.getD_eq_getElem?_getD, List.getElem?_eq_getElem (by omega)]; exact h _ (List.getElem_mem _)
 have h1 : (css.getD (k + 1) []).length = size := by rw [List.getD_eq_getElem?_getD, List.getElem?_eq_getElem hk]; exact h _ (List.getElem_mem _)
 intro c hc
 unfold xchR at hc
 cases p <;> cases q <;> simp only [if_true, if_false, Bool.false_eq_true, reduceCtorEq] at hc
 · exact h c hc
 · rcases List.mem_or_eq_of_mem_set hc with hc | rfl
   · exact h c hc
   · exact h0
 · rcases List.mem_or_eq_of_mem_set hc with hc | rfl
   · exact h c hc
   · exact h1
 · rcases List.mem_or_eq_of_mem_set hc with hc | rfl
   · rcases List.mem_or_eq_of_mem_set hc with hc | rfl
     · exact h c hc
     · exact h1
   · exact h0
def EntS (B gm n c : Nat) (css : List (List Value)) (k : Nat) (V : World) (listed : Array Bool) (w : World) : Prop :=
 Fr (fun q => q ≠ gm) V w ∧ w.ownsRow B 36 7 (.slice (some ⟨gm, 0, none⟩) n c) n (xchR css k (listed.getD 15 false) (listed.getD 17 false)).flatten
section
variable {B gm n c k : Nat} {css : List (List Value)} {V w : World} {listed : Array Bool}
theorem EntS.other (h : EntS B gm n c css k V listed w) (i : Nat) (h1 : i ≠ 15) (h2 : i ≠ 17) : EntS B gm n c css k V (listed.setIfInBounds i true) w := by
 unfold EntS
 rw [getD_other h1, getD_other h2]
 exact h
theorem EntS.there (h : EntS B gm n c css k V listed w) (j : Nat) (hj : j < n) : w.there gm (j * 7) 7 := fun i hi => by
 have hl : (xchR css k (listed.getD 15 false) (listed.getD 17 false)).flatten.length = n * 7 := h.2.1
 have hat := own_at h.2 (Q := fun _ => True) trivial
 have h2 : j * 7 + i < (xchR css k (listed.getD 15 false) (listed.getD 17 false)).flatten.length := by omega
 have h1 := hat.2 (j * 7 + i) _ (List.getElem?_eq_getElem h2)
 rw [Addr.add_lit, Nat.zero_add] at h1
 exact ⟨by rw [h1.1]; simp, h1.2⟩
theorem EntS.set15 (h : EntS B gm n c css k V listed w) (hs : 15 < listed.size) (hc : ∀ c ∈ css, c.length = 7) (hn : css.length = n) (hk : k + 1 < n) (hw : listed.getD 17 false = listed.getD 17 false) :
 EntS B gm n c css k V (listed.setIfInBounds 15 true) (w.setCells gm (k * 7) (css.getD (k + 1) [])) := by
 have h1 : (css.getD (k + 1) []).length = 7 := by rw [List.getD_eq_getElem?_getD, List.getElem?_eq_getElem (by omega)]; exact hc _ (List.getElem_mem _)
 refine ⟨h.1.trans (fr_setCells _ _ _), ?_⟩
 have h3 := own_setc (css.getD (k + 1) []) (k * 7) h.2 (by omega)
 rw [getD_same hs, getD_other (by decide)]
 rw [flat_put h1 (xchR_all hc (by omega) _ _) k (by rw [xchR_len]; omega)] at h3
 have e : (xchR css k (listed.getD 15 false) (listed.getD 17 false)).set k (css.getD (k + 1) []) = xchR css k true (listed.getD 17 false) := by
  unfold xchR
  cases listed.getD 15 false <;> cases listed.getD 17 false <;> simp
  · exact List.set_comm _ _ (by omega)
  · rw [List.set_comm _ _ (by omega)]; simp
 rw [e] at h3
 exact h3
theorem EntS.set17 (h : EntS B gm n c css k V listed w) (hs : 17 < listed.size) (hc : ∀ c ∈ css, c.length = 7) (hn : css.length = n) (hk : k + 1 < n) :
 EntS B gm n c css k V (listed.setIfInBounds 17 true) (w.setCells gm ((k + 1) * 7) (css.getD k [])) := by
 have h1 : (css.getD k []).length = 7 := by rw [List.getD_eq_getElem?_getD, List.getElem?_eq_getElem (by omega)]; exact hc _ (List.getElem_mem _)
 refine ⟨h.1.trans (fr_setCells _ _ _), ?_⟩
 have h3 := own_setc (css.getD k []) ((k + 1) * 7) h.2 (by omega)
 rw [getD_same hs, getD_other (by decide)]
 rw [flat_put h1 (xchR_all hc (by omega) _ _) (k + 1) (by rw [xchR_len]; omega)] at h3
 have e : (xchR css k (listed.getD 15 false) (listed.getD 17 false)).set (k + 1) (css.getD k []) = xchR css k (listed.getD 15 false) true := by
  unfold xchR
  cases listed.getD 15 false <;> cases listed.getD 17 false <;> simp
 rw [e] at h3
 exact h3
end
theorem rel_set {α : Type} {R : List Value → α → Prop} {l : List α} {css : List (List Value)} (hl : css.length = l.length) (h : ∀ (i : Nat) x, l[i]? = some x → ∃ cs, css[i]? = some cs ∧ R cs x) (k : Nat) {x : α} {cs : List Value} (hx : R cs x) : ∀ (i : Nat) z, (l.set k x)[i]? = some z → ∃ c, (css.set k cs)[i]? = some c ∧ R c z := by
 intro i z hz
 rw [List.getElem?_set] at hz ⊢
 by_cases hk : k = i
 · subst hk
   simp only [if_true] at hz ⊢
   by_cases hkl : k < l.length
   · rw [if_pos hkl] at hz
     rw [if_pos (by omega)]
     cases hz
     exact ⟨cs, rfl, hx⟩
   · rw [if_neg hkl] at hz; cases hz
 · rw [if_neg hk] at hz ⊢
   exact h i z hz
theorem swap_list {w : World} {Q : Nat → Prop} {l : List XEntry} {css : List (List Value)} {B gm n c k : Nat} (hl : css.length = l.length) (hn : l.length = n) (h7 : ∀ c ∈ css, c.length = 7) (h : ∀ (i : Nat) x, l[i]? = some x → ∃ cs, css[i]? = some cs ∧ EntryC w Q cs x) (hk : k + 1 < n)
 (ho : w.ownsRow B 36 7 (.slice (some ⟨gm, 0, none⟩) n c) n (xchR css k true true).flatten) (hQ : Q gm) : ListC EntryC 7 w Q [.slice (some ⟨gm, 0, none⟩) n c] (swapL l k) := by
 have hrow : xchR css k true true = (css.set k (css.getD (k + 1) [])).set (k + 1) (css.getD k []) := rfl
 have hE : ∀ j, j < n → EntryC w Q (css.getD j []) (l.getD j {}) := fun j hj => by
  obtain ⟨cs, h1, h2⟩ := h j _ (List.getElem?_eq_getElem (by omega))
  rw [List.getD_eq_getElem?_getD, h1, List.getD_eq_getElem?_getD, List.getElem?_eq_getElem (by omega)]
  exact h2
 have ho2 : w.ownsRow B 36 7 (.slice (some ⟨gm, 0, none⟩) n c) (swapL l k).length (xchR css k true true).flatten := by rw [swap_length, hn]; exact ho
 refine own_list (xchR_all h7 (by omega) true true) ho2 ?_ (fun g hg => by
  simp [Value.ownBlock] at hg
  subst hg
  exact hQ)
 rw [hrow]
 exact rel_set (by simp [hl]) (rel_set hl h k (hE (k + 1) hk)) (k + 1) (hE k (by omega))
theorem own_some {w : World} {B n c : Nat} {T : TypeId} {A : Option Addr} {xs : List Value} {size : Nat} (h : w.ownsRow B T size (.slice A n c) n xs) (hn : 0 < n) : ∃ gm, A = some ⟨gm, 0, none⟩ ∧ B ≤ gm ∧ gm < w.heap.size := by
 rcases h.2 with ⟨e, h0⟩ | ⟨g, cap, cur, e, h1, h2, _⟩
 · omega
 · simp only [Value.slice.injEq] at e
   exact ⟨g, e.1, h1, blk_lt h2⟩
end Go.Proofs.Ytekelchdbkjjjaa
