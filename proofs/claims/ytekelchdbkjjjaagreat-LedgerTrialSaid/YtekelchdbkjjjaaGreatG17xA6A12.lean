/- A range over a function whose loop variable is a struct: boxed ahead of each round. -/
import Derived.Test.YtekelchdbkjjjaaGreatG17xB0B2
import Derived.Test.YtekelchdbkjjjaaGreatG17xB3B8
import Derived.Test.YtekelchdbkjjjaaGreatG17xB9B13
import Derived.Test.YtekelchdbkjjjaaGreatG17xB14
import Derived.Test.YtekelchdbkjjjaaGreatG17xB16
import Derived.Test.YtekelchdbkjjjaaGreatG17xB17B24
import Derived.Test.YtekelchdbkjjjaaGreatG17xB25B28
import Derived.Test.YtekelchdbkjjjaaGreatG17xB29B32
import Derived.Test.YtekelchdbkjjjaaGreatG17xB33S2
import Derived.Test.YtekelchdbkjjjaaGreatG17xS3C3
import Derived.Test.YtekelchdbkjjjaaGreatG17xC4E3
import Derived.Test.YtekelchdbkjjjaaGreatG17xE4E5
import Derived.Test.YtekelchdbkjjjaaGreatG17xE6F1
import Derived.Test.YtekelchdbkjjjaaGreatG17xF2I7
import Derived.Test.YtekelchdbkjjjaaGreatG17xI8I11
import Derived.Test.YtekelchdbkjjjaaGreatG17xI12
import Derived.Test.YtekelchdbkjjjaaGreatG17xI13I15
import Derived.Test.YtekelchdbkjjjaaGreatG17xI16
import Derived.Test.YtekelchdbkjjjaaGreatG17xI19Q2
import Derived.Test.YtekelchdbkjjjaaGreatG17xK1A5
import Derived.RangeFuncWrites
import Derived.Test.YtekelchdbkjjjaaGreatProg
import Derived.Sort.CutIn
import Derived.Great.BuildSlice
set_option linter.unusedVariables false
set_option linter.unusedSimpArgs false
set_option maxRecDepth 4000
attribute [local go_sem ↓] Go.wp_at_zero Go.wp_at_succ
namespace Go.Proofs.YtekelchdbkjjjaaGreat
open Go Go.RowKit Go.Shelf
theorem wpIn_rangeBox {F : Fence} {n : Nat} {P : Program} {α : Type} {g : Operand} {ps : Array Tmp} {assign body : Code} {Q : Exit → Act → World → Prop} {a : Act} {w : World}
 (hro : F.round = none) (h1 : 1 ≤ n) {gf : Nat} {lb : Array Value} (hg : a.eval g = .func (.func gf) #[] lb) (hFg : F.fn gf) (eg : ∀ args w, (callFunc gf args).run P w = .ok (.enter gf args) w)
 {encs : α → Array Value} {Kp : World → World → Prop} {S : List α → Prop} {Sp : List α → Prop} {N : Nat} {w0 : World} (hseq : SeqStopsK F (n - 1) P gf lb encs Kp S Sp N w0)
 (hKt : ∀ {A B C : World}, Kp A B → Kp B C → Kp A C) (hKb : ∀ (W : World) (l : Nat) (o o' : Obj), w.heap.size ≤ l → W.heap[l]? = some o → o.isCells = false → o.isWalk = false → Kp W (W.putObj l o')) (hKg : ∀ W W' : World, w.heap.size ≤ W.heap.size → W.grownBy W' none → Kp W W') (hb0 : Below w0.heap.size w0 w) (hps : ∀ x, (encs x).size = ps.size)
 (I : List α → World → Prop) (hI : OwnFrom w.heap.size I) (h0 : I [] w) (bx : α → Array Value) (T : TypeId) (a₁ : α → Nat → Act)
 (hassign : ∀ (l : Nat) (x : α) (W : World) (K : Act → World → Prop), (∀ W' : World, W.grownBy W' none → W'.heap[W.heap.size]? = some (.cells (bx x) T (0, 0)) → K (a₁ x W.heap.size) W') →
  assign.wpIn (F.inRound l) (n - 1 - 1) P (Exit.then K (fun _ _ _ => False)) { tmps := (ps.zip (encs x)).foldl (fun t (p, v) => t.setIfInBounds p v) a.tmps, defers := [] } W)
 (hbody : ∀ (l : Nat) (pre : List α) (x : α) (b : Nat) (W : World), I pre W → pre.length < N → w.heap.size ≤ b → W.heap[b]? = some (.cells (bx x) T (0, 0)) → body.wpIn (F.inRound l) (n - 1 - 1) P (ownPostG w.heap.size Kp I (fun _ _ _ => False) (pre ++ [x]) W) (a₁ x b) W)
 (hdone : ∀ (D : Nat) (xs : List α) (W : World), w.heap.size ≤ D → S xs → I xs W → W.heap[D]? = some (.deferred (some [])) → Q .normal { a with defers := { target := .collected D, args := #[] } :: a.defers } W) :
 (Code.rangeFunc g ps assign body).wpIn F n P Q a w := by
 refine wpIn_rangeFunc ?_
 intro fn hfn
 rw [hro]
 obtain ⟨rec, hrec⟩ : ∃ rec : LoopState → Option Code → Loop, rec = fun st pe => { state := st, pending := pe, fn, tmps := a.tmps, params := ps, assign, body, defers := w.heap.size } := ⟨_, rfl⟩
 obtain ⟨W1, hW1⟩ : ∃ W1, (w.alloc (.deferred (some []))).alloc (.loop (rec .ready none)) = W1 := ⟨_, rfl⟩
 have hsz1 : W1.heap.size = w.heap.size + 2 := by rw [← hW1]; simp
 have hL1 : W1.heap[w.heap.size + 1]? = some (.loop (rec .ready none)) := by
  rw [← hW1]; have := World.alloc_heap_new (w.alloc (.deferred (some []))) (.loop (rec .ready none)); rwa [World.size_alloc] at this
 have hK1 : W1.heap[w.heap.size]? = some (.deferred (some [])) := by
  rw [← hW1]; exact (Below.heap_alloc _ _ _ (by simp)).trans (World.alloc_heap_new w _)
 have hI1 : I [] W1 := by rw [← hW1]; exact hI.alloc _ (hI.alloc _ h0)
 have hb1 : Below w0.heap.size w0 W1 := by
  rw [← hW1]; exact hb0.trans ((((Below.refl _ w).alloc (Nat.le_refl _) _).alloc (by simp) _).mono hb0.size)
 refine ⟨w.heap.size + 1, [{ target := .collected w.heap.size, args := #[] }], W1, { target := .fn (.func gf) lb, args := #[.func (.yield (w.heap.size + 1)) #[] #[]] }, W1, gf,
  #[.func (.yield (w.heap.size + 1)) #[] #[]] ++ lb, W1, ?_, ?_, ?_, ?_, fun _ => h1, ?_⟩
 · rw [← hW1, hrec]; exact run_enterLoop_outer _ _ _ _ _
 · simp only [resolve, hg]
   simp [go_sem]
 · intro f' hf'; simp [Target.leads] at hf'; subst hf'; exact hFg
 · simp [invoke, go_sem, eg]
 have hnw : ∀ {A : World} {row : Option Nat}, (∀ r, row = some r → W1.heap.size ≤ r ∧ ∃ o : Obj, A.heap[r]? = some o ∧ o.isWalk = true) → (∀ r, row = some r → w.heap.size ≤ r ∧ ∃ o : Obj, A.heap[r]? = some o ∧ o.isCells = false) :=
  fun hr r e => by obtain ⟨hB, o, ho, hw⟩ := hr r e; exact ⟨by omega, o, ho, Obj.not_cells_of_walk hw⟩
 refine (hseq (w.heap.size + 1) (fun pre W => I pre W ∧ W.heap[w.heap.size + 1]? = some (.loop (rec .ready none)) ∧ W.heap[w.heap.size]? = some (.deferred (some []))) (fun _ _ => False) W1 hb1
  (fun s A B row hs hg' hr => ⟨hI s A B row hs.1 hg' (hnw hr), (grownBy_keeps hg' (fun r e => (hr r e).2) hs.2.1 rfl).trans hs.2.1, (grownBy_keeps hg' (fun r e => (hr r e).2) hs.2.2 rfl).trans hs.2.2⟩)
  (fun _ _ _ _ hs _ _ => hs) ?_ ⟨hI1, hL1, hK1⟩).mono ?_
 · rintro pre x W ⟨hi, hl, hk⟩ hlen
   have hlt : w.heap.size + 1 < W.heap.size := (Array.getElem?_eq_some_iff.1 hl).1
   have hy := run_yield (P := P) (args := encs x) hl (by rw [hrec]; exact hps x)
   rw [hrec] at hy
   refine ⟨fn, _, assign, body, hy, roundIn_of_wpIn hfn (hassign _ x W _ (fun W' hgr hbx => ?_))⟩
   have hl' : W'.heap[w.heap.size + 1]? = some (.loop (rec .ready none)) := (hgr.block _ hlt (by simp)).trans hl
   have hk' : W'.heap[w.heap.size]? = some (.deferred (some [])) := (hgr.block _ (by omega) (by simp)).trans hk
   have hi' : I pre W' := hI pre W W' none hi hgr (fun r e => by cases e)
   have hlt' : w.heap.size + 1 < W'.heap.size := (Array.getElem?_eq_some_iff.1 hl').1
   have hw1 : Kp W W' := hKg W W' (by omega) hgr
   refine ⟨_, run_beginRound hl' (by rw [hrec]), ?_⟩
   have hl2 : (W'.putObj (w.heap.size + 1) (.loop { rec .ready none with state := .busy })).heap[w.heap.size + 1]? = some (.loop { rec .ready none with state := .busy }) := World.putObj_heap_same hlt'
   have hk2 : (W'.putObj (w.heap.size + 1) (.loop { rec .ready none with state := .busy })).heap[w.heap.size]? = some (.deferred (some [])) := (World.putObj_heap_other (by omega)).trans hk'
   have hbx2 : (W'.putObj (w.heap.size + 1) (.loop { rec .ready none with state := .busy })).heap[W.heap.size]? = some (.cells (bx x) T (0, 0)) := (World.putObj_heap_other (by omega)).trans hbx
   have hw2 : Kp W (W'.putObj (w.heap.size + 1) (.loop { rec .ready none with state := .busy })) := hKt hw1 (hKb _ _ _ _ (by omega) hl' rfl rfl)
   refine wpIn_mono (hbody _ pre x W.heap.size _ (hI.putObj _ hi' (by omega) hl' rfl) hlen (by omega) hbx2) ?_
   rintro e a3 W3 hp
   cases e with
   | normal =>
    obtain ⟨hk3, hkp3, hi3⟩ := hp
    have hl3 := hk3.same _ _ (by omega) hl2 rfl
    have hr := run_endRound (P := P) none hl3
    rw [hrec] at hr hl3
    have hl4 : (W3.putObj (w.heap.size + 1) (.loop (rec .ready none))).heap[w.heap.size + 1]? = some (.loop (rec .ready none)) := World.putObj_heap_same (Array.getElem?_eq_some_iff.1 hl3).1
    rw [hrec] at hl4 ⊢
    exact ⟨_, _, hr, .inl ⟨rfl, ⟨hI.putObj _ hi3 (by omega) hl3 rfl, hl4, (World.putObj_heap_other (by omega)).trans (hk3.same _ _ (Nat.le_refl _) hk2 rfl)⟩, hKt (hKt hw2 hkp3) (hKb _ _ _ _ (by omega) hl3 rfl rfl)⟩⟩
   | ret => exact hp.2.elim
   | exit id => exact hp.2.elim
   | goto t => exact hp.2.elim
   | panic ch => exact hp.elim
   | outgrown => exact hp.elim
 · rintro e W2 ⟨⟨v, rfl⟩, (⟨xs, hS, hi, hl, hk⟩ | ⟨pre, hSp, hf⟩)⟩
   · exact ⟨none, _, by have := run_endLoop (P := P) hl (by rw [hrec]; simp); rw [hrec] at this; exact this, hdone _ xs _ (Nat.le_refl _) hS (hI.putObj _ hi (by omega) hl rfl) ((World.putObj_heap_other (by omega)).trans hk)⟩
   · exact hf.elim
attribute [local go_sem] Oper.semAt_some
def lineOk (_ : Int) (y : XLine) : Prop := y.amount.natAbs ≤ 1125899906842624 ∧ 1 ≤ y.account ∧ y.account ≤ 99999
theorem sumPd_abs (p : Int → Int → Bool) (acc : Int) : ∀ l : List (DL lineOk), (sumPd p acc (l.map (·.1))).natAbs ≤ l.length * 1125899906842624
 | [] => by simp [sumPd]
 | z :: l => by
  have h := sumPd_abs p acc l
  have h2 : sumPd p acc ((z :: l).map (·.1)) = (if z.1.2.account = acc ∧ p z.1.1 z.1.2.amount = true then z.1.2.amount else 0) + sumPd p acc (l.map (·.1)) := by simp [sumPd]
  have h3 := z.2.1
  rw [h2, List.length_cons]
  split <;> omega
theorem sumPd_next (p : Int → Int → Bool) (acc : Int) (l : List (DL lineOk)) (z : DL lineOk) : sumPd p acc ((l ++ [z]).map (·.1)) = sumPd p acc (l.map (·.1)) + (if z.1.2.account = acc ∧ p z.1.1 z.1.2.amount = true then z.1.2.amount else 0) := by
 rw [List.map_append]
 exact sumPd_snoc p acc _ _
theorem keepN_own {β : Type} {n₀ B : Nat} {T : Nat → Prop} {w0 : World} (hn : n₀ ≤ w0.heap.size) (hB : n₀ ≤ B) : OwnFrom B (fun (_ : β) W => KeepN n₀ T w0 W) := fun _ W W' row hs hg hr =>
 ⟨hs.1.grown hg (Nat.le_trans hn hs.1.size) (fun k e => Nat.le_trans hB (hr k e).1), fun k o hk ho hc => by
  have h1 := hs.2 k o hk ho hc
  refine (hg.block k (Array.getElem?_eq_some_iff.1 h1).1 (fun e => ?_)).trans h1
  obtain ⟨_, o2, h2, h3⟩ := hr k e.symm
  rw [h1] at h2
  cases h2
  rw [hc] at h3
  cases h3⟩
theorem cells_own {β : Type} {B b : Nat} {f : β → Array Value} {t : TypeId} : OwnFrom B (fun (s : β) W => W.heap[b]? = some (.cells (f s) t (0, 0))) := fun s W W' row hs hg hr => by
 refine (hg.block b (Array.getElem?_eq_some_iff.1 hs).1 (fun e => ?_)).trans hs
 obtain ⟨_, o2, h2, h3⟩ := hr b e.symm
 rw [hs] at h2
 cases h2
 cases h3
theorem KeepN.set {n₀ : Nat} {W : World} {b : Nat} {cs : Array Value} {t : TypeId} {fr : Nat × Nat} {j : Nat} {v : Value} (h : W.heap[b]? = some (.cells cs t fr)) {b' : Nat} (hb : b' = b) (hn : n₀ ≤ b) : KeepN n₀ (fun q => q = b) W (W.setCell ⟨b', j, none⟩ v) := by
 subst hb
 exact ⟨(Below.refl _ _).setCell (p := ⟨b', j, none⟩) hn _, fun k o hk ho _ => (Below.heap_setCell W ⟨b', j, none⟩ _ k hk).trans ho⟩
def HoldsC (F : Fence) (n : Nat) (w : World) (h : Nat) (hb : Array Value) (p : Int → Int → Bool) : Prop := ∀ (t m : Int) (W : World), Below w.heap.size w W → CallsIn F n Tryz.prog h (#[.int .i64 t, .int .i64 m] ++ hb) W fun e W' => e = .returned (.bool (p t m)) ∧ W' = W
theorem lines_in (F : Fence) (m : Nat) (hF : F.fn 30) (hro : F.round = none) (A : Option Addr) (n c : Nat) (ent d : Int) (w : World) : CallsIn F m Tryz.prog 30 #[.slice A n c, .int .i64 ent, .int .i64 d] w (fun e w' => e = .returned (.func (.func 57) #[] #[.pointer (some ⟨w.heap.size, 0, none⟩), .pointer (some ⟨w.heap.size + 1, 0, none⟩), .pointer (some ⟨w.heap.size + 1 + 1, 0, none⟩)]) ∧ w' = ((w.alloc (.cells #[.slice A n c] 30)).alloc (.cells #[.int .i64 ent] 3)).alloc (.cells #[.int .i64 d] 3)) := by
 refine callsIn_of_wp Tryz.func30 rfl hF ?_ hro
 simp only [Tryz.ntmps30, List.size_toArray, List.length_cons, List.length_nil, Nat.reduceAdd, Nat.reduceSub, Array.replicate_succ, Array.replicate_zero, List.push_toArray, List.append_toArray, List.nil_append, List.cons_append]
 gi_wp2_with fail
 go_ret
 exact ⟨rfl, rfl⟩
set_option maxRecDepth 100000 in
set_option maxHeartbeats 4000000 in
theorem bsum_in (F : Fence) (m : Nat) (hF : F.fn 52) (hL : F.fn 30) (hL1 : F.fn 57) (h : Nat) (hb : Array Value) (hFh : F.fn h) (eh : ∀ args w, (callFunc h args).run Tryz.prog w = .ok (.enter h args) w) (hro : F.round = none) (hm : 4 ≤ m)
 (es : List XEntry) (A : Option Addr) (c : Nat) (ent acc d : Int) (BK : Array Value) (p : Int → Int → Bool) (w : World) (h21 : BK[21]? = some (.slice A es.length c)) (h22 : BK[22]? = some (.int .i64 ent))
 (hl : ListC EntryC 7 w (· < w.heap.size) [.slice A es.length c] es) (hln : ∀ x ∈ es, x.lines.length ≤ 100000) (hes : es.length ≤ 100000) (hp : ∀ x ∈ es, x.entity = ent → x.date ≤ d → ∀ y ∈ x.lines, lineOk x.date y) (hN0 : (linesD es ent d).length ≤ 4000) (hH : HoldsC F (m - 1 - 1 - 1) w h hb p) :
 CallsIn F m Tryz.prog 52 #[.agg BK, .int .i64 acc, .int .i64 d, .func (.func h) #[] hb] w fun e W' => e = .returned (.int .i64 (sumPd p acc (linesD es ent d))) ∧ Below w.heap.size w W' := by
 have h1 : 1 ≤ m := by omega
 have hm2 : 1 ≤ m - 1 - 1 := by omega
 have HL := Lib.hid hl
 have HLN := Lib.hid hln
 have HES := Lib.hid hes
 have HPP := Lib.hid hp
 have HN0 := Lib.hid hN0
 have HH := Lib.hid hH
 have H21 := Lib.hid h21
 have H22 := Lib.hid h22
 obtain ⟨N, hN⟩ : ∃ N, es.length = N := ⟨_, rfl⟩
 have HN := Lib.hid hN
 rw [hN] at H21
 clear hl hln hes hp hN0 hH h21 h22 hN
 refine callsIn_of_wp_marks Tryz.func52 rfl hF ?_ hro
 simp only [Tryz.ntmps52, List.size_toArray, List.length_cons, List.length_nil, Nat.reduceAdd, Nat.reduceSub, Array.replicate_succ, Array.replicate_zero, List.push_toArray, List.append_toArray, List.nil_append, List.cons_append]
 gi_upto_region 2 with fail
 obtain ⟨W4, hW4⟩ : ∃ W4, (((w.alloc (Obj.cells BK 79)).alloc (Obj.cells #[.int .i64 acc] 3)).alloc (Obj.cells #[.func (.func h) #[] hb] 60)).alloc (Obj.cells #[.int .i64 0] 3) = W4 := ⟨_, rfl⟩
 rw [hW4]
 have e0 : W4.heap[w.heap.size]? = some (.cells BK 79 (0, 0)) := by rw [← hW4]; exact alloc_keep (alloc_keep (alloc_keep (heap_alloc_new w _) _) _) _
 have e1 : W4.heap[w.heap.size + 1]? = some (.cells #[.int .i64 acc] 3 (0, 0)) := by
  rw [← hW4]
  refine alloc_keep (alloc_keep ?_ _) _
  have := heap_alloc_new (w.alloc (Obj.cells BK 79)) (Obj.cells #[.int .i64 acc] 3)
  rwa [World.size_alloc] at this
 have e2 : W4.heap[w.heap.size + 1 + 1]? = some (.cells #[.func (.func h) #[] hb] 60 (0, 0)) := by
  rw [← hW4]
  refine alloc_keep ?_ _
  have := heap_alloc_new ((w.alloc (Obj.cells BK 79)).alloc (Obj.cells #[.int .i64 acc] 3)) (Obj.cells #[.func (.func h) #[] hb] 60)
  rwa [World.size_alloc, World.size_alloc] at this
 have e3 : W4.heap[w.heap.size + 1 + 1 + 1]? = some (.cells #[.int .i64 0] 3 (0, 0)) := by
  rw [← hW4]
  have := heap_alloc_new (((w.alloc (Obj.cells BK 79)).alloc (Obj.cells #[.int .i64 acc] 3)).alloc (Obj.cells #[.func (.func h) #[] hb] 60)) (Obj.cells #[.int .i64 0] 3)
  rwa [World.size_alloc, World.size_alloc, World.size_alloc] at this
 have hs4 : W4.heap.size = w.heap.size + 4 := by rw [← hW4]; simp
 have hb4 : Below w.heap.size w W4 := by rw [← hW4]; exact ((((Below.refl _ w).alloc (Nat.le_refl _) _).alloc (by simp) _).alloc (by simp; omega) _).alloc (by simp; omega) _
 clear hW4
 have c21 := (blk_cell e0 21).trans H21.out
 have c22 := (blk_cell e0 22).trans H22.out
 have E1 := Lib.hid e1
 have E2 := Lib.hid e2
 have E3 := Lib.hid e3
 have HS4 := Lib.hid hs4
 have HB4 := Lib.hid hb4
 clear e0 e1 e2 e3 hs4 hb4
 gi_wp2_with (gi_at_call 30; refine (lines_in F (m - 1) hL hro _ N c ent d W4).mono ?_; rintro e w' ⟨rfl, rfl⟩)
 obtain ⟨W7, hW7⟩ : ∃ W7, ((W4.alloc (.cells #[.slice A N c] 30)).alloc (.cells #[.int .i64 ent] 3)).alloc (.cells #[.int .i64 d] 3) = W7 := ⟨_, rfl⟩
 rw [hW7]
 have HL0 := Lib.hid (show ¬ (W4.heap.size = w.heap.size + 3) ∧ W7.heap[W4.heap.size]? = some (.cells #[.slice A es.length c] 30 (0, 0)) from ⟨by have := HS4.out; omega, by rw [← hW7, HN.out]; exact alloc_keep (alloc_keep (heap_alloc_new W4 _) _) _⟩)
 have HL1 := Lib.hid (show ¬ (W4.heap.size + 1 = w.heap.size + 3) ∧ W7.heap[W4.heap.size + 1]? = some (.cells #[.int .i64 ent] 3 (0, 0)) from ⟨by have := HS4.out; omega, by
  rw [← hW7]
  refine alloc_keep ?_ _
  have := heap_alloc_new (W4.alloc (.cells #[.slice A N c] 30)) (.cells #[.int .i64 ent] 3)
  rwa [World.size_alloc] at this⟩)
 have HL2 := Lib.hid (show ¬ (W4.heap.size + 1 + 1 = w.heap.size + 3) ∧ W7.heap[W4.heap.size + 1 + 1]? = some (.cells #[.int .i64 d] 3 (0, 0)) from ⟨by have := HS4.out; omega, by
  rw [← hW7]
  have := heap_alloc_new ((W4.alloc (.cells #[.slice A N c] 30)).alloc (.cells #[.int .i64 ent] 3)) (.cells #[.int .i64 d] 3)
  rwa [World.size_alloc, World.size_alloc] at this⟩)
 have HS7 := Lib.hid (show W7.heap.size = w.heap.size + 7 by rw [← hW7]; have := HS4.out; simp; omega)
 have hb47 : Below W4.heap.size W4 W7 := by rw [← hW7]; exact (((Below.refl _ W4).alloc (Nat.le_refl _) _).alloc (by simp) _).alloc (by simp; omega) _
 have HB7 := Lib.hid (HB4.out.trans (hb47.mono HB4.out.size))
 have F1 := Lib.hid ((hb47.block _ (blk_lt E1.out)).trans E1.out)
 have F2 := Lib.hid ((hb47.block _ (blk_lt E2.out)).trans E2.out)
 have F3 := Lib.hid ((hb47.block _ (blk_lt E3.out)).trans E3.out)
 have HLE := Lib.hid (show ListC EntryC 7 W7 (· < w.heap.size) [.slice A es.length c] es from HL.out.fr (fun h => EntryC.fr h (Fr.ofBelow HB7.out)) (Fr.ofBelow HB7.out))
 clear hb47 hW7 c21 c22 E1 E2 E3
 have HSQ := Lib.hid (lines_gives F (m - 1) hL1 hro (by omega) W4.heap.size (W4.heap.size + 1) (W4.heap.size + 1 + 1) w.heap.size (fun q => q = w.heap.size + 3) es A c ent d lineOk 4000 W7 (by have := HS7.out; omega) (fun q hq => by have := HS7.out; omega) HL0.out HL1.out HL2.out HLE.out HLN.out HES.out HPP.out HN0.out)
 refine wpIn_rangeBox hro h1 (gf := 57) (lb := #[.pointer (some ⟨W4.heap.size, 0, none⟩), .pointer (some ⟨W4.heap.size + 1, 0, none⟩), .pointer (some ⟨W4.heap.size + 1 + 1, 0, none⟩)]) rfl hL1 (enters_of Tryz.func57 (by kernel_rfl) rfl) HSQ.out (fun h k => h.trans k) (fun W l o o' hl ho hc hw => KeepN.putObj (w := W7) (by have := HS7.out; omega) W l o o' hl ho hc hw) (fun W W' hW hg => KeepN.grown hg (by have := HS7.out; omega)) (Below.refl _ _) (fun _ => rfl)
  (fun pre W => KeepN w.heap.size (fun q => q = w.heap.size + 3) W7 W ∧ W.heap[w.heap.size + 3]? = some (.cells #[.int .i64 (sumPd p acc (pre.map (·.1)))] 3 (0, 0)))
  (OwnFrom.and (keepN_own (by have := HS7.out; omega) (by have := HS7.out; omega)) cells_own) ⟨KeepN.refl _, F3.out⟩ (fun x => (lineL x.1.2).toArray) 76 (fun x b => { tmps := #[.agg BK, .int .i64 acc, .int .i64 d, .func (.func h) #[] hb, .pointer (some ⟨w.heap.size, 0, none⟩), .pointer (some ⟨w.heap.size + 1, 0, none⟩), undef, .pointer (some ⟨w.heap.size + 1 + 1, 0, none⟩), .int .i64 0, .pointer (some ⟨w.heap.size + 1 + 1 + 1, 0, none⟩), .int .i64 x.1.1, .pointer (some ⟨b, 0, none⟩), .pointer (some ⟨w.heap.size, 21, none⟩), .slice A N c, .pointer (some ⟨w.heap.size, 22, none⟩), .int .i64 ent, .int .i64 d, .func (.func 57) #[] #[.pointer (some ⟨W4.heap.size, 0, none⟩), .pointer (some ⟨W4.heap.size + 1, 0, none⟩), .pointer (some ⟨W4.heap.size + 1 + 1, 0, none⟩)], .int .i64 x.1.1, .agg (lineL x.1.2).toArray, undef, undef, undef, undef, undef, undef, undef, undef, undef, undef, undef, undef, undef, undef, undef, undef], defers := [] }) ?assign ?body ?done
 case assign =>
  rintro l ⟨⟨t, la, lm, lp⟩, hx⟩ W K hK
  have HK := Lib.hid hK
  clear hK
  simp only [encDL, lineL]
  gi_wp2_with (show wpListIn _ _ _ _ _ (Oper.mk none (Op.store _ (Operand.tmp 11) _) _ _ _ _ :: _) _ _; refine wpListIn_store_fresh rfl 76 (.tmp 11) (.tmp 19) rfl rfl W #[.int .i64 0, .int .i64 0, .int .i64 0] 76 #[.int .i64 la, .int .i64 lm, .int .i64 lp] rfl rfl rfl info_line rfl (by simp [Value.oneCell']) ?_; intro w4 H4 HG4 HS4)
  exact HK.out w4 HG4 H4
 case body =>
  rintro l pre ⟨⟨t, la, lm, lp⟩, hx⟩ b W ⟨hK, hNB⟩ hlen hbW hbx
  obtain ⟨s, hs⟩ : ∃ s, sumPd p acc (pre.map (·.1)) = s := ⟨_, rfl⟩
  have HNX := Lib.hid (sumPd_next p acc pre ⟨(t, ⟨la, lm, lp⟩), hx⟩)
  have hsb := sumPd_abs p acc pre
  simp only [hs] at HNX hsb hNB
  have hxb : lm.natAbs ≤ 1125899906842624 := hx.1
  have hsb2 : s.natAbs ≤ 4000 * 1125899906842624 := Nat.le_trans hsb (Nat.mul_le_mul_right _ (by omega))
  have hr1 : -9223372036854775808 ≤ s + lm := by omega
  have hr2 : s + lm ≤ 9223372036854775807 := by omega
  have x0 := blk_cell hbx 0
  have x1 := blk_cell hbx 1
  have a0 := blk_cell (hK.cells (by omega) F1.out) 0
  have k0 := blk_cell (hK.cells (by omega) F2.out) 0
  have n0 := blk_cell hNB 0
  have n1 := blk_frozen hNB 0
  have HHW := Lib.hid (HH.out t lm W (HB7.out.trans (hK.1.mono (Nat.le_refl _))))
  have HKW := Lib.hid hK
  have HNB := Lib.hid hNB
  clear hsb hsb2 hxb hs hK hNB hbx
  have e3 : (w.heap.size + 1 + 1 + 1 : Nat) = w.heap.size + 3 := rfl
  by_cases hla : la = acc
  case neg =>
   have hlb : (la == acc) = false := by simpa using hla
   have HNX2 := Lib.hid (show sumPd p acc ((pre ++ [(⟨(t, ⟨la, lm, lp⟩), hx⟩ : DL lineOk)]).map (fun z : DL lineOk => z.1)) = s by rw [HNX.out, if_neg (fun h => hla h.1)]; omega)
   clear hla
   simp only [lineL]
   gi_wp2_with (with_reducible refine And.intro (fun f hf => by cases hf) ?_)
   exact ⟨KeepsFrom.refl _ _, KeepN.refl _, HKW.out, by rw [HNX2.out]; exact HNB.out⟩
  case pos =>
   have hlb : (la == acc) = true := by simpa using hla
   obtain ⟨q, hq⟩ : ∃ q, p t lm = q := ⟨_, rfl⟩
   rw [hq] at HHW
   cases q with
   | false =>
    have HNX2 := Lib.hid (show sumPd p acc ((pre ++ [(⟨(t, ⟨la, lm, lp⟩), hx⟩ : DL lineOk)]).map (fun z : DL lineOk => z.1)) = s by rw [HNX.out, if_neg (fun h => by rw [hq] at h; cases h.2)]; omega)
    clear hla hq
    simp only [lineL]
    gi_wp2_with (first | (with_reducible refine And.intro (fun f hf => by cases hf) ?_) | (gi_at_fn h; refine (CallsIn.inRound l HHW.out).mono ?_; rintro e w' ⟨rfl, rfl⟩))
    exact ⟨KeepsFrom.refl _ _, KeepN.refl _, HKW.out, by rw [HNX2.out]; exact HNB.out⟩
   | true =>
    have HNX2 := Lib.hid (show sumPd p acc ((pre ++ [(⟨(t, ⟨la, lm, lp⟩), hx⟩ : DL lineOk)]).map (fun z : DL lineOk => z.1)) = s + lm by rw [HNX.out, if_pos ⟨hla, hq⟩])
    clear hla hq
    simp only [lineL]
    gi_wp2_with (first | (with_reducible refine And.intro (fun f hf => by cases hf) ?_) | (gi_at_fn h; refine (CallsIn.inRound l HHW.out).mono ?_; rintro e w' ⟨rfl, rfl⟩))
    exact ⟨(KeepsOthers.setCell _ _ _).from _, KeepN.set HNB.out rfl (by omega), HKW.out.trans (KeepN.set HNB.out rfl (by omega)), by rw [HNX2.out]; exact heap_setCell_same HNB.out 0 _⟩
 case done =>
  rintro D ys W hD hys ⟨hK, hNB⟩ hD2
  have n0 := blk_cell hNB 0
  rw [hys] at n0
  have HKW := Lib.hid hK
  have HHD := Lib.hid hD2
  clear hK hNB hys
  gi_wp2_with fail
  refine ⟨by simp, .inl ⟨_, _, rfl, run_takeDeferred HHD.out, ?_⟩⟩
  exact ⟨_, results_tmp rfl _ _ _, rfl, (HB7.out.trans (HKW.out.1.mono (Nat.le_refl _))).trans (belowK_b (w := w) (Nat.le_refl _) W D _ _ (by have := HS7.out; omega) HHD.out rfl rfl)⟩
end Go.Proofs.YtekelchdbkjjjaaGreat
namespace Go.Proofs.YtekelchdbkjjjaaGreat
open Go Go.RowKit
def chartE (g : XGroup) (ent : Int) : List XAccount := (g.entities.getD ent.toNat {}).chart
def chkR (g : XGroup) (ent period acc : Int) (ch : Bool) : Int :=
 if ent < 0 ∨ (g.entities.length : Int) ≤ ent then 2 else if period ≠ -4611686018427387904 ∧ (calFirst g.calendar.year g.calendar.month g.calendar.periods period).2 ≠ 0 then 2 else if ch = true ∧ (findA (chartE g ent) acc).isSome = false then 17 else 0
def BChk (g : XGroup) (l : List XEntry) (ent period acc : Int) (ch : Bool) (r : Int) : Prop := (¬ validJ g l ∧ r = 1) ∨ (validJ g l ∧ r = chkR g ent period acc ch)
def BChkPost (g : XGroup) (l : List XEntry) (ent period acc : Int) (ch : Bool) (w : World) (e : Ending) (w' : World) : Prop := ∃ r, e = .returned (.int .i64 r) ∧ BChk g l ent period acc ch r ∧ Below w.heap.size w w'
theorem chk_ent {g : XGroup} {l : List XEntry} {ent period acc : Int} {ch : Bool} (hv : validJ g l) (h : ent < 0 ∨ (g.entities.length : Int) ≤ ent) : BChk g l ent period acc ch 2 := .inr ⟨hv, by unfold chkR; rw [if_pos h]⟩
theorem chk_per {g : XGroup} {l : List XEntry} {ent period acc : Int} {ch : Bool} (hv : validJ g l) (h : ¬ (ent < 0 ∨ (g.entities.length : Int) ≤ ent)) (h2 : period ≠ -4611686018427387904) (h3 : (calFirst g.calendar.year g.calendar.month g.calendar.periods period).2 ≠ 0) : BChk g l ent period acc ch 2 := .inr ⟨hv, by unfold chkR; rw [if_neg h, if_pos ⟨h2, h3⟩]⟩
theorem chk_acc {g : XGroup} {l : List XEntry} {ent period acc : Int} {ch : Bool} (hv : validJ g l) (h : ¬ (ent < 0 ∨ (g.entities.length : Int) ≤ ent)) (h2 : ¬ (period ≠ -4611686018427387904 ∧ (calFirst g.calendar.year g.calendar.month g.calendar.periods period).2 ≠ 0)) (h3 : ch = true) (h4 : (findA (chartE g ent) acc).isSome = false) : BChk g l ent period acc ch 17 := .inr ⟨hv, by unfold chkR; rw [if_neg h, if_neg h2, if_pos ⟨h3, h4⟩]⟩
theorem chk_ok {g : XGroup} {l : List XEntry} {ent period acc : Int} {ch : Bool} (hv : validJ g l) (h : ¬ (ent < 0 ∨ (g.entities.length : Int) ≤ ent)) (h2 : ¬ (period ≠ -4611686018427387904 ∧ (calFirst g.calendar.year g.calendar.month g.calendar.periods period).2 ≠ 0)) (h3 : ¬ (ch = true ∧ (findA (chartE g ent) acc).isSome = false)) : BChk g l ent period acc ch 0 := .inr ⟨hv, by unfold chkR; rw [if_neg h, if_neg h2, if_neg h3]⟩
theorem app_at {gl r : List Value} {i : Nat} {v : Value} (h : gl[i]? = some v) : (gl ++ r)[i]? = some v := by
 rw [List.getElem?_append_left (List.getElem?_eq_some_iff.1 h).1]; exact h
theorem bk_range {w : World} {b : Nat} {gl r : List Value} {T : TypeId} (h : w.heap[b]? = some (.cells (gl ++ r).toArray T (0, 0))) : w.rangeAt b 0 gl := fun j v hj => by
 have := blk_cell h (0 + j)
 rw [this, Nat.zero_add, List.getElem?_toArray]
 exact app_at hj
set_option maxHeartbeats 4000000 in
theorem bcheck_c (g : XGroup) (l : List XEntry) (gl : List Value) (A : Option Addr) (c : Nat) (ent period acc : Int) (ch : Bool) (w : World) (hg : GroupC w (· < w.heap.size) gl g) (hl : ListC EntryC 7 w (· < w.heap.size) [.slice A l.length c] l) (hsm : smallG g) (hmo : modest l) (hacc : intBd acc) :
 Calls Tryz.prog 29 #[.agg (gl ++ ([.slice A l.length c, .int .i64 ent] : List Value)).toArray, .int .i64 period, .int .i64 acc, .bool ch] w (BChkPost g l ent period acc ch w) := by
 have HJC := Lib.hid (fun (w2 : World) (hb : Below w.heap.size w w2) => jcheck_c g l gl A c w2 (hg.keep hb) (entries_keep hl hb) hsm hmo)
 have HGI := Lib.hid (show (Tryz.prog.info? 29).map (·.size) = some gl.length by rw [info_group, hg.len])
 obtain ⟨Ac, cc, Ae, ce, hl21, h20, _, h1, h2, h3, _, hen⟩ := hg.view
 have K1 := app_at (r := [.slice A l.length c, .int .i64 ent]) h1
 have K2 := app_at (r := [.slice A l.length c, .int .i64 ent]) h2
 have K3 := app_at (r := [.slice A l.length c, .int .i64 ent]) h3
 have K20 := app_at (r := [.slice A l.length c, .int .i64 ent]) h20
 have K21 : (gl ++ ([.slice A l.length c, .int .i64 ent] : List Value))[21]? = some (.slice A l.length c) := by rw [List.getElem?_append_right (by omega)]; simp [hl21]
 have K22 : (gl ++ ([.slice A l.length c, .int .i64 ent] : List Value))[22]? = some (.int .i64 ent) := by rw [List.getElem?_append_right (by omega)]; simp [hl21]
 have HEN := Lib.hid hen
 have HSM := Lib.hid hsm
 have HACC := Lib.hid hacc
 obtain ⟨n, hn⟩ : ∃ n, l.length = n := ⟨_, rfl⟩
 rw [hn] at HJC K1 K2 K3 K20 K21 K22 ⊢
 obtain ⟨ne, hne⟩ : ∃ n, g.entities.length = n := ⟨_, rfl⟩
 have HNE := Lib.hid hne
 rw [hne] at K20
 have hne1 : ne ≤ 1000 := by rw [← hne]; exact hsm.2.1
 obtain ⟨fp, hfp⟩ : ∃ p, calFirst g.calendar.year g.calendar.month g.calendar.periods period = p := ⟨_, rfl⟩
 have HFP := Lib.hid hfp
 have HCF := Lib.hid (fun w2 : World => calFirst_c g.calendar.year g.calendar.month g.calendar.periods period w2)
 rw [hfp] at HCF
 obtain ⟨p1, pe⟩ := fp
 obtain ⟨BL, hBL⟩ : ∃ BL, gl ++ ([.slice A n c, .int .i64 ent] : List Value) = BL := ⟨_, rfl⟩
 have HBL := Lib.hid hBL
 rw [hBL] at K1 K2 K3 K20 K21 K22 ⊢
 have K1 := Lib.hid K1
 have K2 := Lib.hid K2
 have K3 := Lib.hid K3
 have K20 := Lib.hid K20
 have K21 := Lib.hid K21
 have K22 := Lib.hid K22
 clear hg hl hsm hmo hacc h20 h1 h2 h3 hen hn hne hfp hBL hl21
 go_enter Tryz.func29, Tryz.ntmps29
 go_upto_region 1 with fail
 have H1 := heap_alloc_new w (.cells BL.toArray 79)
 have HB1 := below1 w (.cells BL.toArray 79)
 have HS1 := blk_lt H1
 generalize hW1 : w.alloc (Obj.cells BL.toArray 79) = W at *
 clear hW1
 have HK := Lib.hid H1
 have HB1h := Lib.hid HB1
 have HGR := Lib.hid (show W.rangeAt w.heap.size 0 gl from bk_range (r := [.slice A n c, .int .i64 ent]) (by rw [HBL.out]; exact H1))
 have c21 := (blk_cell H1 21).trans (show BL.toArray[21]? = some (.slice A n c) by rw [List.getElem?_toArray]; exact K21.out)
 clear H1
 go_wp2_with (show wpList _ _ _ (Oper.mk (some 17) _ _ _ _ _ :: _) _ _; refine wpList_load_mid rfl 29 (.tmp 16) rfl w.heap.size 0 rfl gl _ HGR.out Tryz.underlying29 rfl HGI.out ?_)
 refine (HJC.out W HB1).mono ?_
 rintro e w2 ⟨ji, jc, rfl, hv, hb2⟩
 have hb02 := HB1h.out.trans (hb2.mono HB1h.out.size)
 have HB02 := Lib.hid hb02
 have HK2 := Lib.hid ((hb2.block _ HS1).trans HK.out)
 have HV := Lib.hid hv
 clear hb2 hb02 hv c21
 by_cases hj0 : jc = 0
 case neg =>
  have hjb : (jc != 0) = true := by simpa using hj0
  have HNV := Lib.hid (show ¬ validJ g l from fun h => hj0 (HV.out.2 h))
  clear hj0
  go_wp2_with fail
  go_ret
  exact ⟨1, rfl, .inl ⟨HNV.out, rfl⟩, HB02.out⟩
 case pos =>
 have hjb : (jc != 0) = false := by simpa using hj0
 have HVA := Lib.hid (HV.out.1 hj0)
 clear hj0
 have c22 := (blk_cell HK2.out 22).trans (show BL.toArray[22]? = some (.int .i64 ent) by rw [List.getElem?_toArray]; exact K22.out)
 have c20 := (blk_cell HK2.out 20).trans (show BL.toArray[20]? = some (.slice Ae ne ce) by rw [List.getElem?_toArray]; exact K20.out)
 have HCR := Lib.hid (cal_range HK2.out K1.out K2.out K3.out)
 by_cases h1 : ent < 0
 case pos =>
  have h1d : decide (ent < 0) = true := decide_eq_true h1
  have HR := Lib.hid (chk_ent (period := period) (acc := acc) (ch := ch) HVA.out (.inl h1))
  clear h1
  go_wp2_with fail
  go_ret
  exact ⟨2, rfl, HR.out, HB02.out⟩
 case neg =>
 have h1d : decide (ent < 0) = false := decide_eq_false h1
 by_cases h2 : (ne : Int) ≤ ent
 case pos =>
  have h2d : decide (ent ≥ (ne : Int)) = true := decide_eq_true h2
  have h2e : decide ((ne : Int) ≤ ent) = true := decide_eq_true h2
  have HR := Lib.hid (chk_ent (period := period) (acc := acc) (ch := ch) HVA.out (.inr (by rw [HNE.out]; exact h2)))
  clear h1 h2
  go_wp2_with fail
  go_ret
  exact ⟨2, rfl, HR.out, HB02.out⟩
 case neg =>
 have h2d : decide (ent ≥ (ne : Int)) = false := decide_eq_false h2
 have h2e : decide ((ne : Int) ≤ ent) = false := decide_eq_false h2
 have HIN := Lib.hid (show ¬ (ent < 0 ∨ (g.entities.length : Int) ≤ ent) by rw [HNE.out]; omega)
 obtain ⟨q, rfl⟩ : ∃ q : Nat, ent = (q : Int) := ⟨ent.toNat, by omega⟩
 have hq : q < ne := by omega
 clear h1 h2
 have hqd : decide (ne ≤ q) = false := decide_eq_false (by omega)
 have hqe : q < g.entities.length := by rw [HNE.out]; exact hq
 obtain ⟨be, oe, es, hAe, hbe, hes, hat⟩ := ListC.get HEN.out q hqe
 subst hAe
 obtain ⟨Ec, c2, Al2, cl2, hes1, hch, hlk⟩ := EntityC.lit hes
 have hn2 := (HSM.out.2.2.2 _ (List.getElem_mem hqe)).1
 have hce : chartE g (q : Int) = g.entities[q].chart := by
  unfold chartE
  rw [Int.toNat_natCast, List.getD_eq_getElem?_getD, List.getElem?_eq_getElem hqe]; rfl
 obtain ⟨ec, hec⟩ : ∃ ec, g.entities[q].chart = ec := ⟨_, rfl⟩
 rw [hec] at hes1 hch hn2 hce
 obtain ⟨n2, hn2'⟩ : ∃ n, ec.length = n := ⟨_, rfl⟩
 rw [hn2'] at hes1
 subst hes1
 have HN2 := Lib.hid hn2'
 have HN3 := Lib.hid hn2
 have HCH := Lib.hid hch
 have HDE := Lib.hid (hat.c (j := 2) rfl)
 have HBE := Lib.hid hbe
 have HCE := Lib.hid hce
 obtain ⟨ao, hao⟩ : ∃ a, accO (findA ec acc) = a := ⟨_, rfl⟩
 obtain ⟨a1, a2, a3, a4⟩ := ao
 have HFO := Lib.hid hao
 obtain ⟨fs, hfs⟩ : ∃ s, (findA ec acc).isSome = s := ⟨_, rfl⟩
 have HFS := Lib.hid hfs
 have HFE := Lib.hid (show (findA (chartE g (q : Int)) acc).isSome = fs by rw [hce]; exact hfs)
 have hqI : (q : Int) < (ne : Int) := by omega
 clear hfs hao hn2' hn2 hch hat hbe hes hlk hec hce hqe
 by_cases hpn : period = -4611686018427387904
 case pos =>
  have HPN := Lib.hid (show ¬ (period ≠ -4611686018427387904 ∧ (calFirst g.calendar.year g.calendar.month g.calendar.periods period).2 ≠ 0) from fun h => h.1 hpn)
  have hpb : (period != -4611686018427387904) = false := by simpa using hpn
  have hbw := HB02.out
  have hd22 := c22
  clear hpn
  have hde := (hbw.cell (p := ⟨be, oe + q * 5 + 2, none⟩) HBE.out).trans HDE.out
  have HBW := Lib.hid hbw
  clear hbw
  cases ch with
  | false =>
   have HR := Lib.hid (chk_ok (acc := acc) (ch := false) HVA.out HIN.out HPN.out (fun h => by cases h.1))
   go_wp2_with fail
   go_ret
   exact ⟨0, rfl, HR.out, HBW.out⟩
  | true =>
   have HFN := Lib.hid (find_n (w := w2) HN2.out (chart_keep HCH.out HBW.out) HN3.out acc HACC.out HFO.out HFS.out)
   cases fs with
   | false =>
    have HR := Lib.hid (chk_acc (acc := acc) (ch := true) HVA.out HIN.out HPN.out rfl HFE.out)
    go_wp2_with (first | (go_at_call 56; refine HFN.out.mono ?_; rintro e w5 ⟨rfl, h5⟩; have H5 := Lib.hid h5; clear h5) | (show wpList _ _ _ (Oper.mk none (Op.store _ (Operand.tmp 13) _) _ _ _ _ :: _) _ _; refine wpList_store_fresh3 rfl 87 (.tmp 13) (.tmp 61) rfl rfl w5 #[.int .i64 0, .int .i64 0, .int .i64 0, .int .i64 0] 87 #[.int .i64 a1, .int .i64 a2, .int .i64 a3, .int .i64 a4] rfl rfl rfl (info_accS ⟨a1, a2, a3, a4⟩) rfl (by simp [Value.oneCell']) ?_; intro w6 H6 HB6 HS6))
    go_ret
    exact ⟨17, rfl, HR.out, HBW.out.trans ((H5.out.trans (HB6.mono H5.out.size)).mono HBW.out.size)⟩
   | true =>
    have HR := Lib.hid (chk_ok (acc := acc) (ch := true) HVA.out HIN.out HPN.out (fun h => by rw [HFE.out] at h; cases h.2))
    go_wp2_with (first | (go_at_call 56; refine HFN.out.mono ?_; rintro e w5 ⟨rfl, h5⟩; have H5 := Lib.hid h5; clear h5) | (show wpList _ _ _ (Oper.mk none (Op.store _ (Operand.tmp 13) _) _ _ _ _ :: _) _ _; refine wpList_store_fresh3 rfl 87 (.tmp 13) (.tmp 61) rfl rfl w5 #[.int .i64 0, .int .i64 0, .int .i64 0, .int .i64 0] 87 #[.int .i64 a1, .int .i64 a2, .int .i64 a3, .int .i64 a4] rfl rfl rfl (info_accS ⟨a1, a2, a3, a4⟩) rfl (by simp [Value.oneCell']) ?_; intro w6 H6 HB6 HS6))
    go_ret
    exact ⟨0, rfl, HR.out, HBW.out.trans ((H5.out.trans (HB6.mono H5.out.size)).mono HBW.out.size)⟩
 case neg =>
  have hpb : (period != -4611686018427387904) = true := by simpa using hpn
  go_wp2_with (show wpList _ _ _ (Oper.mk (some 42) _ _ _ _ _ :: _) _ _; refine wpList_load_mid rfl 23 (.tmp 41) rfl w.heap.size 1 rfl [.int .i64 g.calendar.year, .int .i64 g.calendar.month, .int .i64 g.calendar.periods] _ HCR.out Tryz.underlying23 rfl info_cal ?_)
  refine (HCF.out w2).mono ?_
  rintro e w3 ⟨rfl, hb3⟩
  have hb03 := HB02.out.trans (hb3.mono HB02.out.size)
  have HB03 := Lib.hid hb03
  have HK3 := Lib.hid ((hb3.block _ (blk_lt HK2.out)).trans HK2.out)
  clear hb3 hb03 c22 c20
  by_cases hp0 : pe = 0
  case neg =>
   have hpeb : (pe != 0) = true := by simpa using hp0
   have HR := Lib.hid (chk_per (acc := acc) (ch := ch) HVA.out HIN.out hpn (by rw [HFP.out]; exact hp0))
   clear hpn hp0
   go_wp2_with fail
   go_ret
   exact ⟨2, rfl, HR.out, HB03.out⟩
  case pos =>
  have hpeb : (pe != 0) = false := by simpa using hp0
  have HPN := Lib.hid (show ¬ (period ≠ -4611686018427387904 ∧ (calFirst g.calendar.year g.calendar.month g.calendar.periods period).2 ≠ 0) from fun h => h.2 (by rw [HFP.out]; exact hp0))
  clear hpn hp0
  have c20 := (blk_cell HK3.out 20).trans (show BL.toArray[20]? = some (.slice (some ⟨be, oe, none⟩) ne ce) by rw [List.getElem?_toArray]; exact K20.out)
  have hd22 := (blk_cell HK3.out 22).trans (show BL.toArray[22]? = some (.int .i64 (q : Int)) by rw [List.getElem?_toArray]; exact K22.out)
  have hbw := HB03.out
  have hde := (hbw.cell (p := ⟨be, oe + q * 5 + 2, none⟩) HBE.out).trans HDE.out
  have HBW := Lib.hid hbw
  clear hbw
  cases ch with
  | false =>
   have HR := Lib.hid (chk_ok (acc := acc) (ch := false) HVA.out HIN.out HPN.out (fun h => by cases h.1))
   go_wp2_with fail
   go_ret
   exact ⟨0, rfl, HR.out, HBW.out⟩
  | true =>
   have HFN := Lib.hid (find_n (w := w3) HN2.out (chart_keep HCH.out HBW.out) HN3.out acc HACC.out HFO.out HFS.out)
   cases fs with
   | false =>
    have HR := Lib.hid (chk_acc (acc := acc) (ch := true) HVA.out HIN.out HPN.out rfl HFE.out)
    go_wp2_with (first | (go_at_call 56; refine HFN.out.mono ?_; rintro e w5 ⟨rfl, h5⟩; have H5 := Lib.hid h5; clear h5) | (show wpList _ _ _ (Oper.mk none (Op.store _ (Operand.tmp 13) _) _ _ _ _ :: _) _ _; refine wpList_store_fresh3 rfl 87 (.tmp 13) (.tmp 61) rfl rfl w5 #[.int .i64 0, .int .i64 0, .int .i64 0, .int .i64 0] 87 #[.int .i64 a1, .int .i64 a2, .int .i64 a3, .int .i64 a4] rfl rfl rfl (info_accS ⟨a1, a2, a3, a4⟩) rfl (by simp [Value.oneCell']) ?_; intro w6 H6 HB6 HS6))
    go_ret
    exact ⟨17, rfl, HR.out, HBW.out.trans ((H5.out.trans (HB6.mono H5.out.size)).mono HBW.out.size)⟩
   | true =>
    have HR := Lib.hid (chk_ok (acc := acc) (ch := true) HVA.out HIN.out HPN.out (fun h => by rw [HFE.out] at h; cases h.2))
    go_wp2_with (first | (go_at_call 56; refine HFN.out.mono ?_; rintro e w5 ⟨rfl, h5⟩; have H5 := Lib.hid h5; clear h5) | (show wpList _ _ _ (Oper.mk none (Op.store _ (Operand.tmp 13) _) _ _ _ _ :: _) _ _; refine wpList_store_fresh3 rfl 87 (.tmp 13) (.tmp 61) rfl rfl w5 #[.int .i64 0, .int .i64 0, .int .i64 0, .int .i64 0] 87 #[.int .i64 a1, .int .i64 a2, .int .i64 a3, .int .i64 a4] rfl rfl rfl (info_accS ⟨a1, a2, a3, a4⟩) rfl (by simp [Value.oneCell']) ?_; intro w6 H6 HB6 HS6))
    go_ret
    exact ⟨0, rfl, HR.out, HBW.out.trans ((H5.out.trans (HB6.mono H5.out.size)).mono HBW.out.size)⟩
theorem all_range {p : Nat → Bool} {n k : Nat} (h : (List.range n).all p = true) (hk : k < n) : p k = true := List.all_eq_true.1 h k (List.mem_range.2 hk)
theorem group_chart {g : XGroup} (h : groupB g = true) {q : Nat} (hq : q < g.entities.length) : chartB g.entities[q].chart false = true := by
 unfold groupB at h
 simp only [Bool.and_eq_true] at h
 have h1 := h.2
 unfold entsB at h1
 have h2 := all_range h1 hq
 unfold entRow at h2
 rw [List.getElem?_eq_getElem hq] at h2
 simp only [Bool.and_eq_true] at h2
 have h3 := h2.2
 unfold entityB at h3
 simp only [Bool.and_eq_true] at h3
 have h4 := h3.1.2
 unfold mappingB at h4
 simp only [Bool.and_eq_true] at h4
 exact h4.1.1.2
theorem chart_field {ch : List XAccount} {b : Bool} (h : chartB ch b = true) {a : XAccount} (ha : a ∈ ch) : 1 ≤ a.code ∧ a.code ≤ 99999 := by
 unfold chartB at h
 simp only [Bool.and_eq_true] at h
 obtain ⟨k, hk, rfl⟩ := List.getElem_of_mem ha
 have h2 := all_range h.1 hk
 unfold rowP at h2
 rw [List.getElem?_eq_getElem hk] at h2
 simp only [Bool.and_eq_true] at h2
 have h3 := h2.2
 unfold properP at h3
 simp only [Bool.and_eq_true] at h3
 have h4 := h3.1
 unfold fieldB at h4
 simp only [Bool.and_eq_true, decide_eq_true_eq] at h4
 exact ⟨h4.1.1, h4.1.2.1⟩
theorem find_code {ch : List XAccount} {b : Bool} (h : chartB ch b = true) {c : Int} (hf : (findA ch c).isSome = true) : 1 ≤ c ∧ c ≤ 99999 := by
 obtain ⟨a, ha⟩ := Option.isSome_iff_exists.1 hf
 obtain ⟨h1, h2⟩ := findA_mem ha
 have := chart_field h h1
 omega
theorem chartE_at {g : XGroup} {q : Nat} (hq : q < g.entities.length) : chartE g (q : Int) = g.entities[q].chart := by
 unfold chartE
 rw [Int.toNat_natCast, List.getD_eq_getElem?_getD, List.getElem?_eq_getElem hq]; rfl
theorem valid_formed {g : XGroup} {l : List XEntry} (h : validJ g l) {x : XEntry} (hx : x ∈ l) : Formed (groupB g) g.entities.length x := (formB_iff _ _ _).1 (checkE_form (okJ_check h.2 hx))
theorem valid_charted {g : XGroup} {l : List XEntry} (h : validJ g l) {x : XEntry} (hx : x ∈ l) : chartedB (chartE g x.entity) x.lines = true ∧ inCalB g.calendar.year g.calendar.month g.calendar.periods x.date = true ∧ sumL x.lines = 0 := by
 have h1 := okJ_check h.2 hx
 unfold checkE at h1
 unfold chartE
 split at h1
 · split at h1
   · split at h1
     · split at h1
       · exact ⟨‹_›, ‹_›, ‹_›⟩
       · cases h1
     · cases h1
   · cases h1
 · cases h1
theorem valid_line {g : XGroup} {l : List XEntry} (h : validJ g l) {x : XEntry} (hx : x ∈ l) {y : XLine} (hy : y ∈ x.lines) : lineOk x.date y ∧ (findA (chartE g x.entity) y.account).isSome = true := by
 have h1 := valid_formed h hx
 have h2 := (valid_charted h hx).1
 obtain ⟨_, _, h3, h4, _, _, _, _, _, _, _, h5⟩ := h1
 obtain ⟨q, hq⟩ : ∃ q : Nat, x.entity = (q : Int) := ⟨x.entity.toNat, by omega⟩
 have hqe : q < g.entities.length := by omega
 unfold chartedB at h2
 rw [List.all_eq_true] at h2
 have h6 := h2 y hy
 have h7 := h6
 rw [hq, chartE_at hqe] at h7
 have h8 := find_code (group_chart h.1 hqe) h7
 have h9 := ((lineB_iff _ _ _).1 (h5 y hy)).2.1
 unfold monB at h9
 rw [decide_eq_true_eq] at h9
 exact ⟨⟨by omega, h8.1, h8.2⟩, h6⟩
theorem valid_lines {g : XGroup} {l : List XEntry} (h : validJ g l) {x : XEntry} (hx : x ∈ l) : x.lines.length ≤ 40 := (valid_formed h hx).2.2.2.2.2.2.2.2.2.2.1
theorem linesD_len {l : List XEntry} (ent d : Int) (h : ∀ x ∈ l, x.lines.length ≤ 40) : (linesD l ent d).length ≤ 40 * l.length := by
 induction l with
 | nil => simp [linesD]
 | cons x l ih =>
  have h1 := ih (fun z hz => h z (List.mem_cons_of_mem _ hz))
  have h2 := h x (List.mem_cons_self ..)
  have h3 : (linesD (x :: l) ent d).length = (if x.entity = ent ∧ x.date ≤ d then x.lines.map (fun y => (x.date, y)) else []).length + (linesD l ent d).length := by simp [linesD]
  rw [h3, List.length_cons]
  split
  · rw [List.length_map]; omega
  · simp only [List.length_nil]; omega
theorem sum_bal (l : List XEntry) (ent acc d : Int) : sumPd (fun _ _ => true) acc (linesD l ent d) = sumE (qB d) l ent acc := by
 rw [sumPd_D]
 exact sumE_congr ent acc (fun x _ _ y _ => by simp only [qB, and_true])
theorem GroupC.ones {w : World} {Q : Nat → Prop} {cs : List Value} {g : XGroup} (h : GroupC w Q cs g) : cs.all (·.oneCell') = true := by
 obtain ⟨Ac, cc, Ae, ce, e, _⟩ := h.lit
 subst e
 simp [grpL, Value.oneCell']
theorem GroupC.books {w : World} {Q : Nat → Prop} {cs : List Value} {g : XGroup} (h : GroupC w Q cs g) (A : Option Addr) (n c : Nat) (ent : Int) : Tryz.prog.built 79 [(0, .agg cs.toArray), (1, .slice A n c), (2, .int .i64 ent)] = some (cs ++ ([.slice A n c, .int .i64 ent] : List Value)).toArray := by
 obtain ⟨Ac, cc, Ae, ce, e, _⟩ := h.lit
 subst e
 kernel_rfl
theorem info_books : (Tryz.prog.info? 79).map (·.size) = some 23 := by kernel_rfl
end Go.Proofs.YtekelchdbkjjjaaGreat
namespace Go.Proofs.YtekelchdbkjjjaaGreat
open Go Go.RowKit Go.Shelf
section
attribute [local go_sem] Oper.semAt_some
theorem bal1_in (F : Fence) (n : Nat) (hF : F.fn 53) (hro : F.round = none) (w : World) : HoldsC F n w 53 #[] (fun _ _ => true) := fun t m W hW => by
 clear hW
 refine callsIn_of_wp Tryz.func53 rfl hF ?_ hro
 simp only [Tryz.ntmps53, List.size_toArray, List.length_cons, List.length_nil, Nat.reduceAdd, Nat.reduceSub, Array.replicate_succ, Array.replicate_zero, List.push_toArray, List.append_toArray, List.nil_append, List.cons_append]
 gi_wp2_with fail
 go_ret
 exact ⟨rfl, rfl⟩
end
section
def BalPost (g : XGroup) (l : List XEntry) (ent acc d : Int) (w : World) (e : Ending) (w' : World) : Prop := ∃ r, e = .returned (.tuple #[.int .i64 (if r = 0 then sumE (qB d) l ent acc else 0), .int .i64 r]) ∧ BChk g l ent (-4611686018427387904) acc true r ∧ Below w.heap.size w w'
theorem bchk_valid {g : XGroup} {l : List XEntry} {ent period acc : Int} {ch : Bool} (h : BChk g l ent period acc ch 0) : validJ g l := by
 rcases h with h | h
 · exact absurd h.2 (by decide)
 · exact h.1
set_option maxHeartbeats 4000000 in
theorem balance_c (g : XGroup) (l : List XEntry) (gl : List Value) (A : Option Addr) (c : Nat) (ent acc d : Int) (w : World) (hg : GroupC w (· < w.heap.size) gl g) (hl : ListC EntryC 7 w (· < w.heap.size) [.slice A l.length c] l) (hsm : smallG g) (hmo : modest l) (hle : l.length ≤ 100) (hacc : intBd acc) : Calls Tryz.prog 28 #[.agg gl.toArray, .slice A l.length c, .int .i64 ent, .int .i64 acc, .int .i64 d] w (BalPost g l ent acc d w) := by
 have HCK := Lib.hid (fun (period : Int) (w2 : World) (hb : Below w.heap.size w w2) => bcheck_c g l gl A c ent period acc true w2 (hg.keep hb) (entries_keep hl hb) hsm hmo hacc)
 have HGS := Lib.hid (show gl.toArray.size = 21 by have := hg.len; simpa using this)
 have HGL := Lib.hid hg.len
 have HBU := Lib.hid (hg.books A l.length c ent)
 have HON := Lib.hid (show (gl ++ ([.slice A l.length c, .int .i64 ent] : List Value)).toArray.all (·.oneCell') = true by
  have h1 := hg.ones
  rw [List.all_toArray, List.all_append, h1]
  rfl)
 have HSZ := Lib.hid (show (gl ++ ([.slice A l.length c, .int .i64 ent] : List Value)).toArray.size = 23 by have := hg.len; simp; omega)
 have HSUM := Lib.hid (fun (h : Nat) (hb : Array Value) (eh : ∀ args w, (callFunc h args).run Tryz.prog w = .ok (.enter h args) w) (p : Int → Int → Bool) (d : Int) (w2 : World) (hbl : Below w.heap.size w w2) (hv : validJ g l) (hH : HoldsC Fence.wide 2 w2 h hb p) =>
  callsIn_wide.1 (bsum_in Fence.wide 5 trivial trivial trivial h hb trivial eh rfl (by omega) l A c ent acc d (gl ++ ([.slice A l.length c, .int .i64 ent] : List Value)).toArray p w2 (by have := hg.len; rw [List.getElem?_toArray, List.getElem?_append_right (by omega)]; simp [this]) (by have := hg.len; rw [List.getElem?_toArray, List.getElem?_append_right (by omega)]; simp [this])
   (entries_keep hl hbl) (fun x hx => by have := valid_lines hv hx; omega) (by omega) (fun x hx _ _ y hy => (valid_line hv hx hy).1) (by have := linesD_len (l := l) ent d (fun x hx => valid_lines hv hx); omega) hH))
 obtain ⟨BL, hBL⟩ : ∃ BL, (gl ++ ([.slice A l.length c, .int .i64 ent] : List Value)).toArray = BL := ⟨_, rfl⟩
 rw [hBL] at HCK HBU HON HSZ HSUM
 obtain ⟨n, hn⟩ : ∃ n, l.length = n := ⟨_, rfl⟩
 rw [hn] at HBU ⊢
 have HIB := Lib.hid (show (Tryz.prog.info? 79).map (·.size) = some BL.size by rw [info_books, HSZ.out])
 clear hg hl hsm hmo hle hacc hBL hn
 have HCK := Lib.hid (HCK.out (-4611686018427387904))
 have HSM1 := Lib.hid (fun (w2 : World) (hbl : Below w.heap.size w w2) (hv : validJ g l) => HSUM.out 53 #[] (enters_of Tryz.func53 (by kernel_rfl) rfl) (fun _ _ => true) d w2 hbl hv (bal1_in Fence.wide 2 trivial rfl w2))
 clear HSUM
 go_enter Tryz.func28, Tryz.ntmps28
 go_upto_region 1 with fail
 have H1 := heap_alloc_new w (.cells gl.toArray 29)
 have HB1 := below1 w (.cells gl.toArray 29)
 have HS1 := blk_lt H1
 generalize hW1 : w.alloc (Obj.cells gl.toArray 29) = W at *
 clear hW1
 have HK := Lib.hid H1
 have HB1h := Lib.hid HB1
 clear H1
 go_wp2_with (first | (show wpList _ _ _ (Oper.mk (some 14) _ _ _ _ _ :: _) _ _; refine wpList_load_row_g rfl 29 (.tmp 5) rfl (w.heap.size) rfl _ _ _ _ HK.out Tryz.underlying29 rfl (by rw [info_group]; exact congrArg some HGS.out.symm) ?_) | (show wpList _ _ _ (Oper.mk (some 17) _ _ _ _ _ :: _) _ _; go_loud (refine wpList_built rfl 79 _ rfl [(0, .agg gl.toArray), (1, .slice A n c), (2, .int .i64 ent)] (by simp [Act.eval]) BL HBU.out ?_)) | (show wpList _ _ _ (Oper.mk none (Op.store _ (Operand.tmp 12) _) _ _ _ _ :: _) _ _; refine wpList_store_fresh3 rfl 79 (.tmp 12) (.tmp 17) rfl rfl W #[.string ⟨#[]⟩, .int .i64 0, .int .i64 0, .int .i64 0, .slice none 0 0, .int .i64 0, .int .i64 0, .int .i64 0, .int .i64 0, .int .i64 0, .int .i64 0, .int .i64 0, .int .i64 0, .int .i64 0, .int .i64 0, .int .i64 0, .int .i64 0, .int .i64 0, .int .i64 0, .int .i64 0, .slice none 0 0, .slice none 0 0, .int .i64 0] 79 BL rfl rfl rfl HIB.out HSZ.out.symm HON.out ?_; intro w4 H4 HB4 HS4) | (show wpList _ _ _ (Oper.mk (some 18) _ _ _ _ _ :: _) _ _; refine wpList_load_row_g rfl 79 (.tmp 12) rfl W.heap.size rfl _ _ _ _ H4 Tryz.underlying79 rfl HIB.out ?_))
 have hb04 := HB1h.out.trans (HB4.mono HB1h.out.size)
 have HK4 := Lib.hid H4
 have HB04 := Lib.hid hb04
 clear HB4 H4 hb04
 refine (HCK.out w4 HB04.out).mono ?_
 rintro e w5 ⟨r, rfl, hr, hb5⟩
 have HR := Lib.hid hr
 have hb05 := HB04.out.trans (hb5.mono HB04.out.size)
 have HB05 := Lib.hid hb05
 have HK5 := Lib.hid ((hb5.block _ HS4).trans HK4.out)
 clear hb5 hb05 hr
 by_cases hr0 : r = 0
 case neg =>
  have hrb : (r != 0) = true := by simpa using hr0
  have HP := Lib.hid (show (if r = 0 then sumE (qB d) l ent acc else (0 : Int)) = 0 from if_neg hr0)
  clear hr0
  go_wp2_with fail
  go_ret2
  exact ⟨r, by rw [HP.out]; first | done | rfl, HR.out, HB05.out⟩
 case pos =>
  subst hr0
  have HSC := Lib.hid (HSM1.out w5 HB05.out (bchk_valid HR.out))
  have HV := Lib.hid (sum_bal l ent acc d)
  go_wp2_with (first | (show wpList _ _ _ (Oper.mk (some 24) _ _ _ _ _ :: _) _ _; refine wpList_load_row_g rfl 79 (.tmp 12) rfl W.heap.size rfl _ _ _ _ HK5.out Tryz.underlying79 rfl HIB.out ?_))
  refine HSC.out.mono ?_
  rintro e w6 ⟨rfl, hb6⟩
  rw [HV.out]
  obtain ⟨sv, hsv⟩ : ∃ sv, sumE (qB d) l ent acc = sv := ⟨_, rfl⟩
  have HSV := Lib.hid hsv
  have HB06 := Lib.hid (HB05.out.trans (hb6.mono HB05.out.size))
  rw [hsv]
  clear hsv hb6 HV HSC
  go_wp2_with fail
  go_ret2
  exact ⟨0, by rw [if_pos rfl, HSV.out]; first | done | rfl, HR.out, HB06.out⟩
end
end Go.Proofs.YtekelchdbkjjjaaGreat
namespace Go.Proofs.YtekelchdbkjjjaaGreat
open Go Go.RowKit
theorem take_one {α : Type} {l : List α} {k : Nat} (hk : k < l.length) : l.take (k + 1) = l.take k ++ [l[k]] := by
 rw [List.take_add_one, List.getElem?_eq_getElem hk]; rfl
theorem sumE_one (q : Int → Int → Int) (es : List XEntry) (x : XEntry) (ent acc : Int) : sumE q (es ++ [x]) ent acc = sumE q es ent acc + (if x.entity = ent then sumQ q acc x.date x.lines else 0) := by
 rw [sumE_app, sumE_cons, sumE_nil]; omega
theorem sumQ_none {q : Int → Int → Int} {d : Int} (acc : Int) (h : ∀ n, q d n = 0) : ∀ l : List XLine, sumQ q acc d l = 0
 | [] => rfl
 | y :: l => by rw [sumQ_cons, sumQ_none acc h l, h]; simp
theorem skip_sums {es ts : List XEntry} {x : XEntry} {ent acc fr to_ D C : Int} (hD : sumE (qD fr to_) ts ent acc = D) (hC : sumE (qC fr to_) ts ent acc = C) (ht : es = ts ++ [x]) (h : x.entity ≠ ent ∨ x.date < fr ∨ to_ < x.date) : sumE (qD fr to_) es ent acc = D ∧ sumE (qC fr to_) es ent acc = C := by
 subst ht
 rw [sumE_one, sumE_one, hD, hC]
 by_cases he : x.entity = ent
 · rw [if_pos he, if_pos he]
   have hn : ¬ (fr ≤ x.date ∧ x.date ≤ to_) := fun h2 => by
    rcases h with h | h | h
    · exact h he
    · omega
    · omega
   rw [sumQ_none acc (fun n => if_neg hn), sumQ_none acc (fun n => if_neg hn)]
   omega
 · rw [if_neg he, if_neg he]
   omega
theorem take_sums {es ts : List XEntry} {x : XEntry} {ent acc fr to_ D C D2 C2 : Int} (hD : sumE (qD fr to_) ts ent acc = D) (hC : sumE (qC fr to_) ts ent acc = C) (ht : es = ts ++ [x]) (h : x.entity = ent) (hD2 : D + sumQ (qD fr to_) acc x.date x.lines = D2) (hC2 : C + sumQ (qC fr to_) acc x.date x.lines = C2) : sumE (qD fr to_) es ent acc = D2 ∧ sumE (qC fr to_) es ent acc = C2 := by
 subst ht
 rw [sumE_one, sumE_one, hD, hC, if_pos h, if_pos h]
 exact ⟨hD2, hC2⟩
theorem absE_take (es : List XEntry) (k : Nat) (hk : k < es.length) : absE (es.take k) + absL es[k].lines ≤ absE es := by
 have h1 : absE (es.take (k + 1) ++ es.drop (k + 1)) = absE es := by rw [List.take_append_drop]
 have h2 := absE_pos (es.drop (k + 1))
 rw [absE_app, take_one hk, absE_app] at h1
 have h3 : absE [es[k]] = absL es[k].lines := by rw [absE_cons]; simp [absE]
 omega
theorem absL_tkj (ls : List XLine) (j : Nat) (hj : j < ls.length) : absL (ls.take j) + (ls[j].amount.natAbs : Int) ≤ absL ls := by
 have h0 : ∀ a b : List XLine, absL (a ++ b) = absL a + absL b := fun a b => by simp [absL]
 have h1 : absL (ls.take (j + 1) ++ ls.drop (j + 1)) = absL ls := by rw [List.take_append_drop]
 have h2 := absL_pos0 (ls.drop (j + 1))
 rw [h0, take_one hj, h0] at h1
 have h3 : absL [ls[j]] = (ls[j].amount.natAbs : Int) := by simp [absL]
 omega
theorem sumQ_one (q : Int → Int → Int) (acc d : Int) (l : List XLine) (y : XLine) : sumQ q acc d (l ++ [y]) = sumQ q acc d l + (if y.account = acc then q d y.amount else 0) := by
 rw [sumQ_app, sumQ_cons, sumQ_nil]; omega
set_option maxHeartbeats 4000000 in
theorem sums_c (es : List XEntry) (A : Option Addr) (c : Nat) (ent acc fr to_ : Int) (w : World) (hl : ListC EntryC 7 w (· < w.heap.size) [.slice A es.length c] es) (hn9 : es.length ≤ 100000) (hln : ∀ x ∈ es, x.lines.length ≤ 100000) (hab : absE es ≤ 4503599627370496) :
 Calls Tryz.prog 60 #[.slice A es.length c, .int .i64 ent, .int .i64 acc, .int .i64 fr, .int .i64 to_] w (Quiet w (.tuple #[.int .i64 (sumE (qD fr to_) es ent acc), .int .i64 (sumE (qC fr to_) es ent acc)])) := by
 have HL := Lib.hid hl
 have HLN := Lib.hid hln
 have HAB := Lib.hid hab
 obtain ⟨n, hnl⟩ : ∃ n, es.length = n := ⟨_, rfl⟩
 have HN := Lib.hid hnl
 rw [hnl] at hn9 ⊢
 obtain ⟨RD, hRD⟩ : ∃ v, sumE (qD fr to_) es ent acc = v := ⟨_, rfl⟩
 obtain ⟨RC, hRC⟩ : ∃ v, sumE (qC fr to_) es ent acc = v := ⟨_, rfl⟩
 have HRD := Lib.hid hRD
 have HRC := Lib.hid hRC
 rw [hRD, hRC]
 clear hl hln hab hnl hRD hRC
 go_enter Tryz.func60, Tryz.ntmps60
 go_wp2_with fail
 go_loopw [12, 13, 14] (fun dv cv i wr => ∃ k : Nat, k ≤ n ∧ dv = .int .i64 (sumE (qD fr to_) (es.take k) ent acc) ∧ cv = .int .i64 (sumE (qC fr to_) (es.take k) ent acc) ∧ i = .int .i64 (k : Int) ∧ Below w.heap.size w wr) (fun _ _ i _ => n - (intOf i).toNat)
 case atStart => exact ⟨0, by omega, rfl, rfl, rfl, Below.refl _ _⟩
 case round =>
  obtain ⟨k, hk, rfl, rfl, rfl, hb⟩ := hrel
  generalize wr = w3 at *
  have HBR := Lib.hid hb
  by_cases hlt : k < n
  case pos =>
   have hltI : (k : Int) < (n : Int) := by omega
   have hkl : k < es.length := by rw [HN.out]; exact hlt
   have hab1 := absE_take es k hkl
   have hD1 := sumE_le (q := qD fr to_) ent acc (es := es.take k) (qD_bd _ _)
   have hC1 := sumE_le (q := qC fr to_) ent acc (es := es.take k) (qC_bd _ _)
   have HTK := Lib.hid (take_one hkl)
   obtain ⟨b, o, cs, hAe, hbw, hxc, hat⟩ := ListC.get HL.out k hkl
   subst hAe
   have hxm : es[k] ∈ es := List.getElem_mem hkl
   have hxl := HLN.out _ hxm
   obtain ⟨x, hx⟩ : ∃ x, es[k] = x := ⟨_, rfl⟩
   rw [hx] at hxc hxl HTK hab1
   obtain ⟨Al, cl, hcs, hxb, hls⟩ := EntryC.lit hxc
   subst hcs
   have HLS := Lib.hid hls
   obtain ⟨D, hD⟩ : ∃ v, sumE (qD fr to_) (es.take k) ent acc = v := ⟨_, rfl⟩
   obtain ⟨C, hC⟩ : ∃ v, sumE (qC fr to_) (es.take k) ent acc = v := ⟨_, rfl⟩
   have HD := Lib.hid hD
   have HC := Lib.hid hC
   rw [hD] at hD1 ⊢
   rw [hC] at hC1 ⊢
   obtain ⟨xi, xe, xd, xk, xo, xt, ls⟩ := x
   simp only at hat HLS hxl hab1
   obtain ⟨nl, hnl⟩ : ∃ n, ls.length = n := ⟨_, rfl⟩
   have HNL := Lib.hid hnl
   rw [hnl] at hat hxl
   have HAR := Lib.hid ((hat.fr (Fr.ofBelow hb)).range)
   have hnz : 0 < n := by omega
   have HAL := Lib.hid (show absE (es.take k) + absL ls ≤ 4503599627370496 from by have := HAB.out; omega)
   have HDC := Lib.hid (And.intro hD1 hC1)
   clear hxc hls hat hxm hx hnl hbw hxb hb hab1 hD1 hC1 hD hC
   by_cases he : xe = ent
   case neg =>
    have hq1 : (xe != ent) = true := by simpa using he
    have HSD := Lib.hid (show sumE (qD fr to_) (es.take (k + 1)) ent acc = D ∧ sumE (qC fr to_) (es.take (k + 1)) ent acc = C from skip_sums HD.out HC.out HTK.out (.inl he))
    go_wp2_with (first | (show wpList _ _ _ (Oper.mk (some 26) _ _ _ _ _ :: _) _ _; refine wpList_load_mid rfl 46 (.tmp 25) rfl b (o + k * 7) rfl [.int .i64 xi, .int .i64 xe, .int .i64 xd, .int .i64 xk, .int .i64 xo, .string xt, .slice Al nl cl] _ HAR.out Tryz.underlying46 rfl info_entry ?_) | (show wpList _ _ _ (Oper.mk none (Op.store _ (Operand.tmp 15) _) _ _ _ _ :: _) _ _; refine wpList_store_fresh3 rfl 46 (.tmp 15) (.tmp 26) rfl rfl w3 #[.int .i64 0, .int .i64 0, .int .i64 0, .int .i64 0, .int .i64 0, .string ⟨#[]⟩, .slice none 0 0] 46 #[.int .i64 xi, .int .i64 xe, .int .i64 xd, .int .i64 xk, .int .i64 xo, .string xt, .slice Al nl cl] rfl rfl rfl info_entry rfl (by simp [Value.oneCell']) ?_; intro w4 H4 HB4 HS4; have x1 := blk_cell H4 1; have x2 := blk_cell H4 2; have x6 := blk_cell H4 6))
    go_roundw
    case rel => exact ⟨k + 1, by omega, by rw [HSD.out.1], by rw [HSD.out.2], by go_num, HBR.out.trans (HB4.mono HBR.out.size)⟩
    case measure => first | exact meas_v hlt | (simp only [intOf]; omega)
   case pos =>
   have hq1 : (xe != ent) = false := by simpa using he
   have HE := Lib.hid he
   clear he
   by_cases hd1 : xd < fr
   case pos =>
    have hq2 : decide (xd < fr) = true := decide_eq_true hd1
    have HSD := Lib.hid (show sumE (qD fr to_) (es.take (k + 1)) ent acc = D ∧ sumE (qC fr to_) (es.take (k + 1)) ent acc = C from skip_sums HD.out HC.out HTK.out (.inr (.inl hd1)))
    go_wp2_with (first | (show wpList _ _ _ (Oper.mk (some 26) _ _ _ _ _ :: _) _ _; refine wpList_load_mid rfl 46 (.tmp 25) rfl b (o + k * 7) rfl [.int .i64 xi, .int .i64 xe, .int .i64 xd, .int .i64 xk, .int .i64 xo, .string xt, .slice Al nl cl] _ HAR.out Tryz.underlying46 rfl info_entry ?_) | (show wpList _ _ _ (Oper.mk none (Op.store _ (Operand.tmp 15) _) _ _ _ _ :: _) _ _; refine wpList_store_fresh3 rfl 46 (.tmp 15) (.tmp 26) rfl rfl w3 #[.int .i64 0, .int .i64 0, .int .i64 0, .int .i64 0, .int .i64 0, .string ⟨#[]⟩, .slice none 0 0] 46 #[.int .i64 xi, .int .i64 xe, .int .i64 xd, .int .i64 xk, .int .i64 xo, .string xt, .slice Al nl cl] rfl rfl rfl info_entry rfl (by simp [Value.oneCell']) ?_; intro w4 H4 HB4 HS4; have x1 := blk_cell H4 1; have x2 := blk_cell H4 2; have x6 := blk_cell H4 6))
    go_roundw
    case rel => exact ⟨k + 1, by omega, by rw [HSD.out.1], by rw [HSD.out.2], by go_num, HBR.out.trans (HB4.mono HBR.out.size)⟩
    case measure => first | exact meas_v hlt | (simp only [intOf]; omega)
   case neg =>
   have hq2 : decide (xd < fr) = false := decide_eq_false hd1
   by_cases hd2 : to_ < xd
   case pos =>
    have hq3 : decide (to_ < xd) = true := decide_eq_true hd2; have hq4 : decide (xd > to_) = true := decide_eq_true hd2
    have HSD := Lib.hid (show sumE (qD fr to_) (es.take (k + 1)) ent acc = D ∧ sumE (qC fr to_) (es.take (k + 1)) ent acc = C from skip_sums HD.out HC.out HTK.out (.inr (.inr hd2)))
    go_wp2_with (first | (show wpList _ _ _ (Oper.mk (some 26) _ _ _ _ _ :: _) _ _; refine wpList_load_mid rfl 46 (.tmp 25) rfl b (o + k * 7) rfl [.int .i64 xi, .int .i64 xe, .int .i64 xd, .int .i64 xk, .int .i64 xo, .string xt, .slice Al nl cl] _ HAR.out Tryz.underlying46 rfl info_entry ?_) | (show wpList _ _ _ (Oper.mk none (Op.store _ (Operand.tmp 15) _) _ _ _ _ :: _) _ _; refine wpList_store_fresh3 rfl 46 (.tmp 15) (.tmp 26) rfl rfl w3 #[.int .i64 0, .int .i64 0, .int .i64 0, .int .i64 0, .int .i64 0, .string ⟨#[]⟩, .slice none 0 0] 46 #[.int .i64 xi, .int .i64 xe, .int .i64 xd, .int .i64 xk, .int .i64 xo, .string xt, .slice Al nl cl] rfl rfl rfl info_entry rfl (by simp [Value.oneCell']) ?_; intro w4 H4 HB4 HS4; have x1 := blk_cell H4 1; have x2 := blk_cell H4 2; have x6 := blk_cell H4 6))
    go_roundw
    case rel => exact ⟨k + 1, by omega, by rw [HSD.out.1], by rw [HSD.out.2], by go_num, HBR.out.trans (HB4.mono HBR.out.size)⟩
    case measure => first | exact meas_v hlt | (simp only [intOf]; omega)
   case neg =>
   have hq3 : decide (to_ < xd) = false := decide_eq_false hd2
   have hq4 : decide (xd > to_) = false := decide_eq_false hd2
   have HIN := Lib.hid (show xe = ent ∧ fr ≤ xd ∧ xd ≤ to_ from ⟨HE.out, by omega, by omega⟩)
   clear hd1 hd2
   go_wp2_with (first | (show wpList _ _ _ (Oper.mk (some 26) _ _ _ _ _ :: _) _ _; refine wpList_load_mid rfl 46 (.tmp 25) rfl b (o + k * 7) rfl [.int .i64 xi, .int .i64 xe, .int .i64 xd, .int .i64 xk, .int .i64 xo, .string xt, .slice Al nl cl] _ HAR.out Tryz.underlying46 rfl info_entry ?_) | (show wpList _ _ _ (Oper.mk none (Op.store _ (Operand.tmp 15) _) _ _ _ _ :: _) _ _; refine wpList_store_fresh3 rfl 46 (.tmp 15) (.tmp 26) rfl rfl w3 #[.int .i64 0, .int .i64 0, .int .i64 0, .int .i64 0, .int .i64 0, .string ⟨#[]⟩, .slice none 0 0] 46 #[.int .i64 xi, .int .i64 xe, .int .i64 xd, .int .i64 xk, .int .i64 xo, .string xt, .slice Al nl cl] rfl rfl rfl info_entry rfl (by simp [Value.oneCell']) ?_; intro w4 H4 HB4 HS4; have x1 := blk_cell H4 1; have x2 := blk_cell H4 2; have x6 := blk_cell H4 6))
   have HX4 := Lib.hid H4
   have HBR4 := Lib.hid (HBR.out.trans (HB4.mono HBR.out.size))
   clear x1 x2
   go_loop [12, 13, 16] (fun dv cv i => ∃ j : Nat, j ≤ nl ∧ dv = .int .i64 (D + sumQ (qD fr to_) acc xd (ls.take j)) ∧ cv = .int .i64 (C + sumQ (qC fr to_) acc xd (ls.take j)) ∧ i = .int .i64 (j : Int)) (fun _ _ i => nl - (intOf i).toNat)
   case atStart => exact ⟨0, by omega, by simp [sumQ_nil], by simp [sumQ_nil], rfl⟩
   case round =>
    obtain ⟨j, hj, rfl, rfl, rfl⟩ := hrel
    by_cases hlj : j < nl
    case pos =>
     have hljI : (j : Int) < (nl : Int) := by omega
     have hjl : j < ls.length := by rw [HNL.out]; exact hlj
     obtain ⟨lb, lo, lcs, hAl, hlbw, hlc, hlat⟩ := ListC.get HLS.out j hjl
     subst hAl
     obtain ⟨hlcs, hlbd⟩ := LineC.lit hlc
     subst hlcs
     have hT := take_one hjl
     have hal := absL_tkj ls j hjl
     have hs1 := sumQ_le (q := qD fr to_) (d := xd) (l := ls.take j) acc (fun y _ => qD_bd _ _ _ _)
     have hs2 := sumQ_le (q := qC fr to_) (d := xd) (l := ls.take j) acc (fun y _ => qC_bd _ _ _ _)
     obtain ⟨y, hy⟩ : ∃ y, ls[j] = y := ⟨_, rfl⟩
     rw [hy] at hlat hT hal
     have hN1 : sumQ (qD fr to_) acc xd (ls.take (j + 1)) = sumQ (qD fr to_) acc xd (ls.take j) + (if y.account = acc then max 0 y.amount else 0) := by
      rw [hT, sumQ_one]
      have : qD fr to_ xd y.amount = max 0 y.amount := if_pos ⟨HIN.out.2.1, HIN.out.2.2⟩
      rw [this]
     have hN2 : sumQ (qC fr to_) acc xd (ls.take (j + 1)) = sumQ (qC fr to_) acc xd (ls.take j) + (if y.account = acc then min 0 y.amount else 0) := by
      rw [hT, sumQ_one]
      have : qC fr to_ xd y.amount = min 0 y.amount := if_pos ⟨HIN.out.2.1, HIN.out.2.2⟩
      rw [this]
     obtain ⟨la, lm, lp⟩ := y
     simp only at hN1 hN2 hal
     obtain ⟨s1, hS1⟩ : ∃ v, sumQ (qD fr to_) acc xd (ls.take j) = v := ⟨_, rfl⟩
     obtain ⟨s2, hS2⟩ : ∃ v, sumQ (qC fr to_) acc xd (ls.take j) = v := ⟨_, rfl⟩
     rw [hS1] at hN1 hs1 ⊢
     rw [hS2] at hN2 hs2 ⊢
     have HLR := Lib.hid (show w4.rangeAt lb (lo + j * 3) [.int .i64 la, .int .i64 lm, .int .i64 lp] from (hlat.fr (Fr.ofBelow HBR4.out)).range)
     have l0 : w4.cell? ⟨lb, lo + j * 3, none⟩ = some (.int .i64 la) := HLR.out 0 _ rfl
     have l1 : w4.cell? ⟨lb, lo + j * 3 + 1, none⟩ = some (.int .i64 lm) := HLR.out 1 _ rfl
     have x6 := blk_cell HX4.out 6
     have hbd := HDC.out
     have hal2 := HAL.out
     have r1 : -9223372036854775808 ≤ D + s1 + max 0 lm := by omega
     have r2 : D + s1 + max 0 lm ≤ 9223372036854775807 := by omega
     have r3 : -9223372036854775808 ≤ C + s2 + min 0 lm := by omega
     have r4 : C + s2 + min 0 lm ≤ 9223372036854775807 := by omega
     have HN1 := Lib.hid hN1
     have HN2 := Lib.hid hN2
     clear hN1 hN2 hT hS1 hS2 hs1 hs2 hbd hal2 hal hlat hlc hlbw hlbd hy
     have hnzl : 0 < nl := by omega
     by_cases hla : la = acc
     case neg =>
      have hlb : (la != acc) = true := by simpa using hla
      have HM := Lib.hid (show sumQ (qD fr to_) acc xd (ls.take (j + 1)) = s1 ∧ sumQ (qC fr to_) acc xd (ls.take (j + 1)) = s2 by rw [HN1.out, HN2.out, if_neg hla, if_neg hla]; omega)
      clear hla
      go_wp2_with fail
      go_round
      case rel => exact ⟨j + 1, by omega, by rw [HM.out.1], by rw [HM.out.2], by go_num⟩
      case measure => first | exact meas_v hlj | (simp only [intOf]; omega)
     case pos =>
      have hlb : (la != acc) = false := by simpa using hla
      have HM := Lib.hid (show D + sumQ (qD fr to_) acc xd (ls.take (j + 1)) = D + s1 + max 0 lm ∧ C + sumQ (qC fr to_) acc xd (ls.take (j + 1)) = C + s2 + min 0 lm by rw [HN1.out, HN2.out, if_pos hla, if_pos hla]; omega)
      clear hla
      go_wp2_with fail
      go_round
      case rel => exact ⟨j + 1, by omega, by rw [HM.out.1], by rw [HM.out.2], by go_num⟩
      case measure => first | exact meas_v hlj | (simp only [intOf]; omega)
    case neg =>
     have hljI : ¬ (j : Int) < (nl : Int) := by omega
     have hta : ls.take j = ls := List.take_of_length_le (by rw [HNL.out]; omega)
     have HSD := Lib.hid (show sumE (qD fr to_) (es.take (k + 1)) ent acc = D + sumQ (qD fr to_) acc xd (ls.take j) ∧ sumE (qC fr to_) (es.take (k + 1)) ent acc = C + sumQ (qC fr to_) acc xd (ls.take j) from take_sums HD.out HC.out HTK.out HIN.out.1 (by rw [hta]) (by rw [hta]))
     obtain ⟨s1, hS1⟩ : ∃ v, D + sumQ (qD fr to_) acc xd (ls.take j) = v := ⟨_, rfl⟩
     obtain ⟨s2, hS2⟩ : ∃ v, C + sumQ (qC fr to_) acc xd (ls.take j) = v := ⟨_, rfl⟩
     rw [hS1, hS2] at HSD
     rw [hS1, hS2]
     have x6 := blk_cell HX4.out 6
     clear hS1 hS2 hta
     go_wp2_with fail
     go_roundw
     case rel => exact ⟨k + 1, by omega, by rw [HSD.out.1], by rw [HSD.out.2], by go_num, HBR4.out⟩
     case measure => first | exact meas_v hlt | (simp only [intOf]; omega)
  case neg =>
   have hltI : ¬ (k : Int) < (n : Int) := by omega
   have hta : es.take k = es := List.take_of_length_le (by rw [HN.out]; omega)
   rw [hta, HRD.out, HRC.out]
   clear hta hb
   go_wp2_with fail
   go_ret2
   exact ⟨rfl, HBR.out⟩
theorem BChk.uniq {g : XGroup} {l : List XEntry} {ent period acc : Int} {ch : Bool} {r s : Int} (h : BChk g l ent period acc ch r) (k : BChk g l ent period acc ch s) : r = s := by
 rcases h with ⟨h1, rfl⟩ | ⟨h1, rfl⟩ <;> rcases k with ⟨k1, rfl⟩ | ⟨k1, rfl⟩
 · rfl
 · exact absurd k1 h1
 · exact absurd h1 k1
 · rfl
set_option maxHeartbeats 4000000 in
theorem rchk14_c (g : XGroup) (l : List XEntry) (gl : List Value) (A : Option Addr) (c : Nat) (ent acc : Int) (w : World) (hg : GroupC w (· < w.heap.size) gl g) (hl : ListC EntryC 7 w (· < w.heap.size) [.slice A l.length c] l) (hsm : smallG g) (hmo : modest l) : Calls Tryz.prog 31 #[.agg gl.toArray, .slice A l.length c, .int .i64 ent] w (BChkPost g l ent (-4611686018427387904) acc false w) := by
 have HJV := Lib.hid (fun (w2 : World) (hb : Below w.heap.size w w2) => rjvalid_c g l gl A c w2 (hg.keep hb) (entries_keep hl hb) hsm hmo)
 have HGS := Lib.hid (show gl.toArray.size = 21 by have := hg.len; simpa using this)
 obtain ⟨Ac, cc, Ae, ce, hl21, h20, _⟩ := hg.view
 obtain ⟨n, hn⟩ : ∃ n, l.length = n := ⟨_, rfl⟩
 rw [hn] at HJV ⊢
 obtain ⟨ne, hne⟩ : ∃ n, g.entities.length = n := ⟨_, rfl⟩
 have HNE := Lib.hid hne
 rw [hne] at h20
 have K20 := Lib.hid h20
 have hne1 : ne ≤ 1000 := by rw [← hne]; exact hsm.2.1
 clear hg hl hsm hmo h20 hn hne hl21
 go_enter Tryz.func31, Tryz.ntmps31
 go_upto_region 1 with fail
 have H1 := heap_alloc_new w (.cells gl.toArray 29)
 have HB1 := below1 w (.cells gl.toArray 29)
 have HS1 := blk_lt H1
 generalize hW1 : w.alloc (Obj.cells gl.toArray 29) = W at *
 clear hW1
 have HK := Lib.hid H1
 have HB1h := Lib.hid HB1
 clear H1
 go_wp2_with (show wpList _ _ _ (Oper.mk (some 8) _ _ _ _ _ :: _) _ _; refine wpList_load_row_g rfl 29 (.tmp 3) rfl (w.heap.size) rfl _ _ _ _ HK.out Tryz.underlying29 rfl (by rw [info_group]; exact congrArg some HGS.out.symm) ?_)
 refine (HJV.out W HB1).mono ?_
 rintro e w2 ⟨b, rfl, hv, hb2⟩
 have HB02 := Lib.hid (HB1h.out.trans (hb2.mono HB1h.out.size))
 have HK2 := Lib.hid ((hb2.block _ HS1).trans HK.out)
 have HV := Lib.hid hv
 clear hb2 hv
 cases b with
 | false =>
  have HNV := Lib.hid (show ¬ validJ g l from fun h => by have := HV.out.2 h; cases this)
  go_wp2_with fail
  go_ret
  exact ⟨1, rfl, .inl ⟨HNV.out, rfl⟩, HB02.out⟩
 | true =>
 have HVA := Lib.hid (HV.out.1 rfl)
 have c20 := (blk_cell HK2.out 20).trans (show gl.toArray[20]? = some (.slice Ae ne ce) by rw [List.getElem?_toArray]; exact K20.out)
 by_cases h1 : ent < 0
 case pos =>
  have h1d : decide (ent < 0) = true := decide_eq_true h1
  have HR := Lib.hid (chk_ent (period := (-4611686018427387904)) (acc := acc) (ch := false) HVA.out (.inl h1))
  clear h1
  go_wp2_with fail
  go_ret
  exact ⟨2, rfl, HR.out, HB02.out⟩
 case neg =>
 have h1d : decide (ent < 0) = false := decide_eq_false h1
 by_cases h2 : (ne : Int) ≤ ent
 case pos =>
  have h2d : decide (ent ≥ (ne : Int)) = true := decide_eq_true h2
  have h2e : decide ((ne : Int) ≤ ent) = true := decide_eq_true h2
  have HR := Lib.hid (chk_ent (period := (-4611686018427387904)) (acc := acc) (ch := false) HVA.out (.inr (by rw [HNE.out]; exact h2)))
  clear h1 h2
  go_wp2_with fail
  go_ret
  exact ⟨2, rfl, HR.out, HB02.out⟩
 case neg =>
  have h2d : decide (ent ≥ (ne : Int)) = false := decide_eq_false h2
  have h2e : decide ((ne : Int) ≤ ent) = false := decide_eq_false h2
  have HR := Lib.hid (chk_ok (period := (-4611686018427387904)) (acc := acc) (ch := false) HVA.out (show ¬ (ent < 0 ∨ (g.entities.length : Int) ≤ ent) by rw [HNE.out]; omega) (fun h => h.1 rfl) (fun h => by cases h.1))
  clear h1 h2
  go_wp2_with fail
  go_ret
  exact ⟨0, rfl, HR.out, HB02.out⟩
theorem chkR_zero {g : XGroup} {l : List XEntry} {ent acc : Int} (h : BChk g l ent (-4611686018427387904) acc false 0) : validJ g l ∧ ¬ (ent < 0 ∨ (g.entities.length : Int) ≤ ent) := by
 refine ⟨bchk_valid h, fun h2 => ?_⟩
 exact absurd (h.uniq (chk_ent (bchk_valid h) h2)) (by decide)
theorem chkR_err {g : XGroup} {l : List XEntry} {ent acc p acc2 : Int} {ch : Bool} {r : Int} (h : BChk g l ent (-4611686018427387904) acc false r) (hr : r ≠ 0) : BChk g l ent p acc2 ch r := by
 rcases h with h | ⟨h1, h2⟩
 · exact .inl h
 · by_cases he : ent < 0 ∨ (g.entities.length : Int) ≤ ent
   · have : r = 2 := by rw [h2]; unfold chkR; rw [if_pos he]
     rw [this]
     exact chk_ent h1 he
   · exact absurd ((show BChk g l ent (-4611686018427387904) acc false r from .inr ⟨h1, h2⟩).uniq (chk_ok h1 he (fun h => h.1 rfl) (fun h => by cases h.1))) hr
set_option maxHeartbeats 4000000 in
theorem known_c (g : XGroup) (l : List XEntry) (gl : List Value) (A : Option Addr) (c : Nat) (ent acc : Int) (w : World) (hg : GroupC w (· < w.heap.size) gl g) (hl : ListC EntryC 7 w (· < w.heap.size) [.slice A l.length c] l) (hsm : smallG g) (hmo : modest l) (hacc : intBd acc) : Calls Tryz.prog 59 #[.agg gl.toArray, .slice A l.length c, .int .i64 ent, .int .i64 acc] w (BChkPost g l ent (-4611686018427387904) acc true w) := by
 have HCK := Lib.hid (fun (w2 : World) (hb : Below w.heap.size w w2) => rchk14_c g l gl A c ent acc w2 (hg.keep hb) (entries_keep hl hb) hsm hmo)
 have HGS := Lib.hid (show gl.toArray.size = 21 by have := hg.len; simpa using this)
 obtain ⟨Ac, cc, Ae, ce, hl21, h20, _, _, _, _, _, hen⟩ := hg.view
 have HEN := Lib.hid hen
 have HSM := Lib.hid hsm
 have HACC := Lib.hid hacc
 obtain ⟨n, hn⟩ : ∃ n, l.length = n := ⟨_, rfl⟩
 rw [hn] at HCK ⊢
 obtain ⟨ne, hne⟩ : ∃ n, g.entities.length = n := ⟨_, rfl⟩
 have HNE := Lib.hid hne
 rw [hne] at h20
 have K20 := Lib.hid h20
 have hne1 : ne ≤ 1000 := by rw [← hne]; exact hsm.2.1
 clear hg hl hsm hmo h20 hn hne hl21 hacc hen
 go_enter Tryz.func59, Tryz.ntmps59
 go_upto_region 1 with fail
 have H1 := heap_alloc_new w (.cells gl.toArray 29)
 have HB1 := below1 w (.cells gl.toArray 29)
 have HS1 := blk_lt H1
 generalize hW1 : w.alloc (Obj.cells gl.toArray 29) = W at *
 clear hW1
 have HK := Lib.hid H1
 have HB1h := Lib.hid HB1
 clear H1
 go_wp2_with (show wpList _ _ _ (Oper.mk (some 12) _ _ _ _ _ :: _) _ _; refine wpList_load_row_g rfl 29 (.tmp 4) rfl (w.heap.size) rfl _ _ _ _ HK.out Tryz.underlying29 rfl (by rw [info_group]; exact congrArg some HGS.out.symm) ?_)
 refine (HCK.out W HB1).mono ?_
 rintro e w2 ⟨r, rfl, hr, hb2⟩
 have HB02 := Lib.hid (HB1h.out.trans (hb2.mono HB1h.out.size))
 have HK2 := Lib.hid ((hb2.block _ HS1).trans HK.out)
 have HR := Lib.hid hr
 clear hb2 hr
 by_cases hr0 : r = 0
 case neg =>
  have hrb : (r != 0) = true := by simpa using hr0
  have HR2 := Lib.hid (chkR_err (p := (-4611686018427387904)) (acc2 := acc) (ch := true) HR.out hr0)
  clear hr0
  go_wp2_with fail
  go_ret
  exact ⟨r, rfl, HR2.out, HB02.out⟩
 case pos =>
 subst hr0
 have HVA := Lib.hid (chkR_zero HR.out).1
 have hin := (chkR_zero HR.out).2
 have HIN := Lib.hid hin
 rw [HNE.out] at hin
 obtain ⟨q, rfl⟩ : ∃ q : Nat, ent = (q : Int) := ⟨ent.toNat, by omega⟩
 have hq : q < ne := by omega
 clear hin
 have hqe : q < g.entities.length := by rw [HNE.out]; exact hq
 obtain ⟨be, oe, es, hAe, hbe, hes, hat⟩ := ListC.get HEN.out q hqe
 subst hAe
 obtain ⟨Ec, c2, Al2, cl2, hes1, hch, hlk⟩ := EntityC.lit hes
 have hn2 := (HSM.out.2.2.2 _ (List.getElem_mem hqe)).1
 have hce := chartE_at hqe
 obtain ⟨ec, hec⟩ : ∃ ec, g.entities[q].chart = ec := ⟨_, rfl⟩
 rw [hec] at hes1 hch hn2 hce
 obtain ⟨n2, hn2'⟩ : ∃ n, ec.length = n := ⟨_, rfl⟩
 rw [hn2'] at hes1
 subst hes1
 obtain ⟨ao, hao⟩ : ∃ a, accO (findA ec acc) = a := ⟨_, rfl⟩
 obtain ⟨a1, a2, a3, a4⟩ := ao
 obtain ⟨fs, hfs⟩ : ∃ s, (findA ec acc).isSome = s := ⟨_, rfl⟩
 have HFN := Lib.hid (rfind_n (w := w2) hn2' (chart_keep hch HB02.out) hn2 acc HACC.out hao hfs)
 have HFE := Lib.hid (show (findA (chartE g (q : Int)) acc).isSome = fs by rw [hce]; exact hfs)
 have hde := (HB02.out.cell (p := ⟨be, oe + q * 5 + 2, none⟩) hbe).trans (hat.c (j := 2) rfl)
 have hqI : (q : Int) < (ne : Int) := by omega
 have c20 := (blk_cell HK2.out 20).trans (show gl.toArray[20]? = some (.slice (some ⟨be, oe, none⟩) ne ce) by rw [List.getElem?_toArray]; exact K20.out)
 clear hfs hao hn2' hn2 hch hat hbe hes hlk hec hce hqe
 go_wp2_with (first | (go_at_call 32; refine HFN.out.mono ?_; rintro e w5 ⟨rfl, h5⟩; have H5 := Lib.hid h5; clear h5) | (show wpList _ _ _ (Oper.mk none (Op.store _ (Operand.tmp 10) _) _ _ _ _ :: _) _ _; refine wpList_store_fresh3 rfl 87 (.tmp 10) (.tmp 28) rfl rfl w5 #[.int .i64 0, .int .i64 0, .int .i64 0, .int .i64 0] 87 #[.int .i64 a1, .int .i64 a2, .int .i64 a3, .int .i64 a4] rfl rfl rfl (info_accS ⟨a1, a2, a3, a4⟩) rfl (by simp [Value.oneCell']) ?_; intro w6 H6 HB6 HS6; have HB06 := Lib.hid (HB02.out.trans ((H5.out.trans (HB6.mono H5.out.size)).mono HB02.out.size)); clear H6 HB6 HS6; cases fs))
 · have HR2 := Lib.hid (chk_acc (period := (-4611686018427387904)) (acc := acc) (ch := true) HVA.out HIN.out (fun h => h.1 rfl) rfl HFE.out)
   go_ret
   exact ⟨17, rfl, HR2.out, HB06.out⟩
 · have HR2 := Lib.hid (chk_ok (period := (-4611686018427387904)) (acc := acc) (ch := true) HVA.out HIN.out (fun h => h.1 rfl) (fun h => by rw [HFE.out] at h; cases h.2))
   go_ret
   exact ⟨0, rfl, HR2.out, HB06.out⟩
theorem absE_valid {g : XGroup} {l : List XEntry} (h : validJ g l) (hl : l.length ≤ 100) : absE l ≤ 4503599627370496 := by
 have h3 : ∀ k : List XEntry, (∀ x ∈ k, x ∈ l) → absE k ≤ 40000000000000 * k.length := fun k => by
  induction k with
  | nil => intro _; simp [absE]
  | cons x k ih =>
   intro hk
   have h4 := ih (fun z hz => hk z (List.mem_cons_of_mem _ hz))
   have hx := hk x (List.mem_cons_self ..)
   have h5 := valid_lines h hx
   have h6 : ∀ m : List XLine, (∀ y ∈ m, y ∈ x.lines) → absL m ≤ 1000000000000 * m.length := fun m => by
    induction m with
    | nil => intro _; simp [absL]
    | cons y m ih2 =>
     intro hm
     have h7 := ih2 (fun z hz => hm z (List.mem_cons_of_mem _ hz))
     have h8 := (valid_formed h hx).2.2.2.2.2.2.2.2.2.2.2 y (hm y (List.mem_cons_self ..))
     have h9 := ((lineB_iff _ _ _).1 h8).2.1
     unfold monB at h9
     rw [decide_eq_true_eq] at h9
     have h10 : absL (y :: m) = (y.amount.natAbs : Int) + absL m := by simp [absL]
     rw [h10, List.length_cons]
     omega
   have h11 := h6 x.lines (fun y hy => hy)
   rw [absE_cons, List.length_cons]
   omega
 have := h3 l (fun x hx => hx)
 omega
theorem entry_dates {w : World} {Q : Nat → Prop} {A : Option Addr} {c : Nat} {l : List XEntry} (h : ListC EntryC 7 w Q [.slice A l.length c] l) : ∀ x ∈ l, -9223372036854775808 ≤ x.date ∧ x.date ≤ 9223372036854775807 := fun x hx => by
 obtain ⟨k, hk, rfl⟩ := List.getElem_of_mem hx
 obtain ⟨b, o, cs, hA, hb, hxc, hat⟩ := ListC.get h k hk
 obtain ⟨Al, cl, _, hxb, _⟩ := EntryC.lit hxc
 exact hxb.2.2.1
theorem sumE_lt (q : Int → Int → Int) (hq : ∀ a b, -(b.natAbs : Int) ≤ q a b ∧ q a b ≤ (b.natAbs : Int)) {g : XGroup} {l : List XEntry} (h : validJ g l) (hl : l.length ≤ 100) (ent acc : Int) : -4503599627370496 ≤ sumE q l ent acc ∧ sumE q l ent acc ≤ 4503599627370496 := by
 have h1 := sumE_le (q := q) ent acc (es := l) hq
 have h2 := absE_valid h hl
 omega
set_option maxHeartbeats 4000000 in
theorem rbal_c (g : XGroup) (l : List XEntry) (gl : List Value) (A : Option Addr) (c : Nat) (ent acc d : Int) (w : World) (hg : GroupC w (· < w.heap.size) gl g) (hl : ListC EntryC 7 w (· < w.heap.size) [.slice A l.length c] l) (hsm : smallG g) (hmo : modest l) (hle : l.length ≤ 100) (hacc : intBd acc) : Calls Tryz.prog 33 #[.agg gl.toArray, .slice A l.length c, .int .i64 ent, .int .i64 acc, .int .i64 d] w (BalPost g l ent acc d w) := by
 have HCK := Lib.hid (fun (w2 : World) (hb : Below w.heap.size w w2) => known_c g l gl A c ent acc w2 (hg.keep hb) (entries_keep hl hb) hsm hmo hacc)
 have HSU := Lib.hid (fun (w2 : World) (hb : Below w.heap.size w w2) (hv : validJ g l) => sums_c l A c ent acc (-9223372036854775808) d w2 (entries_keep hl hb) (by omega) (fun x hx => (hmo.1 x hx).2) (absE_valid hv hle))
 have HDT := Lib.hid (entry_dates hl)
 have HGS := Lib.hid (show gl.toArray.size = 21 by have := hg.len; simpa using this)
 have HLE := Lib.hid hle
 obtain ⟨n, hn⟩ : ∃ n, l.length = n := ⟨_, rfl⟩
 rw [hn] at HCK HSU ⊢
 clear hg hl hsm hmo hle hacc hn
 go_enter Tryz.func33, Tryz.ntmps33
 go_upto_region 1 with fail
 have H1 := heap_alloc_new w (.cells gl.toArray 29)
 have HB1 := below1 w (.cells gl.toArray 29)
 have HS1 := blk_lt H1
 generalize hW1 : w.alloc (Obj.cells gl.toArray 29) = W at *
 clear hW1
 have HK := Lib.hid H1
 have HB1h := Lib.hid HB1
 clear H1
 go_wp2_with (show wpList _ _ _ (Oper.mk (some 15) _ _ _ _ _ :: _) _ _; refine wpList_load_row_g rfl 29 (.tmp 5) rfl (w.heap.size) rfl _ _ _ _ HK.out Tryz.underlying29 rfl (by rw [info_group]; exact congrArg some HGS.out.symm) ?_)
 refine (HCK.out W HB1).mono ?_
 rintro e w2 ⟨r, rfl, hr, hb2⟩
 have HB02 := Lib.hid (HB1h.out.trans (hb2.mono HB1h.out.size))
 have HR := Lib.hid hr
 clear hb2 hr
 by_cases hr0 : r = 0
 case neg =>
  have hrb : (r != 0) = true := by simpa using hr0
  have HP := Lib.hid (show (if r = 0 then sumE (qB d) l ent acc else (0 : Int)) = 0 from if_neg hr0)
  clear hr0
  go_wp2_with fail
  go_ret2
  exact ⟨r, by rw [HP.out]; first | done | rfl, HR.out, HB02.out⟩
 case pos =>
  subst hr0
  have HSC := Lib.hid (HSU.out w2 HB02.out (bchk_valid HR.out))
  have h1 := sumE_lt (qD (-9223372036854775808) d) (qD_bd _ _) (bchk_valid HR.out) HLE.out ent acc
  have h2 := sumE_lt (qC (-9223372036854775808) d) (qC_bd _ _) (bchk_valid HR.out) HLE.out ent acc
  have HF := Lib.hid (bal_all (es := l) ent acc d (a := -9223372036854775808) (fun x hx => (HDT.out x hx).1))
  obtain ⟨v1, hv1⟩ : ∃ v, sumE (qD (-9223372036854775808) d) l ent acc = v := ⟨_, rfl⟩
  obtain ⟨v2, hv2⟩ : ∃ v, sumE (qC (-9223372036854775808) d) l ent acc = v := ⟨_, rfl⟩
  rw [hv1] at h1
  rw [hv2] at h2
  rw [hv1, hv2] at HSC HF
  clear hv1 hv2
  have HF := Lib.hid HF.out.symm
  obtain ⟨l1, l2⟩ := h1
  obtain ⟨l3, l4⟩ := h2
  have l5 : -9223372036854775808 ≤ v1 + v2 := by omega
  have l6 : v1 + v2 ≤ 9223372036854775807 := by omega
  go_wp2_with fail
  refine HSC.out.mono ?_
  rintro e w3 ⟨rfl, hb3⟩
  have HB03 := Lib.hid (HB02.out.trans (hb3.mono HB02.out.size))
  clear hb3
  go_wp2_with fail
  go_ret2
  exact ⟨0, by rw [if_pos rfl, HF.out]; first | done | rfl, HR.out, HB03.out⟩
end Go.Proofs.YtekelchdbkjjjaaGreat
