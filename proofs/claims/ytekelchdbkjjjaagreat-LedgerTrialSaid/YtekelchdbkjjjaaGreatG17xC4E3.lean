/- Arguments of the program's types, opened to data, with the sizes of their texts. Written by gen_c4.py. -/
import Derived.Test.YtekelchdbkjjjaaGreatG17xB0B2
import Derived.Test.YtekelchdbkjjjaaGreatG17xB3B8
import Derived.Test.YtekelchdbkjjjaaGreatG17xB14
import Derived.Test.YtekelchdbkjjjaaGreatG17xB17B24
import Derived.Test.YtekelchdbkjjjaaGreatG17xB29B32
import Derived.Test.YtekelchdbkjjjaaGreatG17xB33S2
import Derived.Test.YtekelchdbkjjjaaGreatProg
import Derived.Deep.Slices
import Derived.Deep.Fields
import Derived.ChangeSame
import Derived.ProofKit
import Derived.OpenShut
import Derived.ShutString
import Derived.ChangeOld
import Derived.Below
import Derived.SizedLaws
set_option linter.unusedVariables false
set_option linter.unusedSimpArgs false
set_option maxRecDepth 4000
attribute [local go_sem ↓] Go.wp_at_zero Go.wp_at_succ
namespace Go.Proofs.YtekelchdbkjjjaaGreat
open Go Go.RowKit Go.ChangeShapes Go.WideShapes Go.Deep
theorem own : ownKnob Tryz.prog.godebug = none := by kernel_rfl
theorem laidOut : laidOutB Tryz.prog = true := by kernel_rfl
section
variable {H : Type} {enc : TypeId × Value → H} {W : World}
def Opens (enc : TypeId × Value → H) (W : World) (T : TypeId) {α : Type} (C : List Value → α → Prop) (Z : α → Prop) : Prop :=
 ∀ fuel cs x, DataW.trod enc Tryz.prog W 0 (fun _ => true) true fuel T cs = some x → (∀ b off, MemPlace.cell b off ∈ x.2 → W.frozen? ⟨b, off, none⟩ = false) → (∀ n ∈ x.1.weights Tryz.prog T, n ≤ reachBytes) → ∃ a, C cs a ∧ Z a
def zNone {α : Type} (_ : α) : Prop := True
def zList {α : Type} (Z : α → Prop) (l : List α) : Prop := ∀ x ∈ l, Z x
def zStr (s : ByteArray) : Prop := s.size ≤ 140737488355327
theorem opInt : Opens enc W 3 IntC zNone := fun fuel cs x h _ _ => by
 obtain ⟨n, rfl, _, hwf⟩ := DataW.trod_int Tryz.underlying3 h
 refine ⟨n, ⟨rfl, ?_⟩, trivial⟩
 simp only [Lit.wf, IntKind.min, IntKind.max, Bool.and_eq_true, decide_eq_true_eq] at hwf
 simp [IntKind.signed, IntKind.bits] at hwf
 unfold intBd; omega
theorem opStr : Opens enc W 9 StrC zStr := fun fuel cs x h _ hz => by
 obtain ⟨s, rfl, rfl, _⟩ := DataW.trod_string Tryz.underlying9 h
 have := hz s.data.toList.length (by simp [DataW.weights])
 have hr := reachBytes_lt
 refine ⟨s, rfl, ?_⟩
 unfold zStr
 have : s.size = s.data.toList.length := by first | rfl | simp
 omega
theorem opBool : Opens enc W 4 BoolC zNone := fun fuel cs x h _ _ => by
 obtain ⟨b, rfl, _⟩ := DataW.trod_bool Tryz.underlying4 h
 exact ⟨b, rfl, trivial⟩
theorem cells_at {a : Addr} {n k : Nat} {cs : List Value} (h : ∀ i, i < n → W.cell? ((a.add k).add i) = cs[i]?) : ∀ i, i < n → W.cell? (a.add (k + i)) = cs[i]? := fun i hi => by
 rw [← add_add']; exact h i hi
theorem weights_all {P : Program} {e : TypeId} : ∀ {ds : List (DataW H)} {d : DataW H}, d ∈ ds → ∀ n ∈ d.weights P e, n ∈ DataW.weightsAll P e ds
 | [], _, h, _, _ => by cases h
 | a :: r, d, h, n, hn => by
  simp only [DataW.weightsAll, List.mem_append]
  rcases List.mem_cons.1 h with rfl | h
  · exact Or.inl hn
  · exact Or.inr (weights_all h n hn)
theorem opList {α : Type} {El : World → (Nat → Prop) → List Value → α → Prop} {Z : α → Prop} {T E : TypeId} {size : Nat} (ht : Tryz.prog.underlying T = some (.slice E)) (hC : Tryz.prog.cellsOf E = size) (hs : 0 < size)
 (hE : Opens enc W E (El W (· < W.heap.size)) Z) : Opens enc W T (ListC El size W (· < W.heap.size)) (zList Z) := fun fuel cs x h hfz hz => by
 have hlt := DataW.trod_lt _ _ _ _ h
 rcases open_slice ht h with ⟨rfl, rfl⟩ | ⟨a, len, cap, m, n, Df, Pl, rfl, _, hl, hm, hmm, rfl, hi⟩
 · exact ⟨[], ⟨none, 0, rfl, by simp, by simp [maxLen], fun h => absurd h (by simp)⟩, fun x hx => by cases hx⟩
 · simp only [if_true] at hmm
   subst hmm
   rw [hC] at hi hlt hfz
   have key : ∀ i, i < len → ∃ es y, (∀ j, j < es.length → W.cell? (a.add (i * size + j)) = es[j]?) ∧ es.length = size ∧ El W (· < W.heap.size) es y ∧ Z y := by
    intro i hil
    have him : i < m := by omega
    obtain ⟨cs', hc, ht'⟩ := hi i him
    obtain ⟨_, hcl, hat⟩ := World.cells?_some hc
    obtain ⟨y, hy, hzy⟩ := hE _ _ _ ht' (fun b off hb => hfz b off (List.mem_append_right _ (List.mem_flatMap.2 ⟨i, List.mem_range.2 him, hb⟩))) (fun n hn => hz n (by
     simp only [DataW.weights, ht]
     exact List.mem_cons_of_mem _ (List.mem_append_left _ (weights_all (List.mem_map.2 ⟨i, List.mem_range.2 hil, rfl⟩) n hn))))
    exact ⟨cs', y, fun j hj => cells_at hat j (by omega), hcl, hy, hzy⟩
   have hlen : ∃ xs : List α, xs.length = len ∧ ∀ i x, xs[i]? = some x → ∃ es, (∀ j, j < es.length → W.cell? (a.add (i * size + j)) = es[j]?) ∧ es.length = size ∧ El W (· < W.heap.size) es x ∧ Z x := by
    have : ∀ k, k ≤ len → ∃ xs : List α, xs.length = k ∧ ∀ i x, xs[i]? = some x → ∃ es, (∀ j, j < es.length → W.cell? (a.add (i * size + j)) = es[j]?) ∧ es.length = size ∧ El W (· < W.heap.size) es x ∧ Z x := by
     intro k
     induction k with
     | zero => exact fun _ => ⟨[], rfl, fun i x h => by simp at h⟩
     | succ k ih =>
      intro hk
      obtain ⟨xs, hxl, hx⟩ := ih (by omega)
      obtain ⟨es, y, h1, h2, h3, h4⟩ := key k (by omega)
      refine ⟨xs ++ [y], by simp [hxl], fun i x hix => ?_⟩
      by_cases hik : i < xs.length
      · rw [List.getElem?_append_left hik] at hix
        exact hx i x hix
      · rw [List.getElem?_append_right (by omega)] at hix
        have h0 : i - xs.length = 0 := by
         have := (List.getElem?_eq_some_iff.1 hix).1
         simp at this; omega
        rw [h0] at hix
        simp at hix
        subst hix
        have : i = k := by omega
        subst this
        exact ⟨es, h1, h2, h3, h4⟩
    exact this len (Nat.le_refl _)
   obtain ⟨xs, rfl, hx⟩ := hlen
   refine ⟨xs, ⟨some a, m, rfl, hl, hm, fun hn => ?_⟩, fun x hx' => ?_⟩
   · have h0 := hx 0 xs[0] (List.getElem?_eq_getElem hn)
     obtain ⟨es0, hc0, hl0, _⟩ := h0
     have hcell0 := hc0 0 (by omega)
     rw [List.getElem?_eq_getElem (by omega)] at hcell0
     obtain ⟨b, off, spot⟩ := a
     have hspot : spot = none := by simpa [Addr.add] using World.cell?_spot hcell0
     subst hspot
     have hmem : ∀ q, q < m * size → MemPlace.cell b (off + q) ∈ MemPlace.row ⟨b, off, none⟩ (m * size) := fun q hq => MemPlace.mem_row.2 ⟨q, hq, rfl⟩
     have hms : 0 < m * size := Nat.mul_pos (by omega) hs
     refine ⟨b, off, rfl, hlt _ (List.mem_append_left _ (hmem 0 hms)), fun i x hix => ?_⟩
     obtain ⟨es, hc, hlE, hel, _⟩ := hx i x hix
     have hil : i < xs.length := (List.getElem?_eq_some_iff.1 hix).1
     refine ⟨es, hel, hlt _ (List.mem_append_left _ (hmem 0 hms)), fun j u hu => ?_⟩
     have hj : j < es.length := (List.getElem?_eq_some_iff.1 hu).1
     have e1 := hc j hj
     rw [add_plain] at e1
     rw [Addr.add_lit, Nat.add_assoc]
     refine ⟨e1.trans hu, hfz _ _ (List.mem_append_left _ (hmem (i * size + j) ?_))⟩
     have : i * size + size ≤ m * size := by rw [← Nat.succ_mul]; exact Nat.mul_le_mul_right _ (by omega)
     omega
   · obtain ⟨i, hi1, hi2⟩ := List.mem_iff_getElem.1 hx'
     obtain ⟨_, _, _, _, hz4⟩ := hx i x (by rw [List.getElem?_eq_getElem hi1, hi2])
     exact hz4
theorem take_drop_one (cs : List Value) (a n : Nat) : cs.drop a = (cs.drop a).take n ++ cs.drop (a + n) := by
 rw [← List.drop_drop, List.take_append_drop]
def szLine (x : XLine) : Prop := True
theorem opLine : Opens enc W 76 (LineC W (· < W.heap.size)) szLine := fun fuel cs x h hfz hz => by
 obtain ⟨xs, n, _, rfl, hcl, hxl, hf⟩ := DataW.trod_struct Tryz.underlying76 h
 have hcl2 : cs.length = 3 := hcl.trans (by kernel_rfl)
 have hw : ∀ (j : Nat) (t : TypeId) (y : DataW H × List MemPlace), ([3, 3, 3] : List TypeId)[j]? = some t → xs[j]? = some y → ∀ n ∈ y.1.weights Tryz.prog t, n ≤ reachBytes := fun j t y ht hy n hn => hz n (by
  simp only [DataW.weights, Tryz.underlying76]
  exact DataW.weights_mem_each (j := j) (t := t) (d := y.1) ht (by rw [List.getElem?_map, hy]; rfl) n hn)
 have h0 := hf 0 _ rfl
 obtain ⟨y0, hy0⟩ : ∃ y, xs[0]? = some y := ⟨_, List.getElem?_eq_getElem (by rw [hxl]; decide)⟩
 obtain ⟨a0, q0, z0⟩ := opInt _ _ _ (h0.trans hy0) (fun b off hb => hfz b off (List.mem_flatMap.2 ⟨y0, List.mem_of_getElem? hy0, hb⟩)) (hw 0 _ y0 rfl hy0)
 have h1 := hf 1 _ rfl
 obtain ⟨y1, hy1⟩ : ∃ y, xs[1]? = some y := ⟨_, List.getElem?_eq_getElem (by rw [hxl]; decide)⟩
 obtain ⟨a1, q1, z1⟩ := opInt _ _ _ (h1.trans hy1) (fun b off hb => hfz b off (List.mem_flatMap.2 ⟨y1, List.mem_of_getElem? hy1, hb⟩)) (hw 1 _ y1 rfl hy1)
 have h2 := hf 2 _ rfl
 obtain ⟨y2, hy2⟩ : ∃ y, xs[2]? = some y := ⟨_, List.getElem?_eq_getElem (by rw [hxl]; decide)⟩
 obtain ⟨a2, q2, z2⟩ := opInt _ _ _ (h2.trans hy2) (fun b off hb => hfz b off (List.mem_flatMap.2 ⟨y2, List.mem_of_getElem? hy2, hb⟩)) (hw 2 _ y2 rfl hy2)
 refine ⟨⟨a0, a1, a2⟩, ⟨_, _, _, ?_, q0, q1, q2⟩, trivial⟩
 have e0 : (cs.drop 0).take (Tryz.prog.cellsOf 3) = (cs.drop 0).take 1 := by rw [show Tryz.prog.cellsOf 3 = 1 from by kernel_rfl]
 have e1 : (cs.drop 1).take (Tryz.prog.cellsOf 3) = (cs.drop 1).take 1 := by rw [show Tryz.prog.cellsOf 3 = 1 from by kernel_rfl]
 have e2 : (cs.drop 2).take (Tryz.prog.cellsOf 3) = (cs.drop 2).take 1 := by rw [show Tryz.prog.cellsOf 3 = 1 from by kernel_rfl]
 show cs = (cs.drop 0).take (Tryz.prog.cellsOf 3) ++ (cs.drop 1).take (Tryz.prog.cellsOf 3) ++ (cs.drop 2).take (Tryz.prog.cellsOf 3)
 rw [e0, e1, e2]
 have z : cs = cs.drop 0 := rfl
 have t0 := take_drop_one cs 0 1
 have t1 := take_drop_one cs 1 1
 have t2 := take_drop_one cs 2 1
 have tn : cs.drop 3 = [] := List.drop_eq_nil_of_le (by omega)
 simp only [Nat.reduceAdd] at t0 t1 t2
 have r2 := t2.trans (by rw [tn, List.append_nil])
 have r1 := t1.trans (congrArg (_ ++ ·) r2)
 have r0 := t0.trans (congrArg (_ ++ ·) r1)
 refine z.trans (r0.trans ?_)
 simp only [List.append_assoc]
theorem opLLine : Opens enc W 44 (ListC LineC 3 W (· < W.heap.size)) (zList szLine) := opList Tryz.underlying44 (by kernel_rfl) (by decide) opLine
def szEntry (x : XEntry) : Prop := x.text.size ≤ 140737488355327
theorem opEntry : Opens enc W 46 (EntryC W (· < W.heap.size)) szEntry := fun fuel cs x h hfz hz => by
 obtain ⟨xs, n, _, rfl, hcl, hxl, hf⟩ := DataW.trod_struct Tryz.underlying46 h
 have hcl2 : cs.length = 7 := hcl.trans (by kernel_rfl)
 have hw : ∀ (j : Nat) (t : TypeId) (y : DataW H × List MemPlace), ([3, 3, 3, 3, 3, 9, 44] : List TypeId)[j]? = some t → xs[j]? = some y → ∀ n ∈ y.1.weights Tryz.prog t, n ≤ reachBytes := fun j t y ht hy n hn => hz n (by
  simp only [DataW.weights, Tryz.underlying46]
  exact DataW.weights_mem_each (j := j) (t := t) (d := y.1) ht (by rw [List.getElem?_map, hy]; rfl) n hn)
 have h0 := hf 0 _ rfl
 obtain ⟨y0, hy0⟩ : ∃ y, xs[0]? = some y := ⟨_, List.getElem?_eq_getElem (by rw [hxl]; decide)⟩
 obtain ⟨a0, q0, z0⟩ := opInt _ _ _ (h0.trans hy0) (fun b off hb => hfz b off (List.mem_flatMap.2 ⟨y0, List.mem_of_getElem? hy0, hb⟩)) (hw 0 _ y0 rfl hy0)
 have h1 := hf 1 _ rfl
 obtain ⟨y1, hy1⟩ : ∃ y, xs[1]? = some y := ⟨_, List.getElem?_eq_getElem (by rw [hxl]; decide)⟩
 obtain ⟨a1, q1, z1⟩ := opInt _ _ _ (h1.trans hy1) (fun b off hb => hfz b off (List.mem_flatMap.2 ⟨y1, List.mem_of_getElem? hy1, hb⟩)) (hw 1 _ y1 rfl hy1)
 have h2 := hf 2 _ rfl
 obtain ⟨y2, hy2⟩ : ∃ y, xs[2]? = some y := ⟨_, List.getElem?_eq_getElem (by rw [hxl]; decide)⟩
 obtain ⟨a2, q2, z2⟩ := opInt _ _ _ (h2.trans hy2) (fun b off hb => hfz b off (List.mem_flatMap.2 ⟨y2, List.mem_of_getElem? hy2, hb⟩)) (hw 2 _ y2 rfl hy2)
 have h3 := hf 3 _ rfl
 obtain ⟨y3, hy3⟩ : ∃ y, xs[3]? = some y := ⟨_, List.getElem?_eq_getElem (by rw [hxl]; decide)⟩
 obtain ⟨a3, q3, z3⟩ := opInt _ _ _ (h3.trans hy3) (fun b off hb => hfz b off (List.mem_flatMap.2 ⟨y3, List.mem_of_getElem? hy3, hb⟩)) (hw 3 _ y3 rfl hy3)
 have h4 := hf 4 _ rfl
 obtain ⟨y4, hy4⟩ : ∃ y, xs[4]? = some y := ⟨_, List.getElem?_eq_getElem (by rw [hxl]; decide)⟩
 obtain ⟨a4, q4, z4⟩ := opInt _ _ _ (h4.trans hy4) (fun b off hb => hfz b off (List.mem_flatMap.2 ⟨y4, List.mem_of_getElem? hy4, hb⟩)) (hw 4 _ y4 rfl hy4)
 have h5 := hf 5 _ rfl
 obtain ⟨y5, hy5⟩ : ∃ y, xs[5]? = some y := ⟨_, List.getElem?_eq_getElem (by rw [hxl]; decide)⟩
 obtain ⟨a5, q5, z5⟩ := opStr _ _ _ (h5.trans hy5) (fun b off hb => hfz b off (List.mem_flatMap.2 ⟨y5, List.mem_of_getElem? hy5, hb⟩)) (hw 5 _ y5 rfl hy5)
 have h6 := hf 6 _ rfl
 obtain ⟨y6, hy6⟩ : ∃ y, xs[6]? = some y := ⟨_, List.getElem?_eq_getElem (by rw [hxl]; decide)⟩
 obtain ⟨a6, q6, z6⟩ := opLLine _ _ _ (h6.trans hy6) (fun b off hb => hfz b off (List.mem_flatMap.2 ⟨y6, List.mem_of_getElem? hy6, hb⟩)) (hw 6 _ y6 rfl hy6)
 refine ⟨⟨a0, a1, a2, a3, a4, a5, a6⟩, ⟨_, _, _, _, _, _, _, ?_, q0, q1, q2, q3, q4, q5, q6⟩, z5⟩
 have e0 : (cs.drop 0).take (Tryz.prog.cellsOf 3) = (cs.drop 0).take 1 := by rw [show Tryz.prog.cellsOf 3 = 1 from by kernel_rfl]
 have e1 : (cs.drop 1).take (Tryz.prog.cellsOf 3) = (cs.drop 1).take 1 := by rw [show Tryz.prog.cellsOf 3 = 1 from by kernel_rfl]
 have e2 : (cs.drop 2).take (Tryz.prog.cellsOf 3) = (cs.drop 2).take 1 := by rw [show Tryz.prog.cellsOf 3 = 1 from by kernel_rfl]
 have e3 : (cs.drop 3).take (Tryz.prog.cellsOf 3) = (cs.drop 3).take 1 := by rw [show Tryz.prog.cellsOf 3 = 1 from by kernel_rfl]
 have e4 : (cs.drop 4).take (Tryz.prog.cellsOf 3) = (cs.drop 4).take 1 := by rw [show Tryz.prog.cellsOf 3 = 1 from by kernel_rfl]
 have e5 : (cs.drop 5).take (Tryz.prog.cellsOf 9) = (cs.drop 5).take 1 := by rw [show Tryz.prog.cellsOf 9 = 1 from by kernel_rfl]
 have e6 : (cs.drop 6).take (Tryz.prog.cellsOf 44) = (cs.drop 6).take 1 := by rw [show Tryz.prog.cellsOf 44 = 1 from by kernel_rfl]
 show cs = (cs.drop 0).take (Tryz.prog.cellsOf 3) ++ (cs.drop 1).take (Tryz.prog.cellsOf 3) ++ (cs.drop 2).take (Tryz.prog.cellsOf 3) ++ (cs.drop 3).take (Tryz.prog.cellsOf 3) ++ (cs.drop 4).take (Tryz.prog.cellsOf 3) ++ (cs.drop 5).take (Tryz.prog.cellsOf 9) ++ (cs.drop 6).take (Tryz.prog.cellsOf 44)
 rw [e0, e1, e2, e3, e4, e5, e6]
 have z : cs = cs.drop 0 := rfl
 have t0 := take_drop_one cs 0 1
 have t1 := take_drop_one cs 1 1
 have t2 := take_drop_one cs 2 1
 have t3 := take_drop_one cs 3 1
 have t4 := take_drop_one cs 4 1
 have t5 := take_drop_one cs 5 1
 have t6 := take_drop_one cs 6 1
 have tn : cs.drop 7 = [] := List.drop_eq_nil_of_le (by omega)
 simp only [Nat.reduceAdd] at t0 t1 t2 t3 t4 t5 t6
 have r6 := t6.trans (by rw [tn, List.append_nil])
 have r5 := t5.trans (congrArg (_ ++ ·) r6)
 have r4 := t4.trans (congrArg (_ ++ ·) r5)
 have r3 := t3.trans (congrArg (_ ++ ·) r4)
 have r2 := t2.trans (congrArg (_ ++ ·) r3)
 have r1 := t1.trans (congrArg (_ ++ ·) r2)
 have r0 := t0.trans (congrArg (_ ++ ·) r1)
 refine z.trans (r0.trans ?_)
 simp only [List.append_assoc]
theorem opLEntry : Opens enc W 30 (ListC EntryC 7 W (· < W.heap.size)) (zList szEntry) := opList Tryz.underlying30 (by kernel_rfl) (by decide) opEntry
def szAccount (x : XAccount) : Prop := True
theorem opAccount : Opens enc W 87 (AccountC W (· < W.heap.size)) szAccount := fun fuel cs x h hfz hz => by
 obtain ⟨xs, n, _, rfl, hcl, hxl, hf⟩ := DataW.trod_struct Tryz.underlying87 h
 have hcl2 : cs.length = 4 := hcl.trans (by kernel_rfl)
 have hw : ∀ (j : Nat) (t : TypeId) (y : DataW H × List MemPlace), ([3, 3, 3, 3] : List TypeId)[j]? = some t → xs[j]? = some y → ∀ n ∈ y.1.weights Tryz.prog t, n ≤ reachBytes := fun j t y ht hy n hn => hz n (by
  simp only [DataW.weights, Tryz.underlying87]
  exact DataW.weights_mem_each (j := j) (t := t) (d := y.1) ht (by rw [List.getElem?_map, hy]; rfl) n hn)
 have h0 := hf 0 _ rfl
 obtain ⟨y0, hy0⟩ : ∃ y, xs[0]? = some y := ⟨_, List.getElem?_eq_getElem (by rw [hxl]; decide)⟩
 obtain ⟨a0, q0, z0⟩ := opInt _ _ _ (h0.trans hy0) (fun b off hb => hfz b off (List.mem_flatMap.2 ⟨y0, List.mem_of_getElem? hy0, hb⟩)) (hw 0 _ y0 rfl hy0)
 have h1 := hf 1 _ rfl
 obtain ⟨y1, hy1⟩ : ∃ y, xs[1]? = some y := ⟨_, List.getElem?_eq_getElem (by rw [hxl]; decide)⟩
 obtain ⟨a1, q1, z1⟩ := opInt _ _ _ (h1.trans hy1) (fun b off hb => hfz b off (List.mem_flatMap.2 ⟨y1, List.mem_of_getElem? hy1, hb⟩)) (hw 1 _ y1 rfl hy1)
 have h2 := hf 2 _ rfl
 obtain ⟨y2, hy2⟩ : ∃ y, xs[2]? = some y := ⟨_, List.getElem?_eq_getElem (by rw [hxl]; decide)⟩
 obtain ⟨a2, q2, z2⟩ := opInt _ _ _ (h2.trans hy2) (fun b off hb => hfz b off (List.mem_flatMap.2 ⟨y2, List.mem_of_getElem? hy2, hb⟩)) (hw 2 _ y2 rfl hy2)
 have h3 := hf 3 _ rfl
 obtain ⟨y3, hy3⟩ : ∃ y, xs[3]? = some y := ⟨_, List.getElem?_eq_getElem (by rw [hxl]; decide)⟩
 obtain ⟨a3, q3, z3⟩ := opInt _ _ _ (h3.trans hy3) (fun b off hb => hfz b off (List.mem_flatMap.2 ⟨y3, List.mem_of_getElem? hy3, hb⟩)) (hw 3 _ y3 rfl hy3)
 refine ⟨⟨a0, a1, a2, a3⟩, ⟨_, _, _, _, ?_, q0, q1, q2, q3⟩, trivial⟩
 have e0 : (cs.drop 0).take (Tryz.prog.cellsOf 3) = (cs.drop 0).take 1 := by rw [show Tryz.prog.cellsOf 3 = 1 from by kernel_rfl]
 have e1 : (cs.drop 1).take (Tryz.prog.cellsOf 3) = (cs.drop 1).take 1 := by rw [show Tryz.prog.cellsOf 3 = 1 from by kernel_rfl]
 have e2 : (cs.drop 2).take (Tryz.prog.cellsOf 3) = (cs.drop 2).take 1 := by rw [show Tryz.prog.cellsOf 3 = 1 from by kernel_rfl]
 have e3 : (cs.drop 3).take (Tryz.prog.cellsOf 3) = (cs.drop 3).take 1 := by rw [show Tryz.prog.cellsOf 3 = 1 from by kernel_rfl]
 show cs = (cs.drop 0).take (Tryz.prog.cellsOf 3) ++ (cs.drop 1).take (Tryz.prog.cellsOf 3) ++ (cs.drop 2).take (Tryz.prog.cellsOf 3) ++ (cs.drop 3).take (Tryz.prog.cellsOf 3)
 rw [e0, e1, e2, e3]
 have z : cs = cs.drop 0 := rfl
 have t0 := take_drop_one cs 0 1
 have t1 := take_drop_one cs 1 1
 have t2 := take_drop_one cs 2 1
 have t3 := take_drop_one cs 3 1
 have tn : cs.drop 4 = [] := List.drop_eq_nil_of_le (by omega)
 simp only [Nat.reduceAdd] at t0 t1 t2 t3
 have r3 := t3.trans (by rw [tn, List.append_nil])
 have r2 := t2.trans (congrArg (_ ++ ·) r3)
 have r1 := t1.trans (congrArg (_ ++ ·) r2)
 have r0 := t0.trans (congrArg (_ ++ ·) r1)
 refine z.trans (r0.trans ?_)
 simp only [List.append_assoc]
theorem opLAccount : Opens enc W 24 (ListC AccountC 4 W (· < W.heap.size)) (zList szAccount) := opList Tryz.underlying24 (by kernel_rfl) (by decide) opAccount
def szLink (x : XLink) : Prop := True
theorem opLink : Opens enc W 135 (LinkC W (· < W.heap.size)) szLink := fun fuel cs x h hfz hz => by
 obtain ⟨xs, n, _, rfl, hcl, hxl, hf⟩ := DataW.trod_struct Tryz.underlying135 h
 have hcl2 : cs.length = 3 := hcl.trans (by kernel_rfl)
 have hw : ∀ (j : Nat) (t : TypeId) (y : DataW H × List MemPlace), ([3, 3, 3] : List TypeId)[j]? = some t → xs[j]? = some y → ∀ n ∈ y.1.weights Tryz.prog t, n ≤ reachBytes := fun j t y ht hy n hn => hz n (by
  simp only [DataW.weights, Tryz.underlying135]
  exact DataW.weights_mem_each (j := j) (t := t) (d := y.1) ht (by rw [List.getElem?_map, hy]; rfl) n hn)
 have h0 := hf 0 _ rfl
 obtain ⟨y0, hy0⟩ : ∃ y, xs[0]? = some y := ⟨_, List.getElem?_eq_getElem (by rw [hxl]; decide)⟩
 obtain ⟨a0, q0, z0⟩ := opInt _ _ _ (h0.trans hy0) (fun b off hb => hfz b off (List.mem_flatMap.2 ⟨y0, List.mem_of_getElem? hy0, hb⟩)) (hw 0 _ y0 rfl hy0)
 have h1 := hf 1 _ rfl
 obtain ⟨y1, hy1⟩ : ∃ y, xs[1]? = some y := ⟨_, List.getElem?_eq_getElem (by rw [hxl]; decide)⟩
 obtain ⟨a1, q1, z1⟩ := opInt _ _ _ (h1.trans hy1) (fun b off hb => hfz b off (List.mem_flatMap.2 ⟨y1, List.mem_of_getElem? hy1, hb⟩)) (hw 1 _ y1 rfl hy1)
 have h2 := hf 2 _ rfl
 obtain ⟨y2, hy2⟩ : ∃ y, xs[2]? = some y := ⟨_, List.getElem?_eq_getElem (by rw [hxl]; decide)⟩
 obtain ⟨a2, q2, z2⟩ := opInt _ _ _ (h2.trans hy2) (fun b off hb => hfz b off (List.mem_flatMap.2 ⟨y2, List.mem_of_getElem? hy2, hb⟩)) (hw 2 _ y2 rfl hy2)
 refine ⟨⟨a0, a1, a2⟩, ⟨_, _, _, ?_, q0, q1, q2⟩, trivial⟩
 have e0 : (cs.drop 0).take (Tryz.prog.cellsOf 3) = (cs.drop 0).take 1 := by rw [show Tryz.prog.cellsOf 3 = 1 from by kernel_rfl]
 have e1 : (cs.drop 1).take (Tryz.prog.cellsOf 3) = (cs.drop 1).take 1 := by rw [show Tryz.prog.cellsOf 3 = 1 from by kernel_rfl]
 have e2 : (cs.drop 2).take (Tryz.prog.cellsOf 3) = (cs.drop 2).take 1 := by rw [show Tryz.prog.cellsOf 3 = 1 from by kernel_rfl]
 show cs = (cs.drop 0).take (Tryz.prog.cellsOf 3) ++ (cs.drop 1).take (Tryz.prog.cellsOf 3) ++ (cs.drop 2).take (Tryz.prog.cellsOf 3)
 rw [e0, e1, e2]
 have z : cs = cs.drop 0 := rfl
 have t0 := take_drop_one cs 0 1
 have t1 := take_drop_one cs 1 1
 have t2 := take_drop_one cs 2 1
 have tn : cs.drop 3 = [] := List.drop_eq_nil_of_le (by omega)
 simp only [Nat.reduceAdd] at t0 t1 t2
 have r2 := t2.trans (by rw [tn, List.append_nil])
 have r1 := t1.trans (congrArg (_ ++ ·) r2)
 have r0 := t0.trans (congrArg (_ ++ ·) r1)
 refine z.trans (r0.trans ?_)
 simp only [List.append_assoc]
theorem opLLink : Opens enc W 90 (ListC LinkC 3 W (· < W.heap.size)) (zList szLink) := opList Tryz.underlying90 (by kernel_rfl) (by decide) opLink
theorem opEntity : Opens enc W 92 (EntityC W (· < W.heap.size)) szE := fun fuel cs x h hfz hz => by
 obtain ⟨xs, n, _, rfl, hcl, hxl, hf⟩ := DataW.trod_struct Tryz.underlying92 h
 have hcl2 : cs.length = 5 := hcl.trans (by kernel_rfl)
 have hw : ∀ (j : Nat) (t : TypeId) (y : DataW H × List MemPlace), ([9, 9, 24, 90, 4] : List TypeId)[j]? = some t → xs[j]? = some y → ∀ n ∈ y.1.weights Tryz.prog t, n ≤ reachBytes := fun j t y ht hy n hn => hz n (by
  simp only [DataW.weights, Tryz.underlying92]
  exact DataW.weights_mem_each (j := j) (t := t) (d := y.1) ht (by rw [List.getElem?_map, hy]; rfl) n hn)
 have h0 := hf 0 _ rfl
 obtain ⟨y0, hy0⟩ : ∃ y, xs[0]? = some y := ⟨_, List.getElem?_eq_getElem (by rw [hxl]; decide)⟩
 obtain ⟨a0, q0, z0⟩ := opStr _ _ _ (h0.trans hy0) (fun b off hb => hfz b off (List.mem_flatMap.2 ⟨y0, List.mem_of_getElem? hy0, hb⟩)) (hw 0 _ y0 rfl hy0)
 have h1 := hf 1 _ rfl
 obtain ⟨y1, hy1⟩ : ∃ y, xs[1]? = some y := ⟨_, List.getElem?_eq_getElem (by rw [hxl]; decide)⟩
 obtain ⟨a1, q1, z1⟩ := opStr _ _ _ (h1.trans hy1) (fun b off hb => hfz b off (List.mem_flatMap.2 ⟨y1, List.mem_of_getElem? hy1, hb⟩)) (hw 1 _ y1 rfl hy1)
 have h2 := hf 2 _ rfl
 obtain ⟨y2, hy2⟩ : ∃ y, xs[2]? = some y := ⟨_, List.getElem?_eq_getElem (by rw [hxl]; decide)⟩
 obtain ⟨a2, q2, z2⟩ := opLAccount _ _ _ (h2.trans hy2) (fun b off hb => hfz b off (List.mem_flatMap.2 ⟨y2, List.mem_of_getElem? hy2, hb⟩)) (hw 2 _ y2 rfl hy2)
 have h3 := hf 3 _ rfl
 obtain ⟨y3, hy3⟩ : ∃ y, xs[3]? = some y := ⟨_, List.getElem?_eq_getElem (by rw [hxl]; decide)⟩
 obtain ⟨a3, q3, z3⟩ := opLLink _ _ _ (h3.trans hy3) (fun b off hb => hfz b off (List.mem_flatMap.2 ⟨y3, List.mem_of_getElem? hy3, hb⟩)) (hw 3 _ y3 rfl hy3)
 have h4 := hf 4 _ rfl
 obtain ⟨y4, hy4⟩ : ∃ y, xs[4]? = some y := ⟨_, List.getElem?_eq_getElem (by rw [hxl]; decide)⟩
 obtain ⟨a4, q4, z4⟩ := opBool _ _ _ (h4.trans hy4) (fun b off hb => hfz b off (List.mem_flatMap.2 ⟨y4, List.mem_of_getElem? hy4, hb⟩)) (hw 4 _ y4 rfl hy4)
 refine ⟨⟨a0, a1, a2, a3, a4⟩, ⟨_, _, _, _, _, ?_, q0, q1, q2, q3, q4⟩, ⟨z0, z1⟩⟩
 have e0 : (cs.drop 0).take (Tryz.prog.cellsOf 9) = (cs.drop 0).take 1 := by rw [show Tryz.prog.cellsOf 9 = 1 from by kernel_rfl]
 have e1 : (cs.drop 1).take (Tryz.prog.cellsOf 9) = (cs.drop 1).take 1 := by rw [show Tryz.prog.cellsOf 9 = 1 from by kernel_rfl]
 have e2 : (cs.drop 2).take (Tryz.prog.cellsOf 24) = (cs.drop 2).take 1 := by rw [show Tryz.prog.cellsOf 24 = 1 from by kernel_rfl]
 have e3 : (cs.drop 3).take (Tryz.prog.cellsOf 90) = (cs.drop 3).take 1 := by rw [show Tryz.prog.cellsOf 90 = 1 from by kernel_rfl]
 have e4 : (cs.drop 4).take (Tryz.prog.cellsOf 4) = (cs.drop 4).take 1 := by rw [show Tryz.prog.cellsOf 4 = 1 from by kernel_rfl]
 show cs = (cs.drop 0).take (Tryz.prog.cellsOf 9) ++ (cs.drop 1).take (Tryz.prog.cellsOf 9) ++ (cs.drop 2).take (Tryz.prog.cellsOf 24) ++ (cs.drop 3).take (Tryz.prog.cellsOf 90) ++ (cs.drop 4).take (Tryz.prog.cellsOf 4)
 rw [e0, e1, e2, e3, e4]
 have z : cs = cs.drop 0 := rfl
 have t0 := take_drop_one cs 0 1
 have t1 := take_drop_one cs 1 1
 have t2 := take_drop_one cs 2 1
 have t3 := take_drop_one cs 3 1
 have t4 := take_drop_one cs 4 1
 have tn : cs.drop 5 = [] := List.drop_eq_nil_of_le (by omega)
 simp only [Nat.reduceAdd] at t0 t1 t2 t3 t4
 have r4 := t4.trans (by rw [tn, List.append_nil])
 have r3 := t3.trans (congrArg (_ ++ ·) r4)
 have r2 := t2.trans (congrArg (_ ++ ·) r3)
 have r1 := t1.trans (congrArg (_ ++ ·) r2)
 have r0 := t0.trans (congrArg (_ ++ ·) r1)
 refine z.trans (r0.trans ?_)
 simp only [List.append_assoc]
theorem opLEntity : Opens enc W 27 (ListC EntityC 5 W (· < W.heap.size)) (zList szE) := opList Tryz.underlying27 (by kernel_rfl) (by decide) opEntity
def szCal (x : XCal) : Prop := True
theorem opCal : Opens enc W 23 (CalC W (· < W.heap.size)) szCal := fun fuel cs x h hfz hz => by
 obtain ⟨xs, n, _, rfl, hcl, hxl, hf⟩ := DataW.trod_struct Tryz.underlying23 h
 have hcl2 : cs.length = 3 := hcl.trans (by kernel_rfl)
 have hw : ∀ (j : Nat) (t : TypeId) (y : DataW H × List MemPlace), ([3, 3, 3] : List TypeId)[j]? = some t → xs[j]? = some y → ∀ n ∈ y.1.weights Tryz.prog t, n ≤ reachBytes := fun j t y ht hy n hn => hz n (by
  simp only [DataW.weights, Tryz.underlying23]
  exact DataW.weights_mem_each (j := j) (t := t) (d := y.1) ht (by rw [List.getElem?_map, hy]; rfl) n hn)
 have h0 := hf 0 _ rfl
 obtain ⟨y0, hy0⟩ : ∃ y, xs[0]? = some y := ⟨_, List.getElem?_eq_getElem (by rw [hxl]; decide)⟩
 obtain ⟨a0, q0, z0⟩ := opInt _ _ _ (h0.trans hy0) (fun b off hb => hfz b off (List.mem_flatMap.2 ⟨y0, List.mem_of_getElem? hy0, hb⟩)) (hw 0 _ y0 rfl hy0)
 have h1 := hf 1 _ rfl
 obtain ⟨y1, hy1⟩ : ∃ y, xs[1]? = some y := ⟨_, List.getElem?_eq_getElem (by rw [hxl]; decide)⟩
 obtain ⟨a1, q1, z1⟩ := opInt _ _ _ (h1.trans hy1) (fun b off hb => hfz b off (List.mem_flatMap.2 ⟨y1, List.mem_of_getElem? hy1, hb⟩)) (hw 1 _ y1 rfl hy1)
 have h2 := hf 2 _ rfl
 obtain ⟨y2, hy2⟩ : ∃ y, xs[2]? = some y := ⟨_, List.getElem?_eq_getElem (by rw [hxl]; decide)⟩
 obtain ⟨a2, q2, z2⟩ := opInt _ _ _ (h2.trans hy2) (fun b off hb => hfz b off (List.mem_flatMap.2 ⟨y2, List.mem_of_getElem? hy2, hb⟩)) (hw 2 _ y2 rfl hy2)
 refine ⟨⟨a0, a1, a2⟩, ⟨_, _, _, ?_, q0, q1, q2⟩, trivial⟩
 have e0 : (cs.drop 0).take (Tryz.prog.cellsOf 3) = (cs.drop 0).take 1 := by rw [show Tryz.prog.cellsOf 3 = 1 from by kernel_rfl]
 have e1 : (cs.drop 1).take (Tryz.prog.cellsOf 3) = (cs.drop 1).take 1 := by rw [show Tryz.prog.cellsOf 3 = 1 from by kernel_rfl]
 have e2 : (cs.drop 2).take (Tryz.prog.cellsOf 3) = (cs.drop 2).take 1 := by rw [show Tryz.prog.cellsOf 3 = 1 from by kernel_rfl]
 show cs = (cs.drop 0).take (Tryz.prog.cellsOf 3) ++ (cs.drop 1).take (Tryz.prog.cellsOf 3) ++ (cs.drop 2).take (Tryz.prog.cellsOf 3)
 rw [e0, e1, e2]
 have z : cs = cs.drop 0 := rfl
 have t0 := take_drop_one cs 0 1
 have t1 := take_drop_one cs 1 1
 have t2 := take_drop_one cs 2 1
 have tn : cs.drop 3 = [] := List.drop_eq_nil_of_le (by omega)
 simp only [Nat.reduceAdd] at t0 t1 t2
 have r2 := t2.trans (by rw [tn, List.append_nil])
 have r1 := t1.trans (congrArg (_ ++ ·) r2)
 have r0 := t0.trans (congrArg (_ ++ ·) r1)
 refine z.trans (r0.trans ?_)
 simp only [List.append_assoc]
def szRoles (x : XRoles) : Prop := True
theorem opRoles : Opens enc W 26 (RolesC W (· < W.heap.size)) szRoles := fun fuel cs x h hfz hz => by
 obtain ⟨xs, n, _, rfl, hcl, hxl, hf⟩ := DataW.trod_struct Tryz.underlying26 h
 have hcl2 : cs.length = 15 := hcl.trans (by kernel_rfl)
 have hw : ∀ (j : Nat) (t : TypeId) (y : DataW H × List MemPlace), ([3, 3, 3, 3, 3, 3, 3, 3, 3, 3, 3, 3, 3, 3, 3] : List TypeId)[j]? = some t → xs[j]? = some y → ∀ n ∈ y.1.weights Tryz.prog t, n ≤ reachBytes := fun j t y ht hy n hn => hz n (by
  simp only [DataW.weights, Tryz.underlying26]
  exact DataW.weights_mem_each (j := j) (t := t) (d := y.1) ht (by rw [List.getElem?_map, hy]; rfl) n hn)
 have h0 := hf 0 _ rfl
 obtain ⟨y0, hy0⟩ : ∃ y, xs[0]? = some y := ⟨_, List.getElem?_eq_getElem (by rw [hxl]; decide)⟩
 obtain ⟨a0, q0, z0⟩ := opInt _ _ _ (h0.trans hy0) (fun b off hb => hfz b off (List.mem_flatMap.2 ⟨y0, List.mem_of_getElem? hy0, hb⟩)) (hw 0 _ y0 rfl hy0)
 have h1 := hf 1 _ rfl
 obtain ⟨y1, hy1⟩ : ∃ y, xs[1]? = some y := ⟨_, List.getElem?_eq_getElem (by rw [hxl]; decide)⟩
 obtain ⟨a1, q1, z1⟩ := opInt _ _ _ (h1.trans hy1) (fun b off hb => hfz b off (List.mem_flatMap.2 ⟨y1, List.mem_of_getElem? hy1, hb⟩)) (hw 1 _ y1 rfl hy1)
 have h2 := hf 2 _ rfl
 obtain ⟨y2, hy2⟩ : ∃ y, xs[2]? = some y := ⟨_, List.getElem?_eq_getElem (by rw [hxl]; decide)⟩
 obtain ⟨a2, q2, z2⟩ := opInt _ _ _ (h2.trans hy2) (fun b off hb => hfz b off (List.mem_flatMap.2 ⟨y2, List.mem_of_getElem? hy2, hb⟩)) (hw 2 _ y2 rfl hy2)
 have h3 := hf 3 _ rfl
 obtain ⟨y3, hy3⟩ : ∃ y, xs[3]? = some y := ⟨_, List.getElem?_eq_getElem (by rw [hxl]; decide)⟩
 obtain ⟨a3, q3, z3⟩ := opInt _ _ _ (h3.trans hy3) (fun b off hb => hfz b off (List.mem_flatMap.2 ⟨y3, List.mem_of_getElem? hy3, hb⟩)) (hw 3 _ y3 rfl hy3)
 have h4 := hf 4 _ rfl
 obtain ⟨y4, hy4⟩ : ∃ y, xs[4]? = some y := ⟨_, List.getElem?_eq_getElem (by rw [hxl]; decide)⟩
 obtain ⟨a4, q4, z4⟩ := opInt _ _ _ (h4.trans hy4) (fun b off hb => hfz b off (List.mem_flatMap.2 ⟨y4, List.mem_of_getElem? hy4, hb⟩)) (hw 4 _ y4 rfl hy4)
 have h5 := hf 5 _ rfl
 obtain ⟨y5, hy5⟩ : ∃ y, xs[5]? = some y := ⟨_, List.getElem?_eq_getElem (by rw [hxl]; decide)⟩
 obtain ⟨a5, q5, z5⟩ := opInt _ _ _ (h5.trans hy5) (fun b off hb => hfz b off (List.mem_flatMap.2 ⟨y5, List.mem_of_getElem? hy5, hb⟩)) (hw 5 _ y5 rfl hy5)
 have h6 := hf 6 _ rfl
 obtain ⟨y6, hy6⟩ : ∃ y, xs[6]? = some y := ⟨_, List.getElem?_eq_getElem (by rw [hxl]; decide)⟩
 obtain ⟨a6, q6, z6⟩ := opInt _ _ _ (h6.trans hy6) (fun b off hb => hfz b off (List.mem_flatMap.2 ⟨y6, List.mem_of_getElem? hy6, hb⟩)) (hw 6 _ y6 rfl hy6)
 have h7 := hf 7 _ rfl
 obtain ⟨y7, hy7⟩ : ∃ y, xs[7]? = some y := ⟨_, List.getElem?_eq_getElem (by rw [hxl]; decide)⟩
 obtain ⟨a7, q7, z7⟩ := opInt _ _ _ (h7.trans hy7) (fun b off hb => hfz b off (List.mem_flatMap.2 ⟨y7, List.mem_of_getElem? hy7, hb⟩)) (hw 7 _ y7 rfl hy7)
 have h8 := hf 8 _ rfl
 obtain ⟨y8, hy8⟩ : ∃ y, xs[8]? = some y := ⟨_, List.getElem?_eq_getElem (by rw [hxl]; decide)⟩
 obtain ⟨a8, q8, z8⟩ := opInt _ _ _ (h8.trans hy8) (fun b off hb => hfz b off (List.mem_flatMap.2 ⟨y8, List.mem_of_getElem? hy8, hb⟩)) (hw 8 _ y8 rfl hy8)
 have h9 := hf 9 _ rfl
 obtain ⟨y9, hy9⟩ : ∃ y, xs[9]? = some y := ⟨_, List.getElem?_eq_getElem (by rw [hxl]; decide)⟩
 obtain ⟨a9, q9, z9⟩ := opInt _ _ _ (h9.trans hy9) (fun b off hb => hfz b off (List.mem_flatMap.2 ⟨y9, List.mem_of_getElem? hy9, hb⟩)) (hw 9 _ y9 rfl hy9)
 have h10 := hf 10 _ rfl
 obtain ⟨y10, hy10⟩ : ∃ y, xs[10]? = some y := ⟨_, List.getElem?_eq_getElem (by rw [hxl]; decide)⟩
 obtain ⟨a10, q10, z10⟩ := opInt _ _ _ (h10.trans hy10) (fun b off hb => hfz b off (List.mem_flatMap.2 ⟨y10, List.mem_of_getElem? hy10, hb⟩)) (hw 10 _ y10 rfl hy10)
 have h11 := hf 11 _ rfl
 obtain ⟨y11, hy11⟩ : ∃ y, xs[11]? = some y := ⟨_, List.getElem?_eq_getElem (by rw [hxl]; decide)⟩
 obtain ⟨a11, q11, z11⟩ := opInt _ _ _ (h11.trans hy11) (fun b off hb => hfz b off (List.mem_flatMap.2 ⟨y11, List.mem_of_getElem? hy11, hb⟩)) (hw 11 _ y11 rfl hy11)
 have h12 := hf 12 _ rfl
 obtain ⟨y12, hy12⟩ : ∃ y, xs[12]? = some y := ⟨_, List.getElem?_eq_getElem (by rw [hxl]; decide)⟩
 obtain ⟨a12, q12, z12⟩ := opInt _ _ _ (h12.trans hy12) (fun b off hb => hfz b off (List.mem_flatMap.2 ⟨y12, List.mem_of_getElem? hy12, hb⟩)) (hw 12 _ y12 rfl hy12)
 have h13 := hf 13 _ rfl
 obtain ⟨y13, hy13⟩ : ∃ y, xs[13]? = some y := ⟨_, List.getElem?_eq_getElem (by rw [hxl]; decide)⟩
 obtain ⟨a13, q13, z13⟩ := opInt _ _ _ (h13.trans hy13) (fun b off hb => hfz b off (List.mem_flatMap.2 ⟨y13, List.mem_of_getElem? hy13, hb⟩)) (hw 13 _ y13 rfl hy13)
 have h14 := hf 14 _ rfl
 obtain ⟨y14, hy14⟩ : ∃ y, xs[14]? = some y := ⟨_, List.getElem?_eq_getElem (by rw [hxl]; decide)⟩
 obtain ⟨a14, q14, z14⟩ := opInt _ _ _ (h14.trans hy14) (fun b off hb => hfz b off (List.mem_flatMap.2 ⟨y14, List.mem_of_getElem? hy14, hb⟩)) (hw 14 _ y14 rfl hy14)
 refine ⟨⟨a0, a1, a2, a3, a4, a5, a6, a7, a8, a9, a10, a11, a12, a13, a14⟩, ⟨_, _, _, _, _, _, _, _, _, _, _, _, _, _, _, ?_, q0, q1, q2, q3, q4, q5, q6, q7, q8, q9, q10, q11, q12, q13, q14⟩, trivial⟩
 have e0 : (cs.drop 0).take (Tryz.prog.cellsOf 3) = (cs.drop 0).take 1 := by rw [show Tryz.prog.cellsOf 3 = 1 from by kernel_rfl]
 have e1 : (cs.drop 1).take (Tryz.prog.cellsOf 3) = (cs.drop 1).take 1 := by rw [show Tryz.prog.cellsOf 3 = 1 from by kernel_rfl]
 have e2 : (cs.drop 2).take (Tryz.prog.cellsOf 3) = (cs.drop 2).take 1 := by rw [show Tryz.prog.cellsOf 3 = 1 from by kernel_rfl]
 have e3 : (cs.drop 3).take (Tryz.prog.cellsOf 3) = (cs.drop 3).take 1 := by rw [show Tryz.prog.cellsOf 3 = 1 from by kernel_rfl]
 have e4 : (cs.drop 4).take (Tryz.prog.cellsOf 3) = (cs.drop 4).take 1 := by rw [show Tryz.prog.cellsOf 3 = 1 from by kernel_rfl]
 have e5 : (cs.drop 5).take (Tryz.prog.cellsOf 3) = (cs.drop 5).take 1 := by rw [show Tryz.prog.cellsOf 3 = 1 from by kernel_rfl]
 have e6 : (cs.drop 6).take (Tryz.prog.cellsOf 3) = (cs.drop 6).take 1 := by rw [show Tryz.prog.cellsOf 3 = 1 from by kernel_rfl]
 have e7 : (cs.drop 7).take (Tryz.prog.cellsOf 3) = (cs.drop 7).take 1 := by rw [show Tryz.prog.cellsOf 3 = 1 from by kernel_rfl]
 have e8 : (cs.drop 8).take (Tryz.prog.cellsOf 3) = (cs.drop 8).take 1 := by rw [show Tryz.prog.cellsOf 3 = 1 from by kernel_rfl]
 have e9 : (cs.drop 9).take (Tryz.prog.cellsOf 3) = (cs.drop 9).take 1 := by rw [show Tryz.prog.cellsOf 3 = 1 from by kernel_rfl]
 have e10 : (cs.drop 10).take (Tryz.prog.cellsOf 3) = (cs.drop 10).take 1 := by rw [show Tryz.prog.cellsOf 3 = 1 from by kernel_rfl]
 have e11 : (cs.drop 11).take (Tryz.prog.cellsOf 3) = (cs.drop 11).take 1 := by rw [show Tryz.prog.cellsOf 3 = 1 from by kernel_rfl]
 have e12 : (cs.drop 12).take (Tryz.prog.cellsOf 3) = (cs.drop 12).take 1 := by rw [show Tryz.prog.cellsOf 3 = 1 from by kernel_rfl]
 have e13 : (cs.drop 13).take (Tryz.prog.cellsOf 3) = (cs.drop 13).take 1 := by rw [show Tryz.prog.cellsOf 3 = 1 from by kernel_rfl]
 have e14 : (cs.drop 14).take (Tryz.prog.cellsOf 3) = (cs.drop 14).take 1 := by rw [show Tryz.prog.cellsOf 3 = 1 from by kernel_rfl]
 show cs = (cs.drop 0).take (Tryz.prog.cellsOf 3) ++ (cs.drop 1).take (Tryz.prog.cellsOf 3) ++ (cs.drop 2).take (Tryz.prog.cellsOf 3) ++ (cs.drop 3).take (Tryz.prog.cellsOf 3) ++ (cs.drop 4).take (Tryz.prog.cellsOf 3) ++ (cs.drop 5).take (Tryz.prog.cellsOf 3) ++ (cs.drop 6).take (Tryz.prog.cellsOf 3) ++ (cs.drop 7).take (Tryz.prog.cellsOf 3) ++ (cs.drop 8).take (Tryz.prog.cellsOf 3) ++ (cs.drop 9).take (Tryz.prog.cellsOf 3) ++ (cs.drop 10).take (Tryz.prog.cellsOf 3) ++ (cs.drop 11).take (Tryz.prog.cellsOf 3) ++ (cs.drop 12).take (Tryz.prog.cellsOf 3) ++ (cs.drop 13).take (Tryz.prog.cellsOf 3) ++ (cs.drop 14).take (Tryz.prog.cellsOf 3)
 rw [e0, e1, e2, e3, e4, e5, e6, e7, e8, e9, e10, e11, e12, e13, e14]
 have z : cs = cs.drop 0 := rfl
 have t0 := take_drop_one cs 0 1
 have t1 := take_drop_one cs 1 1
 have t2 := take_drop_one cs 2 1
 have t3 := take_drop_one cs 3 1
 have t4 := take_drop_one cs 4 1
 have t5 := take_drop_one cs 5 1
 have t6 := take_drop_one cs 6 1
 have t7 := take_drop_one cs 7 1
 have t8 := take_drop_one cs 8 1
 have t9 := take_drop_one cs 9 1
 have t10 := take_drop_one cs 10 1
 have t11 := take_drop_one cs 11 1
 have t12 := take_drop_one cs 12 1
 have t13 := take_drop_one cs 13 1
 have t14 := take_drop_one cs 14 1
 have tn : cs.drop 15 = [] := List.drop_eq_nil_of_le (by omega)
 simp only [Nat.reduceAdd] at t0 t1 t2 t3 t4 t5 t6 t7 t8 t9 t10 t11 t12 t13 t14
 have r14 := t14.trans (by rw [tn, List.append_nil])
 have r13 := t13.trans (congrArg (_ ++ ·) r14)
 have r12 := t12.trans (congrArg (_ ++ ·) r13)
 have r11 := t11.trans (congrArg (_ ++ ·) r12)
 have r10 := t10.trans (congrArg (_ ++ ·) r11)
 have r9 := t9.trans (congrArg (_ ++ ·) r10)
 have r8 := t8.trans (congrArg (_ ++ ·) r9)
 have r7 := t7.trans (congrArg (_ ++ ·) r8)
 have r6 := t6.trans (congrArg (_ ++ ·) r7)
 have r5 := t5.trans (congrArg (_ ++ ·) r6)
 have r4 := t4.trans (congrArg (_ ++ ·) r5)
 have r3 := t3.trans (congrArg (_ ++ ·) r4)
 have r2 := t2.trans (congrArg (_ ++ ·) r3)
 have r1 := t1.trans (congrArg (_ ++ ·) r2)
 have r0 := t0.trans (congrArg (_ ++ ·) r1)
 refine z.trans (r0.trans ?_)
 simp only [List.append_assoc]
theorem opGroup : Opens enc W 29 (GroupC W (· < W.heap.size)) szG := fun fuel cs x h hfz hz => by
 obtain ⟨xs, n, _, rfl, hcl, hxl, hf⟩ := DataW.trod_struct Tryz.underlying29 h
 have hcl2 : cs.length = 21 := hcl.trans (by kernel_rfl)
 have hw : ∀ (j : Nat) (t : TypeId) (y : DataW H × List MemPlace), ([9, 23, 24, 26, 27] : List TypeId)[j]? = some t → xs[j]? = some y → ∀ n ∈ y.1.weights Tryz.prog t, n ≤ reachBytes := fun j t y ht hy n hn => hz n (by
  simp only [DataW.weights, Tryz.underlying29]
  exact DataW.weights_mem_each (j := j) (t := t) (d := y.1) ht (by rw [List.getElem?_map, hy]; rfl) n hn)
 have h0 := hf 0 _ rfl
 obtain ⟨y0, hy0⟩ : ∃ y, xs[0]? = some y := ⟨_, List.getElem?_eq_getElem (by rw [hxl]; decide)⟩
 obtain ⟨a0, q0, z0⟩ := opStr _ _ _ (h0.trans hy0) (fun b off hb => hfz b off (List.mem_flatMap.2 ⟨y0, List.mem_of_getElem? hy0, hb⟩)) (hw 0 _ y0 rfl hy0)
 have h1 := hf 1 _ rfl
 obtain ⟨y1, hy1⟩ : ∃ y, xs[1]? = some y := ⟨_, List.getElem?_eq_getElem (by rw [hxl]; decide)⟩
 obtain ⟨a1, q1, z1⟩ := opCal _ _ _ (h1.trans hy1) (fun b off hb => hfz b off (List.mem_flatMap.2 ⟨y1, List.mem_of_getElem? hy1, hb⟩)) (hw 1 _ y1 rfl hy1)
 have h2 := hf 2 _ rfl
 obtain ⟨y2, hy2⟩ : ∃ y, xs[2]? = some y := ⟨_, List.getElem?_eq_getElem (by rw [hxl]; decide)⟩
 obtain ⟨a2, q2, z2⟩ := opLAccount _ _ _ (h2.trans hy2) (fun b off hb => hfz b off (List.mem_flatMap.2 ⟨y2, List.mem_of_getElem? hy2, hb⟩)) (hw 2 _ y2 rfl hy2)
 have h3 := hf 3 _ rfl
 obtain ⟨y3, hy3⟩ : ∃ y, xs[3]? = some y := ⟨_, List.getElem?_eq_getElem (by rw [hxl]; decide)⟩
 obtain ⟨a3, q3, z3⟩ := opRoles _ _ _ (h3.trans hy3) (fun b off hb => hfz b off (List.mem_flatMap.2 ⟨y3, List.mem_of_getElem? hy3, hb⟩)) (hw 3 _ y3 rfl hy3)
 have h4 := hf 4 _ rfl
 obtain ⟨y4, hy4⟩ : ∃ y, xs[4]? = some y := ⟨_, List.getElem?_eq_getElem (by rw [hxl]; decide)⟩
 obtain ⟨a4, q4, z4⟩ := opLEntity _ _ _ (h4.trans hy4) (fun b off hb => hfz b off (List.mem_flatMap.2 ⟨y4, List.mem_of_getElem? hy4, hb⟩)) (hw 4 _ y4 rfl hy4)
 refine ⟨⟨a0, a1, a2, a3, a4⟩, ⟨_, _, _, _, _, ?_, q0, q1, q2, q3, q4⟩, ⟨z0, z4⟩⟩
 have e0 : (cs.drop 0).take (Tryz.prog.cellsOf 9) = (cs.drop 0).take 1 := by rw [show Tryz.prog.cellsOf 9 = 1 from by kernel_rfl]
 have e1 : (cs.drop 1).take (Tryz.prog.cellsOf 23) = (cs.drop 1).take 3 := by rw [show Tryz.prog.cellsOf 23 = 3 from by kernel_rfl]
 have e2 : (cs.drop 4).take (Tryz.prog.cellsOf 24) = (cs.drop 4).take 1 := by rw [show Tryz.prog.cellsOf 24 = 1 from by kernel_rfl]
 have e3 : (cs.drop 5).take (Tryz.prog.cellsOf 26) = (cs.drop 5).take 15 := by rw [show Tryz.prog.cellsOf 26 = 15 from by kernel_rfl]
 have e4 : (cs.drop 20).take (Tryz.prog.cellsOf 27) = (cs.drop 20).take 1 := by rw [show Tryz.prog.cellsOf 27 = 1 from by kernel_rfl]
 show cs = (cs.drop 0).take (Tryz.prog.cellsOf 9) ++ (cs.drop 1).take (Tryz.prog.cellsOf 23) ++ (cs.drop 4).take (Tryz.prog.cellsOf 24) ++ (cs.drop 5).take (Tryz.prog.cellsOf 26) ++ (cs.drop 20).take (Tryz.prog.cellsOf 27)
 rw [e0, e1, e2, e3, e4]
 have z : cs = cs.drop 0 := rfl
 have t0 := take_drop_one cs 0 1
 have t1 := take_drop_one cs 1 3
 have t2 := take_drop_one cs 4 1
 have t3 := take_drop_one cs 5 15
 have t4 := take_drop_one cs 20 1
 have tn : cs.drop 21 = [] := List.drop_eq_nil_of_le (by omega)
 simp only [Nat.reduceAdd] at t0 t1 t2 t3 t4
 have r4 := t4.trans (by rw [tn, List.append_nil])
 have r3 := t3.trans (congrArg (_ ++ ·) r4)
 have r2 := t2.trans (congrArg (_ ++ ·) r3)
 have r1 := t1.trans (congrArg (_ ++ ·) r2)
 have r0 := t0.trans (congrArg (_ ++ ·) r1)
 refine z.trans (r0.trans ?_)
 simp only [List.append_assoc]
end
end Go.Proofs.YtekelchdbkjjjaaGreat
namespace Go.Proofs.YtekelchdbkjjjaaGreat
open Go Go.RowKit
def printC (c : Nat) : Bool := decide (32 ≤ c ∧ c ≤ 126)
def printB (s : ByteArray) : Bool := (List.range s.size).all (fun k => printC (bat s k)) && decide (s.size ≤ 80)
abbrev lineL (x : XLine) : List Value := [.int .i64 x.account, .int .i64 x.amount, .int .i64 x.partner]
def lineBd (x : XLine) : Prop := intBd x.account ∧ intBd x.amount ∧ intBd x.partner
theorem LineC.lit {w : World} {Q : Nat → Prop} {cs : List Value} {x : XLine} (h : LineC w Q cs x) : cs = lineL x ∧ lineBd x := by
 obtain ⟨c0, c1, c2, rfl, ⟨rfl, h0⟩, ⟨rfl, h1⟩, ⟨rfl, h2⟩⟩ := h
 exact ⟨rfl, h0, h1, h2⟩
theorem info_line : (Tryz.prog.info? 76).map (·.size) = some 3 := by kernel_rfl
def sumL (l : List XLine) : Int := (l.map (·.amount)).sum
theorem sumL_succ {l : List XLine} {k : Nat} (hk : k < l.length) : sumL (l.take (k + 1)) = sumL (l.take k) + l[k].amount := by
 unfold sumL
 rw [List.take_add_one, List.getElem?_eq_getElem hk, List.map_append, List.sum_append]
 simp
def preL (l : List XLine) : Prop := ∀ k, -4611686018427387904 ≤ sumL (l.take k) ∧ sumL (l.take k) ≤ 4611686018427387904
def smallL (l : List XLine) : Prop := (∀ x ∈ l, -1125899906842624 ≤ x.amount ∧ x.amount ≤ 1125899906842624) ∧ l.length ≤ 100
theorem sumL_bd {l : List XLine} (h : ∀ x ∈ l, -1125899906842624 ≤ x.amount ∧ x.amount ≤ 1125899906842624) : ∀ k : Nat, k ≤ l.length → -1125899906842624 * (k : Int) ≤ sumL (l.take k) ∧ sumL (l.take k) ≤ 1125899906842624 * (k : Int)
 | 0, _ => by simp [sumL]
 | k + 1, hk => by
  have ih := sumL_bd h k (by omega)
  have hb := h _ (List.getElem_mem (show k < l.length by omega))
  rw [sumL_succ (by omega)]
  omega
theorem smallL.pre {l : List XLine} (h : smallL l) : preL l := fun k => by
 have h2 := h.2
 rcases Nat.lt_or_ge l.length k with hk | hk
 · have := sumL_bd h.1 l.length (Nat.le_refl _)
   rw [List.take_of_length_le (by omega)] at this ⊢
   omega
 · have := sumL_bd h.1 k hk
   omega
set_option maxHeartbeats 400000 in
theorem plain_c (s : ByteArray) (w : World) (hs : s.size ≤ 140737488355327) : Calls Tryz.prog 154 #[.string s] w (Quiet w (.bool (printB s))) := by
 obtain ⟨r, hr⟩ : ∃ r, printB s = r := ⟨_, rfl⟩
 rw [hr]
 have HR := Lib.hid hr
 clear hr
 go_enter Tryz.func154, Tryz.ntmps154
 go_wp2_with fail
 go_loopw [6] (fun i wr => ∃ k : Nat, k ≤ s.size ∧ i = .int .i64 (k : Int) ∧ Below w.heap.size w wr ∧ ∀ j, j < k → printC (bat s j) = true) (fun i _ => s.size - (intOf i).toNat)
 case atStart => exact ⟨0, by omega, rfl, Below.refl _ _, fun j hj => by omega⟩
 case round =>
  obtain ⟨k, hk, rfl, hb, hall⟩ := hrel
  have HA := Lib.hid hall
  clear hall
  by_cases hlt : k < s.size
  · have hltI : (k : Int) < (s.size : Int) := by omega
    have HB := Lib.hid (bat_eq hlt)
    by_cases hc : printC (bat s k) = true
    · have hc1 : 32 ≤ (s[k].toNat : Int) ∧ (s[k].toNat : Int) ≤ 126 := by
       have := hc
       rw [HB.out] at this
       simp only [printC, decide_eq_true_eq] at this
       omega
      have hc2 := hc1.1
      have hc3 := hc1.2
      have HC := Lib.hid hc
      clear hc
      go_wp2_with fail
      go_roundw
      case rel => exact ⟨k + 1, by omega, by go_num, hb, fun j hj => by
       rcases Nat.lt_or_ge j k with h | h
       · exact HA.out j h
       · have : j = k := by omega
         subst this; exact HC.out⟩
      case measure =>
       have e : wrap64 ((k : Int) + 1) = ((k + 1 : Nat) : Int) := by unfold wrap64; omega
       simp only [intOf, e]
       omega
    · have hrf := Lib.hid (show r = false by
       rw [← HR.out]; unfold printB
       rw [all_range_false hlt (by simpa using hc)]; rfl)
      have hc1 : ¬ (32 ≤ (s[k].toNat : Int) ∧ (s[k].toNat : Int) ≤ 126) := by
       have := hc
       rw [HB.out] at this
       simp only [printC, decide_eq_true_eq] at this
       omega
      clear hc
      by_cases hc2 : (s[k].toNat : Int) < 32
      · go_wp2_with fail
        go_ret
        exact ⟨by rw [hrf.out]; first | done | rfl, hb⟩
      · have hc3 : 126 < (s[k].toNat : Int) := by omega
        go_wp2_with fail
        go_ret
        exact ⟨by rw [hrf.out]; first | done | rfl, hb⟩
  · have hltI : ¬ (k : Int) < (s.size : Int) := by omega
    have hks : k = s.size := by omega
    have hrf := Lib.hid (show r = decide (s.size ≤ 80) by
     rw [← HR.out]; unfold printB
     rw [all_range_true (fun j hj => HA.out j (by omega)), Bool.true_and])
    clear hks
    by_cases h3 : s.size ≤ 80
    · have h3I : decide ((s.size : Int) ≤ 80) = true := decide_eq_true (by omega)
      have HH := Lib.hid h3
      clear h3
      go_wp2_with fail
      go_ret
      exact ⟨by rw [hrf.out, decide_eq_true HH.out]; first | done | rfl, hb⟩
    · have h3I : decide ((s.size : Int) ≤ 80) = false := decide_eq_false (by omega)
      have HH := Lib.hid (show decide (s.size ≤ 80) = false from decide_eq_false h3)
      clear h3
      go_wp2_with fail
      go_ret
      exact ⟨by rw [hrf.out, HH.out]; first | done | rfl, hb⟩
set_option maxHeartbeats 400000 in
theorem rplain_c (s : ByteArray) (w : World) (hs : s.size ≤ 140737488355327) : Calls Tryz.prog 165 #[.string s] w (Quiet w (.bool (printB s))) := by
 obtain ⟨r, hr⟩ : ∃ r, printB s = r := ⟨_, rfl⟩
 rw [hr]
 have HR := Lib.hid hr
 clear hr
 go_enter Tryz.func165, Tryz.ntmps165
 go_wp2_with fail
 go_loopw [3] (fun i wr => ∃ k : Nat, k ≤ s.size ∧ i = .int .i64 (k : Int) ∧ Below w.heap.size w wr ∧ ∀ j, j < k → printC (bat s j) = true) (fun i _ => s.size - (intOf i).toNat)
 case atStart => exact ⟨0, by omega, rfl, Below.refl _ _, fun j hj => by omega⟩
 case round =>
  obtain ⟨k, hk, rfl, hb, hall⟩ := hrel
  have HA := Lib.hid hall
  clear hall
  by_cases hlt : k < s.size
  · have hltI : (k : Int) < (s.size : Int) := by omega
    have HB := Lib.hid (bat_eq hlt)
    by_cases hc : printC (bat s k) = true
    · have hc1 : 32 ≤ (s[k].toNat : Int) ∧ (s[k].toNat : Int) ≤ 126 := by
       have := hc
       rw [HB.out] at this
       simp only [printC, decide_eq_true_eq] at this
       omega
      have hc2 := hc1.1
      have hc3 := hc1.2
      have HC := Lib.hid hc
      clear hc
      go_wp2_with fail
      go_roundw
      case rel => exact ⟨k + 1, by omega, by go_num, hb, fun j hj => by
       rcases Nat.lt_or_ge j k with h | h
       · exact HA.out j h
       · have : j = k := by omega
         subst this; exact HC.out⟩
      case measure =>
       have e : wrap64 ((k : Int) + 1) = ((k + 1 : Nat) : Int) := by unfold wrap64; omega
       simp only [intOf, e]
       omega
    · have hrf := Lib.hid (show r = false by
       rw [← HR.out]; unfold printB
       rw [all_range_false hlt (by simpa using hc)]; rfl)
      have hc1 : ¬ (32 ≤ (s[k].toNat : Int) ∧ (s[k].toNat : Int) ≤ 126) := by
       have := hc
       rw [HB.out] at this
       simp only [printC, decide_eq_true_eq] at this
       omega
      clear hc
      by_cases hc2 : (s[k].toNat : Int) < 32
      · go_wp2_with fail
        go_ret
        exact ⟨by rw [hrf.out]; first | done | rfl, hb⟩
      · have hc3 : 126 < (s[k].toNat : Int) := by omega
        go_wp2_with fail
        go_ret
        exact ⟨by rw [hrf.out]; first | done | rfl, hb⟩
  · have hltI : ¬ (k : Int) < (s.size : Int) := by omega
    have hks : k = s.size := by omega
    have hrf := Lib.hid (show r = decide (s.size ≤ 80) by
     rw [← HR.out]; unfold printB
     rw [all_range_true (fun j hj => HA.out j (by omega)), Bool.true_and])
    clear hks
    by_cases h3 : s.size ≤ 80
    · have h3I : decide ((s.size : Int) ≤ 80) = true := decide_eq_true (by omega)
      have HH := Lib.hid h3
      clear h3
      go_wp2_with fail
      go_ret
      exact ⟨by rw [hrf.out, decide_eq_true HH.out]; first | done | rfl, hb⟩
    · have h3I : decide ((s.size : Int) ≤ 80) = false := decide_eq_false (by omega)
      have HH := Lib.hid (show decide (s.size ≤ 80) = false from decide_eq_false h3)
      clear h3
      go_wp2_with fail
      go_ret
      exact ⟨by rw [hrf.out, HH.out]; first | done | rfl, hb⟩
set_option maxHeartbeats 1000000 in
theorem sumL_c (l : List XLine) (A : Option Addr) (c : Nat) (w : World) (hl : ListC LineC 3 w (· < w.heap.size) [.slice A l.length c] l) (hs : preL l) : Calls Tryz.prog 157 #[.slice A l.length c] w (Quiet w (.int .i64 (sumL l))) := by
 obtain ⟨r, hr⟩ : ∃ r, sumL l = r := ⟨_, rfl⟩
 rw [hr]
 have HR := Lib.hid hr
 have hbn := hl.cap
 obtain ⟨n, hnl⟩ : ∃ n, l.length = n := ⟨_, rfl⟩
 have HL := Lib.hid hl
 have HN := Lib.hid hnl
 have HS := Lib.hid hs
 rw [hnl] at hbn ⊢
 unfold maxLen at hbn
 have hn : n ≤ 9223372036854775807 := by omega
 clear hr hl hnl hs hbn
 go_enter Tryz.func157, Tryz.ntmps157
 go_wp2_with fail
 go_loopw [3, 8] (fun s i wr => ∃ k : Nat, k ≤ n ∧ s = .int .i64 (sumL (l.take k)) ∧ i = .int .i64 (k : Int) ∧ Below w.heap.size w wr) (fun _ i _ => n - (intOf i).toNat)
 case atStart => exact ⟨0, by omega, rfl, rfl, Below.refl _ _⟩
 case round =>
  obtain ⟨k, hk, rfl, rfl, hb⟩ := hrel
  by_cases hlt : k < n
  case pos =>
   have hltI : (k : Int) < (n : Int) := by omega
   have hkl : k < l.length := by rw [HN.out]; exact hlt
   obtain ⟨b, o, es, hAe, hbw, hes, hat⟩ := ListC.get HL.out k hkl
   subst hAe
   have hes1 := (LineC.lit hes).1
   rw [hes1] at hat
   have HSU := Lib.hid (sumL_succ hkl)
   have hB1 := HS.out k
   have hB2 := HS.out (k + 1)
   rw [HSU.out] at hB2
   obtain ⟨x, hx⟩ : ∃ x, l[k] = x := ⟨_, rfl⟩
   rw [hx] at hat hB2
   have HX := Lib.hid hx
   obtain ⟨la, lm, lp⟩ := x
   simp only at hat hB2
   obtain ⟨S, hS⟩ : ∃ S, sumL (l.take k) = S := ⟨_, rfl⟩
   rw [hS] at hB1 hB2 ⊢
   have HSS := Lib.hid hS
   obtain ⟨hB3, hB4⟩ := hB1
   obtain ⟨hB5, hB6⟩ := hB2
   have hatw := hat.fr (Fr.ofBelow hb)
   have HAR := Lib.hid hatw.range
   clear hes hes1 hat hatw hx hS
   go_upto_region 5 with (show wpList _ _ _ (Oper.mk (some 11) _ _ _ _ _ :: _) _ _; refine wpList_load_mid rfl 76 (.tmp 10) rfl b (o + k * 3) rfl [.int .i64 la, .int .i64 lm, .int .i64 lp] _ HAR.out Tryz.underlying76 rfl info_line ?_)
   have H6 := heap_alloc_new wr (.cells #[.int .i64 la, .int .i64 lm, .int .i64 lp] 76)
   have HB6 := below1 wr (.cells #[.int .i64 la, .int .i64 lm, .int .i64 lp] 76)
   have HS6 := blk_lt H6
   generalize hW6 : wr.alloc (Obj.cells #[.int .i64 la, .int .i64 lm, .int .i64 lp] 76) = W6 at *
   clear hW6
   have c6 := blk_cell H6 1
   have hb6 := hb.trans (HB6.mono hb.size)
   clear H6
   go_wp2_with fail
   go_roundw
   case rel => exact ⟨k + 1, by omega, by rw [HSU.out, HX.out, HSS.out]; first | done | go_num, by go_num, hb6⟩
   case measure => first | exact meas_v hlt | (simp only [intOf]; omega)
  case neg =>
   have hltI : ¬ (k : Int) < (n : Int) := by omega
   obtain ⟨S, hS⟩ : ∃ S, sumL (l.take k) = S := ⟨_, rfl⟩
   rw [hS]
   have hf := Lib.hid (show r = S by rw [← HR.out, ← hS, show k = n from by omega, ← HN.out, List.take_length])
   clear hS
   go_wp2_with fail
   go_ret
   exact ⟨by rw [hf.out]; first | done | rfl, hb⟩
set_option maxHeartbeats 1000000 in
theorem rsumL_c (l : List XLine) (A : Option Addr) (c : Nat) (w : World) (hl : ListC LineC 3 w (· < w.heap.size) [.slice A l.length c] l) (hs : preL l) : Calls Tryz.prog 162 #[.slice A l.length c] w (Quiet w (.int .i64 (sumL l))) := by
 obtain ⟨r, hr⟩ : ∃ r, sumL l = r := ⟨_, rfl⟩
 rw [hr]
 have HR := Lib.hid hr
 have hbn := hl.cap
 obtain ⟨n, hnl⟩ : ∃ n, l.length = n := ⟨_, rfl⟩
 have HL := Lib.hid hl
 have HN := Lib.hid hnl
 have HS := Lib.hid hs
 rw [hnl] at hbn ⊢
 unfold maxLen at hbn
 have hn : n ≤ 9223372036854775807 := by omega
 clear hr hl hnl hs hbn
 go_enter Tryz.func162, Tryz.ntmps162
 go_wp2_with fail
 go_loopw [3, 4] (fun s i wr => ∃ k : Nat, k ≤ n ∧ s = .int .i64 (sumL (l.take k)) ∧ i = .int .i64 (k : Int) ∧ Below w.heap.size w wr) (fun _ i _ => n - (intOf i).toNat)
 case atStart => exact ⟨0, by omega, rfl, rfl, Below.refl _ _⟩
 case round =>
  obtain ⟨k, hk, rfl, rfl, hb⟩ := hrel
  by_cases hlt : k < n
  case pos =>
   have hltI : (k : Int) < (n : Int) := by omega
   have hkl : k < l.length := by rw [HN.out]; exact hlt
   obtain ⟨b, o, es, hAe, hbw, hes, hat⟩ := ListC.get HL.out k hkl
   subst hAe
   have hes1 := (LineC.lit hes).1
   rw [hes1] at hat
   have HSU := Lib.hid (sumL_succ hkl)
   have hB1 := HS.out k
   have hB2 := HS.out (k + 1)
   rw [HSU.out] at hB2
   obtain ⟨x, hx⟩ : ∃ x, l[k] = x := ⟨_, rfl⟩
   rw [hx] at hat hB2
   have HX := Lib.hid hx
   obtain ⟨la, lm, lp⟩ := x
   simp only at hat hB2
   obtain ⟨S, hS⟩ : ∃ S, sumL (l.take k) = S := ⟨_, rfl⟩
   rw [hS] at hB1 hB2 ⊢
   have HSS := Lib.hid hS
   obtain ⟨hB3, hB4⟩ := hB1
   obtain ⟨hB5, hB6⟩ := hB2
   have hatw := hat.fr (Fr.ofBelow hb)
   have c6 := hatw.c (j := 1) rfl
   clear hes hes1 hat hatw hx hS
   go_wp2_with fail
   go_roundw
   case rel => exact ⟨k + 1, by omega, by rw [HSU.out, HX.out, HSS.out]; first | done | go_num, by go_num, hb⟩
   case measure => first | exact meas_v hlt | (simp only [intOf]; omega)
  case neg =>
   have hltI : ¬ (k : Int) < (n : Int) := by omega
   obtain ⟨S, hS⟩ : ∃ S, sumL (l.take k) = S := ⟨_, rfl⟩
   rw [hS]
   have hf := Lib.hid (show r = S by rw [← HR.out, ← hS, show k = n from by omega, ← HN.out, List.take_length])
   clear hS
   go_wp2_with fail
   go_ret
   exact ⟨by rw [hf.out]; first | done | rfl, hb⟩
theorem mon_next {n : Int} (hy : inY (n / 12)) : lasI n + 1 = monI (n + 1) := by
 unfold lasI monI
 obtain ⟨k, hk⟩ : ∃ k : Nat, n % 12 = (k : Int) := ⟨(n % 12).toNat, by omega⟩
 rcases Int.lt_or_le (n % 12) 11 with h | h
 · rw [show (n + 1) / 12 = n / 12 by omega, show ((n + 1) % 12).toNat = k + 1 by omega, show (n % 12).toNat = k by omega, sumD, hk]
   omega
 · rw [show (n + 1) / 12 = n / 12 + 1 by omega, show ((n + 1) % 12).toNat = 0 by omega, show (n % 12).toNat = 11 by omega, show n % 12 + 1 = 12 by omega]
   have h1 := sumD_last hy
   have h2 := beginI_succ (n / 12)
   have h3 : sumD (n / 12) 12 = sumD (n / 12) 11 + daysI (n / 12) 12 := by rw [sumD]; rfl
   have h4 : sumD (n / 12 + 1) 0 = 0 := rfl
   omega
theorem mon_le {a b : Int} (ha : inY (a / 12)) (hb : inY (b / 12)) (h : a ≤ b) : monI a ≤ monI b := by
 by_cases e : a / 12 = b / 12
 · unfold monI
   rw [e]
   have := sumD_mono (y := b / 12) (show (a % 12).toNat ≤ (b % 12).toNat by omega)
   omega
 · have h1 := (monI_civ ha).year
   have h2 := (monI_civ hb).year
   have h3 := beginI_mono (show a / 12 + 1 ≤ b / 12 by omega)
   omega
theorem mon_lt {a b : Int} (ha : inY (a / 12)) (hb : inY (b / 12)) (h : a < b) : lasI a < monI b := by
 have h1 := mon_next ha
 have h2 := mon_le (a := a + 1) (b := b) (by unfold inY at *; omega) hb (by omega)
 omega
theorem mon_las {a : Int} (ha : inY (a / 12)) : monI a ≤ lasI a := by
 have h1 := (monI_civ ha).2.2.2.2.1
 unfold lasI
 omega
theorem civ_mon {d y m k : Int} (h : CivP d y m k) : monI (12 * y + m - 1) ≤ d ∧ d ≤ lasI (12 * y + m - 1) ∧ (12 * y + m - 1) / 12 = y := by
 obtain ⟨hy, h1, h2, h3, h4, h5⟩ := h
 have e1 : (12 * y + m - 1) / 12 = y := by omega
 have e2 : (12 * y + m - 1) % 12 = m - 1 := by omega
 unfold lasI monI
 rw [e1, e2, show m - 1 + 1 = m by omega]
 exact ⟨by omega, by omega, rfl⟩
def perP (y m n d : Int) : Option Nat := (List.range n.toNat).find? (fun p => decide (monI (perI y m p) ≤ d ∧ d ≤ lasI (perI y m p)))
def calPer (y m n d : Int) : Int × Int := match perP y m n d with
 | some p => ((p : Int), 0)
 | none => (0, 2)
def inCalB (y m n d : Int) : Bool := decide (monI (perI y m 0) ≤ d ∧ d ≤ lasI (perI y m (n - 1)))
section
variable {y m n d : Int}
theorem calB_at (hc : calB y m n = true) {p : Nat} (hp : p < n.toNat) : inY (perI y m p / 12) := (calB_in hc (q := (p : Int)) (by omega) (by omega)).2.2.2.2.2
theorem per_some (hc : calB y m n = true) {p : Nat} (h : perP y m n d = some p) : p < n.toNat ∧ monI (perI y m p) ≤ d ∧ d ≤ lasI (perI y m p) := by
 unfold perP at h
 have h1 := List.find?_some h
 have h2 := List.mem_of_find?_eq_some h
 exact ⟨List.mem_range.1 h2, by simpa using h1⟩
theorem per_uniq (hc : calB y m n = true) {N : Int} (hN : inY (N / 12)) (h1 : monI N ≤ d) (h2 : d ≤ lasI N) {p : Nat} (hp : p < n.toNat) (h3 : monI (perI y m p) ≤ d) (h4 : d ≤ lasI (perI y m p)) : perI y m p = N := by
 have hq := calB_at hc hp
 rcases Int.lt_trichotomy (perI y m p) N with h | h | h
 · have := mon_lt hq hN h; omega
 · exact h
 · have := mon_lt hN hq h; omega
theorem per_civ (hc : calB y m n = true) {y' m' k : Int} (h : CivP d y' m' k) : calPer y m n d = if 12 * y' + m' - 12 * y - m < 0 ∨ n ≤ 12 * y' + m' - 12 * y - m then (0, 2) else (12 * y' + m' - 12 * y - m, 0) := by
 obtain ⟨h1, h2, h3⟩ := civ_mon h
 have hN : inY ((12 * y' + m' - 1) / 12) := by rw [h3]; exact h.1
 have hn := (calB_in hc (q := 0) (by omega) (by have := of_decide_eq_true hc; omega)).2.2.2.1
 unfold calPer
 cases hp : perP y m n d with
 | some p =>
  obtain ⟨a1, a2, a3⟩ := per_some hc hp
  have e := per_uniq hc hN h1 h2 a1 a2 a3
  unfold perI at e
  rw [if_neg (by omega)]
  simp only [Prod.mk.injEq, and_true]
  omega
 | none =>
  rw [if_pos]
  rcases Int.lt_or_le (12 * y' + m' - 12 * y - m) 0 with h0 | h0
  · exact Or.inl h0
  · right
    rcases Int.lt_or_le (12 * y' + m' - 12 * y - m) n with h5 | h5
    · exfalso
      unfold perP at hp
      rw [List.find?_eq_none] at hp
      have := hp (12 * y' + m' - 12 * y - m).toNat (List.mem_range.2 (by omega))
      apply this
      have e : perI y m ((12 * y' + m' - 12 * y - m).toNat : Int) = 12 * y' + m' - 1 := by unfold perI; omega
      rw [e]
      exact decide_eq_true ⟨h1, h2⟩
    · exact h5
theorem per_inD (hc : calB y m n = true) {p : Nat} (hp : p < n.toNat) (h3 : monI (perI y m p) ≤ d) (h4 : d ≤ lasI (perI y m p)) : inD d := by
 have hq := calB_at hc hp
 have a := monI_in hq
 have b := (monI_civ hq).year
 have hb := beginI_mono (show perI y m p / 12 + 1 ≤ 2200 by have := hq.2; omega)
 rw [beg2200] at hb
 have h5 : lasI (perI y m p) < beginI (perI y m p / 12 + 1) := by
  have hd := daysI_ge (y := perI y m p / 12) (m := perI y m p % 12 + 1) hq (by omega) (by omega)
  have hci : CivP (lasI (perI y m p)) (perI y m p / 12) (perI y m p % 12 + 1) (daysI (perI y m p / 12) (perI y m p % 12 + 1)) := by
   refine ⟨hq, by omega, by omega, by omega, Int.le_refl _, ?_⟩
   unfold lasI monI
   rw [show perI y m p % 12 + 1 - 1 = perI y m p % 12 from by omega]
  exact hci.year.2
 unfold inD at *
 have := hq.2
 omega
theorem per_out (hc : calB y m n = true) (h : ¬ inD d) : calPer y m n d = (0, 2) := by
 unfold calPer
 cases hp : perP y m n d with
 | none => rfl
 | some p =>
  obtain ⟨a1, a2, a3⟩ := per_some hc hp
  exact absurd (per_inD hc a1 a2 a3) h
theorem per_in (hc : calB y m n = true) : (calPer y m n d).2 = if inCalB y m n d = true then 0 else 2 := by
 have hn := of_decide_eq_true hc
 have h0 := calB_at hc (p := 0) (by omega)
 have h9 := calB_at hc (p := (n - 1).toNat) (by omega)
 have e9 : perI y m ((n - 1).toNat : Int) = perI y m (n - 1) := by unfold perI; omega
 rw [e9] at h9
 have h0' : inY (perI y m 0 / 12) := h0
 unfold calPer
 cases hp : perP y m n d with
 | some p =>
  obtain ⟨a1, a2, a3⟩ := per_some hc hp
  have hq := calB_at hc a1
  rw [if_pos]
  refine decide_eq_true ⟨Int.le_trans (mon_le h0' hq (by unfold perI; omega)) a2, ?_⟩
  rcases Int.lt_or_le (perI y m p) (perI y m (n - 1)) with h | h
  · have := mon_lt hq h9 h
    have := mon_las h9
    omega
  · have : perI y m p = perI y m (n - 1) := by unfold perI at h ⊢; omega
    rw [← this]
    exact a3
 | none =>
  rw [if_neg]
  intro hin
  obtain ⟨b1, b2⟩ := of_decide_eq_true hin
  have key : ∀ j : Nat, j < n.toNat → monI (perI y m j) ≤ d := by
   intro j
   induction j with
   | zero => exact fun _ => b1
   | succ j ih =>
    intro hj
    have hq := calB_at hc (p := j) (by omega)
    have h1 := ih (by omega)
    have h2 := mon_next hq
    have e : perI y m j + 1 = perI y m ((j + 1 : Nat) : Int) := by unfold perI; omega
    rw [e] at h2
    unfold perP at hp
    rw [List.find?_eq_none] at hp
    have h3 := hp j (List.mem_range.2 (by omega))
    have h4 : ¬ (monI (perI y m j) ≤ d ∧ d ≤ lasI (perI y m j)) := by simpa using h3
    omega
  have h1 := key (n - 1).toNat (by omega)
  unfold perP at hp
  rw [List.find?_eq_none] at hp
  have h3 := hp (n - 1).toNat (List.mem_range.2 (by omega))
  apply h3
  rw [e9] at h1 ⊢
  exact decide_eq_true ⟨h1, b2⟩
end
theorem info_cal : (Tryz.prog.info? 23).map (·.size) = some 3 := by kernel_rfl
set_option maxHeartbeats 1000000 in
theorem period_c (y m n d : Int) (w : World) (hc : calB y m n = true) (hd : intBd d) : Calls Tryz.prog 156 #[.agg #[.int .i64 y, .int .i64 m, .int .i64 n], .int .i64 d] w (Quiet w (.tuple #[.int .i64 (calPer y m n d).1, .int .i64 (calPer y m n d).2])) := by
 obtain ⟨r, hr⟩ : ∃ r, calPer y m n d = r := ⟨_, rfl⟩
 rw [hr]
 have hbd := of_decide_eq_true hc
 obtain ⟨hm1, hm2, hn1, hn2, ⟨hy1, hy2⟩, _⟩ := hbd
 have HC := Lib.hid hc
 have HR := Lib.hid hr
 have HD := Lib.hid hd
 clear hc hr hd
 go_enter Tryz.func156, Tryz.ntmps156
 go_upto_region 1 with fail
 have H0 := heap_alloc_new w (.cells #[.int .i64 y, .int .i64 m, .int .i64 n] 23)
 have HB0 := below1 w (.cells #[.int .i64 y, .int .i64 m, .int .i64 n] 23)
 have HS0 := blk_lt H0
 generalize hW0 : w.alloc (Obj.cells #[.int .i64 y, .int .i64 m, .int .i64 n] 23) = W at *
 clear hW0
 have HG := Lib.hid H0
 clear H0
 go_wp2_with (show wpList _ _ _ (Oper.mk (some 11) _ _ _ _ _ :: _) _ _; refine wpList_load_row_g rfl 23 (.tmp 2) rfl w.heap.size rfl _ _ _ _ HG.out Tryz.underlying23 rfl info_cal ?_)
 refine (calValid_c y m n W).mono ?_
 rintro e w2 ⟨rfl, hb2⟩
 rw [HC.out]
 have hb02 := HB0.trans (hb2.mono HB0.size)
 have HG2 := Lib.hid ((hb2.block _ HS0).trans HG.out)
 go_wp2_with fail
 refine (civil_c d w2 HD.out).mono ?_
 rintro e w3 ⟨y', m', k', er, rfl, hb3, hp⟩
 have hb03 := hb02.trans (hb3.mono hb02.size)
 have H3 := (hb3.block _ (Nat.lt_of_lt_of_le HS0 hb2.size)).trans HG2.out
 have c0 := blk_cell H3 0
 have c1 := blk_cell H3 1
 have c2 := blk_cell H3 2
 clear H3
 rcases hp with ⟨_, rfl, hp⟩ | ⟨hp, rfl, rfl, rfl, rfl⟩
 case inr =>
  have hf := Lib.hid (show r = (0, 2) from HR.out.symm.trans (per_out HC.out hp))
  clear hp
  go_wp2_with fail
  go_ret2
  exact ⟨by rw [hf.out]; first | done | rfl, hb03⟩
 case inl =>
 obtain ⟨⟨hy3, hy4⟩, hm3, hm4, _⟩ := id hp
 have HP := Lib.hid (per_civ HC.out hp)
 clear hp
 rw [HR.out] at HP
 have hb4 : -9000000000 ≤ 12 * y' + m' - 12 * y - m ∧ 12 * y' + m' - 12 * y - m ≤ 9000000000 := by omega
 obtain ⟨hb5, hb6⟩ := hb4
 by_cases h1 : 12 * y' + m' - 12 * y - m < 0
 case pos =>
  have hf := Lib.hid (show r = (0, 2) by rw [HP.out, if_pos (Or.inl h1)])
  go_wp2_with fail
  go_ret2
  exact ⟨by rw [hf.out]; first | done | rfl, hb03⟩
 case neg =>
 by_cases h2 : n ≤ 12 * y' + m' - 12 * y - m
 case pos =>
  have hf := Lib.hid (show r = (0, 2) by rw [HP.out, if_pos (Or.inr h2)])
  go_wp2_with fail
  go_ret2
  exact ⟨by rw [hf.out]; first | done | rfl, hb03⟩
 case neg =>
  have hf := Lib.hid (show r = (12 * y' + m' - 12 * y - m, 0) by rw [HP.out, if_neg (by omega)])
  go_wp2_with fail
  go_ret2
  exact ⟨by rw [hf.out]; first | done | rfl, hb03⟩
theorem calFirst_0 {y m n : Int} (hc : calB y m n = true) : calFirst y m n 0 = (monI (perI y m 0), 0) := by
 have hn := of_decide_eq_true hc
 unfold calFirst calCheck
 rw [if_pos (by rw [if_pos hc, if_pos (by omega)])]
theorem calLast_9 {y m n : Int} (hc : calB y m n = true) : calLast y m n (n - 1) = (lasI (perI y m (n - 1)), 0) := by
 have hn := of_decide_eq_true hc
 unfold calLast calCheck
 rw [if_pos (by rw [if_pos hc, if_pos (by omega)])]
set_option maxHeartbeats 1000000 in
theorem inCal_c (y m n d : Int) (w : World) (hc : calB y m n = true) : Calls Tryz.prog 161 #[.agg #[.int .i64 y, .int .i64 m, .int .i64 n], .int .i64 d] w (Quiet w (.bool (inCalB y m n d))) := by
 obtain ⟨r, hr⟩ : ∃ r, inCalB y m n d = r := ⟨_, rfl⟩
 rw [hr]
 have hbd := of_decide_eq_true hc
 obtain ⟨hm1, hm2, hn1, hn2, _⟩ := hbd
 have HC := Lib.hid hc
 have HR := Lib.hid hr
 have h0 := Lib.hid (calFirst_0 hc)
 have h9 := Lib.hid (calLast_9 hc)
 obtain ⟨A, hA⟩ : ∃ A, monI (perI y m 0) = A := ⟨_, rfl⟩
 obtain ⟨B, hB⟩ : ∃ B, lasI (perI y m (n - 1)) = B := ⟨_, rfl⟩
 rw [hA] at h0
 rw [hB] at h9
 have HDEF := Lib.hid (show r = decide (A ≤ d ∧ d ≤ B) by rw [← hr, ← hA, ← hB]; rfl)
 clear hc hr hA hB
 go_enter Tryz.func161, Tryz.ntmps161
 go_upto_region 1 with fail
 have H0 := heap_alloc_new w (.cells #[.int .i64 y, .int .i64 m, .int .i64 n] 23)
 have HB0 := below1 w (.cells #[.int .i64 y, .int .i64 m, .int .i64 n] 23)
 have HS0 := blk_lt H0
 generalize hW0 : w.alloc (Obj.cells #[.int .i64 y, .int .i64 m, .int .i64 n] 23) = W at *
 clear hW0
 have HG := Lib.hid H0
 clear H0
 go_wp2_with (show wpList _ _ _ (Oper.mk (some 10) _ _ _ _ _ :: _) _ _; refine wpList_load_row_g rfl 23 (.tmp 2) rfl w.heap.size rfl _ _ _ _ HG.out Tryz.underlying23 rfl info_cal ?_)
 refine (rcalFirst_c y m n 0 W).mono ?_
 rintro e w2 ⟨rfl, hb2⟩
 rw [h0.out]
 have hb02 := HB0.trans (hb2.mono HB0.size)
 have HG2 := Lib.hid ((hb2.block _ HS0).trans HG.out)
 have c2 := blk_cell HG2.out 2
 go_wp2_with (show wpList _ _ _ (Oper.mk (some 15) _ _ _ _ _ :: _) _ _; refine wpList_load_row_g rfl 23 (.tmp 2) rfl w.heap.size rfl _ _ _ _ HG2.out Tryz.underlying23 rfl info_cal ?_)
 refine (rcalLast_c y m n (n - 1) w2).mono ?_
 rintro e w3 ⟨rfl, hb3⟩
 rw [h9.out]
 have hb03 := hb02.trans (hb3.mono hb02.size)
 by_cases h1 : A ≤ d
 case neg =>
  have hf := Lib.hid (show r = false by rw [HDEF.out]; exact decide_eq_false (fun h => h1 h.1))
  have h1' : ¬ d ≥ A := h1
  go_wp2_with fail
  go_ret
  exact ⟨by rw [hf.out]; first | done | rfl, hb03⟩
 case pos =>
 have h1' : d ≥ A := h1
 by_cases h2 : d ≤ B
 case neg =>
  have hf := Lib.hid (show r = false by rw [HDEF.out]; exact decide_eq_false (fun h => h2 h.2))
  have h2d : decide (d ≤ B) = false := decide_eq_false h2
  go_wp2_with fail
  go_ret
  exact ⟨by rw [hf.out]; first | done | rfl, hb03⟩
 case pos =>
  have hf := Lib.hid (show r = true by rw [HDEF.out]; exact decide_eq_true ⟨h1, h2⟩)
  go_wp2_with fail
  go_ret
  exact ⟨by rw [hf.out]; first | done | rfl, hb03⟩
def lineB (ne ent : Int) (l : XLine) : Bool := decide (l.amount ≠ 0) && monB l.amount && decide (-1 ≤ l.partner) && decide (l.partner < ne) && decide (l.partner ≠ ent)
def formB (gv : Bool) (ne : Int) (x : XEntry) : Bool := gv && decide (1 ≤ x.id) && decide (0 ≤ x.entity) && decide (x.entity < ne) && decide (1 ≤ x.kind) && decide (x.kind ≤ 3) && decide (x.kind = 3 → 1 ≤ x.of_) && decide (x.kind ≠ 3 → x.of_ = 0) && printB x.text && decide (2 ≤ x.lines.length) && decide (x.lines.length ≤ 40) && x.lines.all (lineB ne x.entity)
def Formed (gv : Bool) (ne : Int) (x : XEntry) : Prop := gv = true ∧ 1 ≤ x.id ∧ 0 ≤ x.entity ∧ x.entity < ne ∧ 1 ≤ x.kind ∧ x.kind ≤ 3 ∧ (x.kind = 3 → 1 ≤ x.of_) ∧ (x.kind ≠ 3 → x.of_ = 0) ∧ printB x.text = true ∧ 2 ≤ x.lines.length ∧ x.lines.length ≤ 40 ∧ ∀ l ∈ x.lines, lineB ne x.entity l = true
theorem formB_iff (gv : Bool) (ne : Int) (x : XEntry) : formB gv ne x = true ↔ Formed gv ne x := by
 unfold formB Formed
 simp only [Bool.and_eq_true, decide_eq_true_eq, List.all_eq_true, and_assoc]
theorem lineB_iff (ne ent : Int) (l : XLine) : lineB ne ent l = true ↔ l.amount ≠ 0 ∧ monB l.amount = true ∧ -1 ≤ l.partner ∧ l.partner < ne ∧ l.partner ≠ ent := by
 unfold lineB
 simp only [Bool.and_eq_true, decide_eq_true_eq, and_assoc]
theorem info_entry : (Tryz.prog.info? 46).map (·.size) = some 7 := by kernel_rfl
set_option maxHeartbeats 4000000 in
theorem formed_c (G : Array Value) (Ae : Option Addr) (ne ce : Nat) (gv : Bool) (xi xe xd xk xo : Int) (xt : ByteArray) (ls : List XLine) (Al : Option Addr) (cl : Nat) (w : World) (hGs : G.size = 21) (hG20 : G[20]? = some (.slice Ae ne ce)) (hne : ne ≤ 1000)
 (hv : ∀ w2 : World, Below w.heap.size w w2 → Calls Tryz.prog 36 #[.agg G] w2 (Quiet w2 (.bool gv))) (hx : intBd xi ∧ intBd xe ∧ intBd xd ∧ intBd xk ∧ intBd xo) (hts : xt.size ≤ 140737488355327) (hl : ListC LineC 3 w (· < w.heap.size) [.slice Al ls.length cl] ls) : Calls Tryz.prog 138 #[.agg G, .agg #[.int .i64 xi, .int .i64 xe, .int .i64 xd, .int .i64 xk, .int .i64 xo, .string xt, .slice Al ls.length cl]] w (Quiet w (.int .i64 (if formB gv ne ⟨xi, xe, xd, xk, xo, xt, ls⟩ = true then 0 else 1))) := by
 obtain ⟨r, hr⟩ : ∃ r, formB gv ne ⟨xi, xe, xd, xk, xo, xt, ls⟩ = r := ⟨_, rfl⟩
 have hFM : r = true → Formed gv ne ⟨xi, xe, xd, xk, xo, xt, ls⟩ := fun h => (formB_iff _ _ _).1 (hr.trans h)
 have hFT : Formed gv ne ⟨xi, xe, xd, xk, xo, xt, ls⟩ → r = true := fun h => hr.symm.trans ((formB_iff _ _ _).2 h)
 rw [hr]
 unfold Formed at hFM hFT
 simp only at hFM hFT
 have HFM := Lib.hid hFM
 have HFT := Lib.hid hFT
 have hbn := hl.cap
 obtain ⟨nl, hnl⟩ : ∃ n, ls.length = n := ⟨_, rfl⟩
 have HL := Lib.hid hl
 have HN := Lib.hid hnl
 have HG20 := Lib.hid hG20
 have HGS := Lib.hid hGs
 have HV := Lib.hid hv
 rw [hnl] at hbn ⊢
 unfold maxLen at hbn
 have hn9 : nl ≤ 9223372036854775807 := by omega
 obtain ⟨⟨hxi, hxi2⟩, ⟨hxe, hxe2⟩, _, ⟨hxk, hxk2⟩, ⟨hxo, hxo2⟩⟩ := hx
 clear hr hFM hFT hl hnl hGs hG20 hv hbn
 obtain ⟨R, hR⟩ : ∃ R : Int, (if r = true then (0 : Int) else 1) = R := ⟨_, rfl⟩
 rw [hR]
 have HE := Lib.hid hR.symm
 clear hR
 go_enter Tryz.func138, Tryz.ntmps138
 go_upto_region 1 with fail
 have H := heap_alloc_new w (.cells G 29)
 have HB := below1 w (.cells G 29)
 have HS := blk_lt H
 generalize hW : w.alloc (Obj.cells G 29) = W at *
 have H2 := heap_alloc_new W (.cells #[.int .i64 xi, .int .i64 xe, .int .i64 xd, .int .i64 xk, .int .i64 xo, .string xt, .slice Al nl cl] 46)
 have HB2 := below1 W (.cells #[.int .i64 xi, .int .i64 xe, .int .i64 xd, .int .i64 xk, .int .i64 xo, .string xt, .slice Al nl cl] 46)
 have HS2 := blk_lt H2
 replace H := alloc_keep H (Obj.cells #[.int .i64 xi, .int .i64 xe, .int .i64 xd, .int .i64 xk, .int .i64 xo, .string xt, .slice Al nl cl] 46)
 generalize hW2 : W.alloc (Obj.cells #[.int .i64 xi, .int .i64 xe, .int .i64 xd, .int .i64 xk, .int .i64 xo, .string xt, .slice Al nl cl] 46) = W2 at *
 clear hW2
 have eW : W.heap.size = w.heap.size + 1 := by rw [← hW]; simp
 rw [eW] at H2
 clear hW
 have hb2 := HB.trans (HB2.mono HB.size)
 have hs2 := HB2.size
 have LT1 := blk_lt H2
 have LT0 : w.heap.size < W2.heap.size := by omega
 have HH := Lib.hid H
 have HZ := Lib.hid H2
 have EW := Lib.hid eW
 clear H H2 eW
 have hb02 := hb2
 have LT02 := LT0
 have LT12 := LT1
 have HH2 := HH
 have HZ2 := HZ
 have g20 := (blk_cell HH2.out 20).trans HG20.out
 go_wp2_with (show wpList _ _ _ (Oper.mk (some 12) _ _ _ _ _ :: _) _ _; refine wpList_load_row_g rfl 29 (.tmp 2) rfl (w.heap.size) rfl _ _ _ _ HH2.out Tryz.underlying29 rfl (by rw [info_group]; exact congrArg some HGS.out.symm) ?_)
 refine (HV.out W2 hb2).mono ?_
 rintro e w3 ⟨rfl, hb3⟩
 have hb03 := hb02.trans (hb3.mono hb02.size)
 have hs3 := hb3.size
 have LT03 := Nat.lt_of_lt_of_le LT02 hs3
 have LT13 := Nat.lt_of_lt_of_le LT12 hs3
 have HH3 := Lib.hid ((hb3.block _ LT02).trans HH2.out)
 have HZ3 := Lib.hid ((hb3.block _ LT12).trans HZ2.out)
 have e0 := blk_cell HZ3.out 0
 have e1 := blk_cell HZ3.out 1
 have e3 := blk_cell HZ3.out 3
 have e4 := blk_cell HZ3.out 4
 have e5 := blk_cell HZ3.out 5
 cases gv with
 | false =>
  have hf := Lib.hid (show r = false by exact Bool.eq_false_iff.2 (fun h0 => absurd (HFM.out h0).1 (by decide)))
  go_wp2_with fail
  go_ret
  exact ⟨by rw [HE.out, hf.out]; first | done | rfl, hb03⟩
 | true =>
 by_cases hid : 1 ≤ xi
 case neg =>
  have hf := Lib.hid (show r = false by exact Bool.eq_false_iff.2 (fun h0 => absurd (HFM.out h0).2.1 hid))
  go_wp2_with fail
  go_ret
  exact ⟨by rw [HE.out, hf.out]; first | done | rfl, hb03⟩
 case pos =>
 by_cases he0 : 0 ≤ xe
 case neg =>
  have hf := Lib.hid (show r = false by exact Bool.eq_false_iff.2 (fun h0 => absurd (HFM.out h0).2.2.1 he0))
  go_wp2_with fail
  go_ret
  exact ⟨by rw [HE.out, hf.out]; first | done | rfl, hb03⟩
 case pos =>
 have hen' : True := trivial
 by_cases hen : xe < (ne : Int)
 case neg =>
  have hen2 : (ne : Int) ≤ xe := by omega
  have hen3 : xe ≥ (ne : Int) := hen2
  have hf := Lib.hid (show r = false by exact Bool.eq_false_iff.2 (fun h0 => absurd (HFM.out h0).2.2.2.1 hen))
  go_wp2_with fail
  go_ret
  exact ⟨by rw [HE.out, hf.out]; first | done | rfl, hb03⟩
 case pos =>
 have hen2 : ¬ xe ≥ (ne : Int) := by omega
 by_cases hk1 : 1 ≤ xk
 case neg =>
  have hf := Lib.hid (show r = false by exact Bool.eq_false_iff.2 (fun h0 => absurd (HFM.out h0).2.2.2.2.1 hk1))
  go_wp2_with fail
  go_ret
  exact ⟨by rw [HE.out, hf.out]; first | done | rfl, hb03⟩
 case pos =>
 by_cases hk3 : xk ≤ 3
 case neg =>
  have hk4 : xk > 3 := by omega
  have hf := Lib.hid (show r = false by exact Bool.eq_false_iff.2 (fun h0 => absurd (HFM.out h0).2.2.2.2.2.1 hk3))
  go_wp2_with fail
  go_ret
  exact ⟨by rw [HE.out, hf.out]; first | done | rfl, hb03⟩
 case pos =>
 have hk4 : ¬ xk > 3 := by omega
 have key : ∀ (K : Prop), ((xk = 3 → 1 ≤ xo) ∧ (xk ≠ 3 → xo = 0) → K) → ((¬ ((xk = 3 → 1 ≤ xo) ∧ (xk ≠ 3 → xo = 0))) → K) → K := fun K a b => by
  by_cases h : (xk = 3 → 1 ≤ xo) ∧ (xk ≠ 3 → xo = 0)
  · exact a h
  · exact b h
 have KEY := Lib.hid key
 clear key
 refine KEY.out _ (fun hof => ?_) (fun hof => ?_)
 case refine_2 =>
  clear KEY
  have hf := Lib.hid (show r = false from Bool.eq_false_iff.2 (fun h0 => hof ⟨(HFM.out h0).2.2.2.2.2.2.1, (HFM.out h0).2.2.2.2.2.2.2.1⟩))
  by_cases hk : xk = 3
  case pos =>
   have ho : xo < 1 := by
    rcases Int.lt_or_le xo 1 with h | h
    · exact h
    · exact absurd ⟨fun _ => h, fun h => absurd hk h⟩ hof
   clear hof
   subst hk
   go_wp2_with fail
   go_ret
   exact ⟨by rw [HE.out, hf.out]; first | done | rfl, hb03⟩
  case neg =>
   have ho : ¬ xo = 0 := fun h => hof ⟨fun h => absurd h hk, fun _ => h⟩
   clear hof
   have hk1 : (xk == 3) = false := by simpa using hk
   have hk2 : (xk != 3) = true := by simpa using hk
   have ho1 : (xo != 0) = true := by simpa using ho
   go_wp2_with fail
   go_ret
   exact ⟨by rw [HE.out, hf.out]; first | done | rfl, hb03⟩
 case refine_1 =>
 clear KEY
 have HOF := Lib.hid hof
 -- the tests of the kind are passed
 have hpass : (xk = 3 ∧ 1 ≤ xo) ∨ (¬ xk = 3 ∧ xo = 0) := by
  by_cases hk : xk = 3
  · exact Or.inl ⟨hk, hof.1 hk⟩
  · exact Or.inr ⟨hk, hof.2 hk⟩
 clear hof
 obtain ⟨pt, hpt⟩ : ∃ v, printB xt = v := ⟨_, rfl⟩
 have HPC := Lib.hid (fun w2 : World => plain_c xt w2 hts)
 rw [hpt] at HPC
 have HPT := Lib.hid hpt
 clear hpt
 rcases hpass with ⟨hk, ho⟩ | ⟨hk, ho⟩
 case' inl =>
  have hk2 : (xk == 3) = true := by simpa using hk
  have ho2 : ¬ xo < 1 := by omega
  have HK := Lib.hid hk
  clear hk
 case' inr =>
  have hk2 : (xk == 3) = false := by simpa using hk
  have ho2 : (xo != 0) = false := by simpa using ho
  have HK := Lib.hid hk
  clear hk
 case' inl => have hk5 : (xk != 3) = false := by simp [HK.out]
 case' inr => have hk5 : (xk != 3) = true := by simpa using HK.out
 case' inl => clear ho
 case' inr => clear ho
 all_goals
  go_wp2_with fail
  refine (HPC.out w3).mono ?_
  rintro e w4 ⟨rfl, hb4⟩
  clear hk2 hk5 ho2 HK
  have hb04 := hb03.trans (hb4.mono hb03.size)
  have hs4 := hb4.size
  have LT04 := Nat.lt_of_lt_of_le LT03 hs4
  have LT14 := Nat.lt_of_lt_of_le LT13 hs4
  have HH4 := Lib.hid ((hb4.block _ LT03).trans HH3.out)
  have HZ4 := Lib.hid ((hb4.block _ LT13).trans HZ3.out)
  have e6 := blk_cell HZ4.out 6
  cases pt with
  | false =>
   have hf := Lib.hid (show r = false by exact Bool.eq_false_iff.2 (fun h0 => absurd (HFM.out h0).2.2.2.2.2.2.2.2.1 (by rw [HPT.out]; decide)))
   go_wp2_with fail
   go_ret
   exact ⟨by rw [HE.out, hf.out]; first | done | rfl, hb04⟩
  | true =>
  by_cases hl2 : 2 ≤ nl
  case neg =>
   have hl2I : (nl : Int) < 2 := by omega
   have hf := Lib.hid (show r = false by exact Bool.eq_false_iff.2 (fun h0 => hl2 (by rw [← HN.out]; exact (HFM.out h0).2.2.2.2.2.2.2.2.2.1)))
   go_wp2_with fail
   go_ret
   exact ⟨by rw [HE.out, hf.out]; first | done | rfl, hb04⟩
  case pos =>
  have hl2I : ¬ (nl : Int) < 2 := by omega
  by_cases hl4 : nl ≤ 40
  case neg =>
   have hl4I : (nl : Int) > 40 := by omega
   have hf := Lib.hid (show r = false by exact Bool.eq_false_iff.2 (fun h0 => hl4 (by rw [← HN.out]; exact (HFM.out h0).2.2.2.2.2.2.2.2.2.2.1)))
   go_wp2_with fail
   go_ret
   exact ⟨by rw [HE.out, hf.out]; first | done | rfl, hb04⟩
  case pos =>
  have hl4I : ¬ (nl : Int) > 40 := by omega
  go_wp2_with fail
  clear e6
  go_loopw [64] (fun i wr => ∃ k : Nat, k ≤ nl ∧ i = .int .i64 (k : Int) ∧ Below w4.heap.size w4 wr ∧ ∀ j (hj : j < ls.length), j < k → lineB ne xe ls[j] = true) (fun i _ => nl - (intOf i).toNat)
  case atStart => exact ⟨0, by omega, rfl, Below.refl _ _, fun j hj h => by omega⟩
  case round =>
   obtain ⟨k, hk', rfl, hb, hall⟩ := hrel
   have HA := Lib.hid hall
   clear hall
   by_cases hlt : k < nl
   case pos =>
    have hltI : (k : Int) < (nl : Int) := by omega
    have hkl : k < ls.length := by rw [HN.out]; exact hlt
    obtain ⟨b, o, es, hAe, hbw, hes, hat⟩ := ListC.get HL.out k hkl
    subst hAe
    have hes1 := (LineC.lit hes).1
    have hbd := (LineC.lit hes).2
    rw [hes1] at hat
    have HMEM := Lib.hid (List.getElem_mem hkl)
    obtain ⟨x, hx⟩ : ∃ x, ls[k] = x := ⟨_, rfl⟩
    rw [hx] at hat hbd HMEM
    have HX := Lib.hid hx
    obtain ⟨la, lm, lp⟩ := x
    have HLB := Lib.hid (fun h => (lineB_iff ne xe ⟨la, lm, lp⟩).1 h)
    have HLT := Lib.hid (fun h => (lineB_iff ne xe ⟨la, lm, lp⟩).2 h)
    try simp only at hat
    obtain ⟨_, ⟨hm1, hm2⟩, ⟨hp1, hp2⟩⟩ := hbd
    simp only at hm1 hm2 hp1 hp2
    have hatw := (hat.fr (Fr.ofBelow hb04)).fr (Fr.ofBelow (hb.mono hb04.size))
    have HAR := Lib.hid hatw.range
    have LTr0 := Nat.lt_of_lt_of_le LT04 hb.size
    have LTr1 := Nat.lt_of_lt_of_le LT14 hb.size
    have HZr := Lib.hid ((hb.block _ LT14).trans HZ4.out)
    clear hes hes1 hat hatw hx
    go_upto_region 19 with (show wpList _ _ _ (Oper.mk (some 67) _ _ _ _ _ :: _) _ _; refine wpList_load_mid rfl 76 (.tmp 66) rfl b (o + k * 3) rfl [.int .i64 la, .int .i64 lm, .int .i64 lp] _ HAR.out Tryz.underlying76 rfl info_line ?_)
    have H6 := heap_alloc_new wr (.cells #[.int .i64 la, .int .i64 lm, .int .i64 lp] 76)
    have HB6 := below1 wr (.cells #[.int .i64 la, .int .i64 lm, .int .i64 lp] 76)
    have HS6 := blk_lt H6
    generalize hW6 : wr.alloc (Obj.cells #[.int .i64 la, .int .i64 lm, .int .i64 lp] 76) = W6 at *
    clear hW6
    have HK6 := Lib.hid H6
    have c1 := blk_cell HK6.out 1
    have c2 := blk_cell HK6.out 2
    clear H6
    have hb6 := hb.trans (HB6.mono hb.size)
    have hb06 := hb04.trans (hb6.mono hb04.size)
    by_cases ha : lm = 0
    case pos =>
     have ha1 : (lm == 0) = true := by simpa using ha
     have hf := Lib.hid (show r = false from Bool.eq_false_iff.2 (fun h0 => absurd ((HLB.out ((HFM.out h0).2.2.2.2.2.2.2.2.2.2.2 _ HMEM.out)).1) (fun h => h ha)))
     go_wp2_with fail
     go_ret
     exact ⟨by rw [HE.out, hf.out]; first | done | rfl, hb06⟩
    case neg =>
    have ha1 : (lm == 0) = false := by simpa using ha
    obtain ⟨mv, hmv⟩ : ∃ v, monB lm = v := ⟨_, rfl⟩
    have hcall := money_c lm W6
    rw [hmv] at hcall
    have HMV := Lib.hid hmv
    have HCALL := Lib.hid hcall
    clear hmv hcall
    go_wp2_with fail
    refine HCALL.out.mono ?_
    rintro e w7 ⟨rfl, hb7⟩
    have hb47 := hb6.trans (hb7.mono hb6.size)
    have hb07 := hb04.trans (hb47.mono hb04.size)
    clear c1 c2
    have c2 := blk_cell ((hb7.block _ HS6).trans HK6.out) 2
    have e1 := blk_cell ((hb7.block _ (Nat.lt_of_lt_of_le LTr1 HB6.size)).trans ((HB6.block _ LTr1).trans HZr.out)) 1
    cases mv with
    | false =>
     have hf := Lib.hid (show r = false from Bool.eq_false_iff.2 (fun h0 => absurd ((HLB.out ((HFM.out h0).2.2.2.2.2.2.2.2.2.2.2 _ HMEM.out)).2.1) (by rw [HMV.out]; decide)))
     go_wp2_with fail
     go_ret
     exact ⟨by rw [HE.out, hf.out]; first | done | rfl, hb07⟩
    | true =>
    by_cases hq1 : -1 ≤ lp
    case neg =>
     have hq1' : lp < -1 := by omega
     have hf := Lib.hid (show r = false from Bool.eq_false_iff.2 (fun h0 => absurd ((HLB.out ((HFM.out h0).2.2.2.2.2.2.2.2.2.2.2 _ HMEM.out)).2.2.1) hq1))
     go_wp2_with fail
     go_ret
     exact ⟨by rw [HE.out, hf.out]; first | done | rfl, hb07⟩
    case pos =>
    have hq1' : ¬ lp < -1 := by omega
    by_cases hq2 : lp < (ne : Int)
    case neg =>
     have hq2' : lp ≥ (ne : Int) := by omega
     have hf := Lib.hid (show r = false from Bool.eq_false_iff.2 (fun h0 => absurd ((HLB.out ((HFM.out h0).2.2.2.2.2.2.2.2.2.2.2 _ HMEM.out)).2.2.2.1) hq2))
     go_wp2_with fail
     go_ret
     exact ⟨by rw [HE.out, hf.out]; first | done | rfl, hb07⟩
    case pos =>
    have hq2' : ¬ lp ≥ (ne : Int) := by omega
    by_cases hq3 : lp = xe
    case pos =>
     have hq3' : (lp == xe) = true := by simpa using hq3
     have HQ3 := Lib.hid hq3
     clear hq3
     have hf := Lib.hid (show r = false from Bool.eq_false_iff.2 (fun h0 => absurd ((HLB.out ((HFM.out h0).2.2.2.2.2.2.2.2.2.2.2 _ HMEM.out)).2.2.2.2) (fun h => h HQ3.out)))
     go_wp2_with fail
     go_ret
     exact ⟨by rw [HE.out, hf.out]; first | done | rfl, hb07⟩
    case neg =>
     have hq3' : (lp == xe) = false := by simpa using hq3
     have HROW := Lib.hid (HLT.out ⟨ha, HMV.out, hq1, hq2, hq3⟩)
     go_wp2_with fail
     go_roundw
     case rel => exact ⟨k + 1, by omega, by go_num, hb47, fun j hj hjk => by
      rcases Nat.lt_or_ge j k with h | h
      · exact HA.out j hj h
      · have : j = k := by omega
        subst this
        rw [HX.out]
        exact HROW.out⟩
     case measure => first | exact meas_v hlt | (simp only [intOf]; omega)
   case neg =>
    have hltI : ¬ (k : Int) < (nl : Int) := by omega
    have HALL := Lib.hid (show ∀ l ∈ ls, lineB ne xe l = true from fun x hx => by
     obtain ⟨j, hj, rfl⟩ := List.getElem_of_mem hx
     exact HA.out j hj (by have := HN.out; omega))
    have hf := Lib.hid (show r = true from HFT.out ⟨by first | trivial | rfl, hid, he0, hen, hk1, hk3, HOF.out.1, HOF.out.2, HPT.out, by rw [HN.out]; exact hl2, by rw [HN.out]; exact hl4, HALL.out⟩)
    go_wp2_with fail
    go_ret
    exact ⟨by rw [HE.out, hf.out]; first | done | rfl, hb04.trans (hb.mono hb04.size)⟩
end Go.Proofs.YtekelchdbkjjjaaGreat
