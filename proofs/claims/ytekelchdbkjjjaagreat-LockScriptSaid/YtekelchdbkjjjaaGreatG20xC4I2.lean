/- Arguments of the program's types, opened to data, with the sizes of their texts. Written by gen_c4.py. -/
import Derived.Test.YtekelchdbkjjjaaGreatG20xB0B2
import Derived.Test.YtekelchdbkjjjaaGreatG20xB3B8
import Derived.Test.YtekelchdbkjjjaaGreatG20xB14
import Derived.Test.YtekelchdbkjjjaaGreatG20xB16
import Derived.Test.YtekelchdbkjjjaaGreatG20xB17B24
import Derived.Test.YtekelchdbkjjjaaGreatG20xB25B28
import Derived.Test.YtekelchdbkjjjaaGreatG20xB29B32
import Derived.Test.YtekelchdbkjjjaaGreatG20xB33C3
import Derived.Test.YtekelchdbkjjjaaGreatProg
import Derived.Deep.Slices
import Derived.Deep.Fields
import Derived.ChangeSame
import Derived.ProofKit
import Derived.OpenShut
import Derived.ShutString
import Derived.ChangeOld
import Derived.Below
import Derived.SizedLaws
import Derived.WideKeyEntry
import Derived.Maps.RangeWalk
import Derived.Maps.Views
import Derived.Sort.Grow
import Derived.Shelf.SlSortCmp.WholeK
import Derived.Shelf.SlSortCmp.NoneTotal
import Derived.IntWalk
set_option linter.unusedVariables false
set_option linter.unusedSimpArgs false
set_option maxRecDepth 4000
attribute [local go_sem ↓] Go.wp_at_zero Go.wp_at_succ
namespace Go.Proofs.YtekelchdbkjjjaaGreat
open Go Go.RowKit Go.ChangeShapes Go.WideShapes Go.Deep
theorem own : ownKnob Tryz.prog.godebug = none := by kernel_rfl
theorem laidOut : laidOutB Tryz.prog = true := by kernel_rfl
section
variable {H : Type} {enc : TypeId × Value → H} {W : World}
def Opens (enc : TypeId × Value → H) (W : World) (T : TypeId) {α : Type} (C : List Value → α → Prop) (Z : α → Prop) : Prop :=
 ∀ fuel cs x, DataW.trod enc Tryz.prog W 0 (fun _ => true) true fuel T cs = some x → (∀ b off, MemPlace.cell b off ∈ x.2 → W.frozen? ⟨b, off, none⟩ = false) → (∀ n ∈ x.1.weights Tryz.prog T, n ≤ reachBytes) → ∃ a, C cs a ∧ Z a
def zNone {α : Type} (_ : α) : Prop := True
def zList {α : Type} (Z : α → Prop) (l : List α) : Prop := ∀ x ∈ l, Z x
def zStr (s : ByteArray) : Prop := s.size ≤ 140737488355327
theorem opInt : Opens enc W 3 IntC zNone := fun fuel cs x h _ _ => by
 obtain ⟨n, rfl, _, hwf⟩ := DataW.trod_int Tryz.underlying3 h
 refine ⟨n, ⟨rfl, ?_⟩, trivial⟩
 simp only [Lit.wf, IntKind.min, IntKind.max, Bool.and_eq_true, decide_eq_true_eq] at hwf
 simp [IntKind.signed, IntKind.bits] at hwf
 unfold intBd; omega
theorem opStr : Opens enc W 9 StrC zStr := fun fuel cs x h _ hz => by
 obtain ⟨s, rfl, rfl, _⟩ := DataW.trod_string Tryz.underlying9 h
 have := hz s.data.toList.length (by simp [DataW.weights])
 have hr := reachBytes_lt
 refine ⟨s, rfl, ?_⟩
 unfold zStr
 have : s.size = s.data.toList.length := by first | rfl | simp
 omega
theorem opBool : Opens enc W 4 BoolC zNone := fun fuel cs x h _ _ => by
 obtain ⟨b, rfl, _⟩ := DataW.trod_bool Tryz.underlying4 h
 exact ⟨b, rfl, trivial⟩
theorem cells_at {a : Addr} {n k : Nat} {cs : List Value} (h : ∀ i, i < n → W.cell? ((a.add k).add i) = cs[i]?) : ∀ i, i < n → W.cell? (a.add (k + i)) = cs[i]? := fun i hi => by
 rw [← add_add']; exact h i hi
theorem weights_all {P : Program} {e : TypeId} : ∀ {ds : List (DataW H)} {d : DataW H}, d ∈ ds → ∀ n ∈ d.weights P e, n ∈ DataW.weightsAll P e ds
 | [], _, h, _, _ => by cases h
 | a :: r, d, h, n, hn => by
  simp only [DataW.weightsAll, List.mem_append]
  rcases List.mem_cons.1 h with rfl | h
  · exact Or.inl hn
  · exact Or.inr (weights_all h n hn)
theorem opList {α : Type} {El : World → (Nat → Prop) → List Value → α → Prop} {Z : α → Prop} {T E : TypeId} {size : Nat} (ht : Tryz.prog.underlying T = some (.slice E)) (hC : Tryz.prog.cellsOf E = size) (hs : 0 < size)
 (hE : Opens enc W E (El W (· < W.heap.size)) Z) : Opens enc W T (ListC El size W (· < W.heap.size)) (zList Z) := fun fuel cs x h hfz hz => by
 have hlt := DataW.trod_lt _ _ _ _ h
 rcases open_slice ht h with ⟨rfl, rfl⟩ | ⟨a, len, cap, m, n, Df, Pl, rfl, _, hl, hm, hmm, rfl, hi⟩
 · exact ⟨[], ⟨none, 0, rfl, by simp, by simp [maxLen], fun h => absurd h (by simp)⟩, fun x hx => by cases hx⟩
 · simp only [if_true] at hmm
   subst hmm
   rw [hC] at hi hlt hfz
   have key : ∀ i, i < len → ∃ es y, (∀ j, j < es.length → W.cell? (a.add (i * size + j)) = es[j]?) ∧ es.length = size ∧ El W (· < W.heap.size) es y ∧ Z y := by
    intro i hil
    have him : i < m := by omega
    obtain ⟨cs', hc, ht'⟩ := hi i him
    obtain ⟨_, hcl, hat⟩ := World.cells?_some hc
    obtain ⟨y, hy, hzy⟩ := hE _ _ _ ht' (fun b off hb => hfz b off (List.mem_append_right _ (List.mem_flatMap.2 ⟨i, List.mem_range.2 him, hb⟩))) (fun n hn => hz n (by
     simp only [DataW.weights, ht]
     exact List.mem_cons_of_mem _ (List.mem_append_left _ (weights_all (List.mem_map.2 ⟨i, List.mem_range.2 hil, rfl⟩) n hn))))
    exact ⟨cs', y, fun j hj => cells_at hat j (by omega), hcl, hy, hzy⟩
   have hlen : ∃ xs : List α, xs.length = len ∧ ∀ i x, xs[i]? = some x → ∃ es, (∀ j, j < es.length → W.cell? (a.add (i * size + j)) = es[j]?) ∧ es.length = size ∧ El W (· < W.heap.size) es x ∧ Z x := by
    have : ∀ k, k ≤ len → ∃ xs : List α, xs.length = k ∧ ∀ i x, xs[i]? = some x → ∃ es, (∀ j, j < es.length → W.cell? (a.add (i * size + j)) = es[j]?) ∧ es.length = size ∧ El W (· < W.heap.size) es x ∧ Z x := by
     intro k
     induction k with
     | zero => exact fun _ => ⟨[], rfl, fun i x h => by simp at h⟩
     | succ k ih =>
      intro hk
      obtain ⟨xs, hxl, hx⟩ := ih (by omega)
      obtain ⟨es, y, h1, h2, h3, h4⟩ := key k (by omega)
      refine ⟨xs ++ [y], by simp [hxl], fun i x hix => ?_⟩
      by_cases hik : i < xs.length
      · rw [List.getElem?_append_left hik] at hix
        exact hx i x hix
      · rw [List.getElem?_append_right (by omega)] at hix
        have h0 : i - xs.length = 0 := by
         have := (List.getElem?_eq_some_iff.1 hix).1
         simp at this; omega
        rw [h0] at hix
        simp at hix
        subst hix
        have : i = k := by omega
        subst this
        exact ⟨es, h1, h2, h3, h4⟩
    exact this len (Nat.le_refl _)
   obtain ⟨xs, rfl, hx⟩ := hlen
   refine ⟨xs, ⟨some a, m, rfl, hl, hm, fun hn => ?_⟩, fun x hx' => ?_⟩
   · have h0 := hx 0 xs[0] (List.getElem?_eq_getElem hn)
     obtain ⟨es0, hc0, hl0, _⟩ := h0
     have hcell0 := hc0 0 (by omega)
     rw [List.getElem?_eq_getElem (by omega)] at hcell0
     obtain ⟨b, off, spot⟩ := a
     have hspot : spot = none := by simpa [Addr.add] using World.cell?_spot hcell0
     subst hspot
     have hmem : ∀ q, q < m * size → MemPlace.cell b (off + q) ∈ MemPlace.row ⟨b, off, none⟩ (m * size) := fun q hq => MemPlace.mem_row.2 ⟨q, hq, rfl⟩
     have hms : 0 < m * size := Nat.mul_pos (by omega) hs
     refine ⟨b, off, rfl, hlt _ (List.mem_append_left _ (hmem 0 hms)), fun i x hix => ?_⟩
     obtain ⟨es, hc, hlE, hel, _⟩ := hx i x hix
     have hil : i < xs.length := (List.getElem?_eq_some_iff.1 hix).1
     refine ⟨es, hel, hlt _ (List.mem_append_left _ (hmem 0 hms)), fun j u hu => ?_⟩
     have hj : j < es.length := (List.getElem?_eq_some_iff.1 hu).1
     have e1 := hc j hj
     rw [add_plain] at e1
     rw [Addr.add_lit, Nat.add_assoc]
     refine ⟨e1.trans hu, hfz _ _ (List.mem_append_left _ (hmem (i * size + j) ?_))⟩
     have : i * size + size ≤ m * size := by rw [← Nat.succ_mul]; exact Nat.mul_le_mul_right _ (by omega)
     omega
   · obtain ⟨i, hi1, hi2⟩ := List.mem_iff_getElem.1 hx'
     obtain ⟨_, _, _, _, hz4⟩ := hx i x (by rw [List.getElem?_eq_getElem hi1, hi2])
     exact hz4
theorem take_drop_one (cs : List Value) (a n : Nat) : cs.drop a = (cs.drop a).take n ++ cs.drop (a + n) := by
 rw [← List.drop_drop, List.take_append_drop]
def szLine (x : XLine) : Prop := True
theorem opLine : Opens enc W 76 (LineC W (· < W.heap.size)) szLine := fun fuel cs x h hfz hz => by
 obtain ⟨xs, n, _, rfl, hcl, hxl, hf⟩ := DataW.trod_struct Tryz.underlying76 h
 have hcl2 : cs.length = 3 := hcl.trans (by kernel_rfl)
 have hw : ∀ (j : Nat) (t : TypeId) (y : DataW H × List MemPlace), ([3, 3, 3] : List TypeId)[j]? = some t → xs[j]? = some y → ∀ n ∈ y.1.weights Tryz.prog t, n ≤ reachBytes := fun j t y ht hy n hn => hz n (by
  simp only [DataW.weights, Tryz.underlying76]
  exact DataW.weights_mem_each (j := j) (t := t) (d := y.1) ht (by rw [List.getElem?_map, hy]; rfl) n hn)
 have h0 := hf 0 _ rfl
 obtain ⟨y0, hy0⟩ : ∃ y, xs[0]? = some y := ⟨_, List.getElem?_eq_getElem (by rw [hxl]; decide)⟩
 obtain ⟨a0, q0, z0⟩ := opInt _ _ _ (h0.trans hy0) (fun b off hb => hfz b off (List.mem_flatMap.2 ⟨y0, List.mem_of_getElem? hy0, hb⟩)) (hw 0 _ y0 rfl hy0)
 have h1 := hf 1 _ rfl
 obtain ⟨y1, hy1⟩ : ∃ y, xs[1]? = some y := ⟨_, List.getElem?_eq_getElem (by rw [hxl]; decide)⟩
 obtain ⟨a1, q1, z1⟩ := opInt _ _ _ (h1.trans hy1) (fun b off hb => hfz b off (List.mem_flatMap.2 ⟨y1, List.mem_of_getElem? hy1, hb⟩)) (hw 1 _ y1 rfl hy1)
 have h2 := hf 2 _ rfl
 obtain ⟨y2, hy2⟩ : ∃ y, xs[2]? = some y := ⟨_, List.getElem?_eq_getElem (by rw [hxl]; decide)⟩
 obtain ⟨a2, q2, z2⟩ := opInt _ _ _ (h2.trans hy2) (fun b off hb => hfz b off (List.mem_flatMap.2 ⟨y2, List.mem_of_getElem? hy2, hb⟩)) (hw 2 _ y2 rfl hy2)
 refine ⟨⟨a0, a1, a2⟩, ⟨_, _, _, ?_, q0, q1, q2⟩, trivial⟩
 have e0 : (cs.drop 0).take (Tryz.prog.cellsOf 3) = (cs.drop 0).take 1 := by rw [show Tryz.prog.cellsOf 3 = 1 from by kernel_rfl]
 have e1 : (cs.drop 1).take (Tryz.prog.cellsOf 3) = (cs.drop 1).take 1 := by rw [show Tryz.prog.cellsOf 3 = 1 from by kernel_rfl]
 have e2 : (cs.drop 2).take (Tryz.prog.cellsOf 3) = (cs.drop 2).take 1 := by rw [show Tryz.prog.cellsOf 3 = 1 from by kernel_rfl]
 show cs = (cs.drop 0).take (Tryz.prog.cellsOf 3) ++ (cs.drop 1).take (Tryz.prog.cellsOf 3) ++ (cs.drop 2).take (Tryz.prog.cellsOf 3)
 rw [e0, e1, e2]
 have z : cs = cs.drop 0 := rfl
 have t0 := take_drop_one cs 0 1
 have t1 := take_drop_one cs 1 1
 have t2 := take_drop_one cs 2 1
 have tn : cs.drop 3 = [] := List.drop_eq_nil_of_le (by omega)
 simp only [Nat.reduceAdd] at t0 t1 t2
 have r2 := t2.trans (by rw [tn, List.append_nil])
 have r1 := t1.trans (congrArg (_ ++ ·) r2)
 have r0 := t0.trans (congrArg (_ ++ ·) r1)
 refine z.trans (r0.trans ?_)
 simp only [List.append_assoc]
theorem opLLine : Opens enc W 44 (ListC LineC 3 W (· < W.heap.size)) (zList szLine) := opList Tryz.underlying44 (by kernel_rfl) (by decide) opLine
def szEntry (x : XEntry) : Prop := x.text.size ≤ 140737488355327
theorem opEntry : Opens enc W 46 (EntryC W (· < W.heap.size)) szEntry := fun fuel cs x h hfz hz => by
 obtain ⟨xs, n, _, rfl, hcl, hxl, hf⟩ := DataW.trod_struct Tryz.underlying46 h
 have hcl2 : cs.length = 7 := hcl.trans (by kernel_rfl)
 have hw : ∀ (j : Nat) (t : TypeId) (y : DataW H × List MemPlace), ([3, 3, 3, 3, 3, 9, 44] : List TypeId)[j]? = some t → xs[j]? = some y → ∀ n ∈ y.1.weights Tryz.prog t, n ≤ reachBytes := fun j t y ht hy n hn => hz n (by
  simp only [DataW.weights, Tryz.underlying46]
  exact DataW.weights_mem_each (j := j) (t := t) (d := y.1) ht (by rw [List.getElem?_map, hy]; rfl) n hn)
 have h0 := hf 0 _ rfl
 obtain ⟨y0, hy0⟩ : ∃ y, xs[0]? = some y := ⟨_, List.getElem?_eq_getElem (by rw [hxl]; decide)⟩
 obtain ⟨a0, q0, z0⟩ := opInt _ _ _ (h0.trans hy0) (fun b off hb => hfz b off (List.mem_flatMap.2 ⟨y0, List.mem_of_getElem? hy0, hb⟩)) (hw 0 _ y0 rfl hy0)
 have h1 := hf 1 _ rfl
 obtain ⟨y1, hy1⟩ : ∃ y, xs[1]? = some y := ⟨_, List.getElem?_eq_getElem (by rw [hxl]; decide)⟩
 obtain ⟨a1, q1, z1⟩ := opInt _ _ _ (h1.trans hy1) (fun b off hb => hfz b off (List.mem_flatMap.2 ⟨y1, List.mem_of_getElem? hy1, hb⟩)) (hw 1 _ y1 rfl hy1)
 have h2 := hf 2 _ rfl
 obtain ⟨y2, hy2⟩ : ∃ y, xs[2]? = some y := ⟨_, List.getElem?_eq_getElem (by rw [hxl]; decide)⟩
 obtain ⟨a2, q2, z2⟩ := opInt _ _ _ (h2.trans hy2) (fun b off hb => hfz b off (List.mem_flatMap.2 ⟨y2, List.mem_of_getElem? hy2, hb⟩)) (hw 2 _ y2 rfl hy2)
 have h3 := hf 3 _ rfl
 obtain ⟨y3, hy3⟩ : ∃ y, xs[3]? = some y := ⟨_, List.getElem?_eq_getElem (by rw [hxl]; decide)⟩
 obtain ⟨a3, q3, z3⟩ := opInt _ _ _ (h3.trans hy3) (fun b off hb => hfz b off (List.mem_flatMap.2 ⟨y3, List.mem_of_getElem? hy3, hb⟩)) (hw 3 _ y3 rfl hy3)
 have h4 := hf 4 _ rfl
 obtain ⟨y4, hy4⟩ : ∃ y, xs[4]? = some y := ⟨_, List.getElem?_eq_getElem (by rw [hxl]; decide)⟩
 obtain ⟨a4, q4, z4⟩ := opInt _ _ _ (h4.trans hy4) (fun b off hb => hfz b off (List.mem_flatMap.2 ⟨y4, List.mem_of_getElem? hy4, hb⟩)) (hw 4 _ y4 rfl hy4)
 have h5 := hf 5 _ rfl
 obtain ⟨y5, hy5⟩ : ∃ y, xs[5]? = some y := ⟨_, List.getElem?_eq_getElem (by rw [hxl]; decide)⟩
 obtain ⟨a5, q5, z5⟩ := opStr _ _ _ (h5.trans hy5) (fun b off hb => hfz b off (List.mem_flatMap.2 ⟨y5, List.mem_of_getElem? hy5, hb⟩)) (hw 5 _ y5 rfl hy5)
 have h6 := hf 6 _ rfl
 obtain ⟨y6, hy6⟩ : ∃ y, xs[6]? = some y := ⟨_, List.getElem?_eq_getElem (by rw [hxl]; decide)⟩
 obtain ⟨a6, q6, z6⟩ := opLLine _ _ _ (h6.trans hy6) (fun b off hb => hfz b off (List.mem_flatMap.2 ⟨y6, List.mem_of_getElem? hy6, hb⟩)) (hw 6 _ y6 rfl hy6)
 refine ⟨⟨a0, a1, a2, a3, a4, a5, a6⟩, ⟨_, _, _, _, _, _, _, ?_, q0, q1, q2, q3, q4, q5, q6⟩, z5⟩
 have e0 : (cs.drop 0).take (Tryz.prog.cellsOf 3) = (cs.drop 0).take 1 := by rw [show Tryz.prog.cellsOf 3 = 1 from by kernel_rfl]
 have e1 : (cs.drop 1).take (Tryz.prog.cellsOf 3) = (cs.drop 1).take 1 := by rw [show Tryz.prog.cellsOf 3 = 1 from by kernel_rfl]
 have e2 : (cs.drop 2).take (Tryz.prog.cellsOf 3) = (cs.drop 2).take 1 := by rw [show Tryz.prog.cellsOf 3 = 1 from by kernel_rfl]
 have e3 : (cs.drop 3).take (Tryz.prog.cellsOf 3) = (cs.drop 3).take 1 := by rw [show Tryz.prog.cellsOf 3 = 1 from by kernel_rfl]
 have e4 : (cs.drop 4).take (Tryz.prog.cellsOf 3) = (cs.drop 4).take 1 := by rw [show Tryz.prog.cellsOf 3 = 1 from by kernel_rfl]
 have e5 : (cs.drop 5).take (Tryz.prog.cellsOf 9) = (cs.drop 5).take 1 := by rw [show Tryz.prog.cellsOf 9 = 1 from by kernel_rfl]
 have e6 : (cs.drop 6).take (Tryz.prog.cellsOf 44) = (cs.drop 6).take 1 := by rw [show Tryz.prog.cellsOf 44 = 1 from by kernel_rfl]
 show cs = (cs.drop 0).take (Tryz.prog.cellsOf 3) ++ (cs.drop 1).take (Tryz.prog.cellsOf 3) ++ (cs.drop 2).take (Tryz.prog.cellsOf 3) ++ (cs.drop 3).take (Tryz.prog.cellsOf 3) ++ (cs.drop 4).take (Tryz.prog.cellsOf 3) ++ (cs.drop 5).take (Tryz.prog.cellsOf 9) ++ (cs.drop 6).take (Tryz.prog.cellsOf 44)
 rw [e0, e1, e2, e3, e4, e5, e6]
 have z : cs = cs.drop 0 := rfl
 have t0 := take_drop_one cs 0 1
 have t1 := take_drop_one cs 1 1
 have t2 := take_drop_one cs 2 1
 have t3 := take_drop_one cs 3 1
 have t4 := take_drop_one cs 4 1
 have t5 := take_drop_one cs 5 1
 have t6 := take_drop_one cs 6 1
 have tn : cs.drop 7 = [] := List.drop_eq_nil_of_le (by omega)
 simp only [Nat.reduceAdd] at t0 t1 t2 t3 t4 t5 t6
 have r6 := t6.trans (by rw [tn, List.append_nil])
 have r5 := t5.trans (congrArg (_ ++ ·) r6)
 have r4 := t4.trans (congrArg (_ ++ ·) r5)
 have r3 := t3.trans (congrArg (_ ++ ·) r4)
 have r2 := t2.trans (congrArg (_ ++ ·) r3)
 have r1 := t1.trans (congrArg (_ ++ ·) r2)
 have r0 := t0.trans (congrArg (_ ++ ·) r1)
 refine z.trans (r0.trans ?_)
 simp only [List.append_assoc]
def szAccount (x : XAccount) : Prop := True
theorem opAccount : Opens enc W 87 (AccountC W (· < W.heap.size)) szAccount := fun fuel cs x h hfz hz => by
 obtain ⟨xs, n, _, rfl, hcl, hxl, hf⟩ := DataW.trod_struct Tryz.underlying87 h
 have hcl2 : cs.length = 4 := hcl.trans (by kernel_rfl)
 have hw : ∀ (j : Nat) (t : TypeId) (y : DataW H × List MemPlace), ([3, 3, 3, 3] : List TypeId)[j]? = some t → xs[j]? = some y → ∀ n ∈ y.1.weights Tryz.prog t, n ≤ reachBytes := fun j t y ht hy n hn => hz n (by
  simp only [DataW.weights, Tryz.underlying87]
  exact DataW.weights_mem_each (j := j) (t := t) (d := y.1) ht (by rw [List.getElem?_map, hy]; rfl) n hn)
 have h0 := hf 0 _ rfl
 obtain ⟨y0, hy0⟩ : ∃ y, xs[0]? = some y := ⟨_, List.getElem?_eq_getElem (by rw [hxl]; decide)⟩
 obtain ⟨a0, q0, z0⟩ := opInt _ _ _ (h0.trans hy0) (fun b off hb => hfz b off (List.mem_flatMap.2 ⟨y0, List.mem_of_getElem? hy0, hb⟩)) (hw 0 _ y0 rfl hy0)
 have h1 := hf 1 _ rfl
 obtain ⟨y1, hy1⟩ : ∃ y, xs[1]? = some y := ⟨_, List.getElem?_eq_getElem (by rw [hxl]; decide)⟩
 obtain ⟨a1, q1, z1⟩ := opInt _ _ _ (h1.trans hy1) (fun b off hb => hfz b off (List.mem_flatMap.2 ⟨y1, List.mem_of_getElem? hy1, hb⟩)) (hw 1 _ y1 rfl hy1)
 have h2 := hf 2 _ rfl
 obtain ⟨y2, hy2⟩ : ∃ y, xs[2]? = some y := ⟨_, List.getElem?_eq_getElem (by rw [hxl]; decide)⟩
 obtain ⟨a2, q2, z2⟩ := opInt _ _ _ (h2.trans hy2) (fun b off hb => hfz b off (List.mem_flatMap.2 ⟨y2, List.mem_of_getElem? hy2, hb⟩)) (hw 2 _ y2 rfl hy2)
 have h3 := hf 3 _ rfl
 obtain ⟨y3, hy3⟩ : ∃ y, xs[3]? = some y := ⟨_, List.getElem?_eq_getElem (by rw [hxl]; decide)⟩
 obtain ⟨a3, q3, z3⟩ := opInt _ _ _ (h3.trans hy3) (fun b off hb => hfz b off (List.mem_flatMap.2 ⟨y3, List.mem_of_getElem? hy3, hb⟩)) (hw 3 _ y3 rfl hy3)
 refine ⟨⟨a0, a1, a2, a3⟩, ⟨_, _, _, _, ?_, q0, q1, q2, q3⟩, trivial⟩
 have e0 : (cs.drop 0).take (Tryz.prog.cellsOf 3) = (cs.drop 0).take 1 := by rw [show Tryz.prog.cellsOf 3 = 1 from by kernel_rfl]
 have e1 : (cs.drop 1).take (Tryz.prog.cellsOf 3) = (cs.drop 1).take 1 := by rw [show Tryz.prog.cellsOf 3 = 1 from by kernel_rfl]
 have e2 : (cs.drop 2).take (Tryz.prog.cellsOf 3) = (cs.drop 2).take 1 := by rw [show Tryz.prog.cellsOf 3 = 1 from by kernel_rfl]
 have e3 : (cs.drop 3).take (Tryz.prog.cellsOf 3) = (cs.drop 3).take 1 := by rw [show Tryz.prog.cellsOf 3 = 1 from by kernel_rfl]
 show cs = (cs.drop 0).take (Tryz.prog.cellsOf 3) ++ (cs.drop 1).take (Tryz.prog.cellsOf 3) ++ (cs.drop 2).take (Tryz.prog.cellsOf 3) ++ (cs.drop 3).take (Tryz.prog.cellsOf 3)
 rw [e0, e1, e2, e3]
 have z : cs = cs.drop 0 := rfl
 have t0 := take_drop_one cs 0 1
 have t1 := take_drop_one cs 1 1
 have t2 := take_drop_one cs 2 1
 have t3 := take_drop_one cs 3 1
 have tn : cs.drop 4 = [] := List.drop_eq_nil_of_le (by omega)
 simp only [Nat.reduceAdd] at t0 t1 t2 t3
 have r3 := t3.trans (by rw [tn, List.append_nil])
 have r2 := t2.trans (congrArg (_ ++ ·) r3)
 have r1 := t1.trans (congrArg (_ ++ ·) r2)
 have r0 := t0.trans (congrArg (_ ++ ·) r1)
 refine z.trans (r0.trans ?_)
 simp only [List.append_assoc]
theorem opLAccount : Opens enc W 24 (ListC AccountC 4 W (· < W.heap.size)) (zList szAccount) := opList Tryz.underlying24 (by kernel_rfl) (by decide) opAccount
def szLink (x : XLink) : Prop := True
theorem opLink : Opens enc W 135 (LinkC W (· < W.heap.size)) szLink := fun fuel cs x h hfz hz => by
 obtain ⟨xs, n, _, rfl, hcl, hxl, hf⟩ := DataW.trod_struct Tryz.underlying135 h
 have hcl2 : cs.length = 3 := hcl.trans (by kernel_rfl)
 have hw : ∀ (j : Nat) (t : TypeId) (y : DataW H × List MemPlace), ([3, 3, 3] : List TypeId)[j]? = some t → xs[j]? = some y → ∀ n ∈ y.1.weights Tryz.prog t, n ≤ reachBytes := fun j t y ht hy n hn => hz n (by
  simp only [DataW.weights, Tryz.underlying135]
  exact DataW.weights_mem_each (j := j) (t := t) (d := y.1) ht (by rw [List.getElem?_map, hy]; rfl) n hn)
 have h0 := hf 0 _ rfl
 obtain ⟨y0, hy0⟩ : ∃ y, xs[0]? = some y := ⟨_, List.getElem?_eq_getElem (by rw [hxl]; decide)⟩
 obtain ⟨a0, q0, z0⟩ := opInt _ _ _ (h0.trans hy0) (fun b off hb => hfz b off (List.mem_flatMap.2 ⟨y0, List.mem_of_getElem? hy0, hb⟩)) (hw 0 _ y0 rfl hy0)
 have h1 := hf 1 _ rfl
 obtain ⟨y1, hy1⟩ : ∃ y, xs[1]? = some y := ⟨_, List.getElem?_eq_getElem (by rw [hxl]; decide)⟩
 obtain ⟨a1, q1, z1⟩ := opInt _ _ _ (h1.trans hy1) (fun b off hb => hfz b off (List.mem_flatMap.2 ⟨y1, List.mem_of_getElem? hy1, hb⟩)) (hw 1 _ y1 rfl hy1)
 have h2 := hf 2 _ rfl
 obtain ⟨y2, hy2⟩ : ∃ y, xs[2]? = some y := ⟨_, List.getElem?_eq_getElem (by rw [hxl]; decide)⟩
 obtain ⟨a2, q2, z2⟩ := opInt _ _ _ (h2.trans hy2) (fun b off hb => hfz b off (List.mem_flatMap.2 ⟨y2, List.mem_of_getElem? hy2, hb⟩)) (hw 2 _ y2 rfl hy2)
 refine ⟨⟨a0, a1, a2⟩, ⟨_, _, _, ?_, q0, q1, q2⟩, trivial⟩
 have e0 : (cs.drop 0).take (Tryz.prog.cellsOf 3) = (cs.drop 0).take 1 := by rw [show Tryz.prog.cellsOf 3 = 1 from by kernel_rfl]
 have e1 : (cs.drop 1).take (Tryz.prog.cellsOf 3) = (cs.drop 1).take 1 := by rw [show Tryz.prog.cellsOf 3 = 1 from by kernel_rfl]
 have e2 : (cs.drop 2).take (Tryz.prog.cellsOf 3) = (cs.drop 2).take 1 := by rw [show Tryz.prog.cellsOf 3 = 1 from by kernel_rfl]
 show cs = (cs.drop 0).take (Tryz.prog.cellsOf 3) ++ (cs.drop 1).take (Tryz.prog.cellsOf 3) ++ (cs.drop 2).take (Tryz.prog.cellsOf 3)
 rw [e0, e1, e2]
 have z : cs = cs.drop 0 := rfl
 have t0 := take_drop_one cs 0 1
 have t1 := take_drop_one cs 1 1
 have t2 := take_drop_one cs 2 1
 have tn : cs.drop 3 = [] := List.drop_eq_nil_of_le (by omega)
 simp only [Nat.reduceAdd] at t0 t1 t2
 have r2 := t2.trans (by rw [tn, List.append_nil])
 have r1 := t1.trans (congrArg (_ ++ ·) r2)
 have r0 := t0.trans (congrArg (_ ++ ·) r1)
 refine z.trans (r0.trans ?_)
 simp only [List.append_assoc]
theorem opLLink : Opens enc W 90 (ListC LinkC 3 W (· < W.heap.size)) (zList szLink) := opList Tryz.underlying90 (by kernel_rfl) (by decide) opLink
theorem opEntity : Opens enc W 92 (EntityC W (· < W.heap.size)) szE := fun fuel cs x h hfz hz => by
 obtain ⟨xs, n, _, rfl, hcl, hxl, hf⟩ := DataW.trod_struct Tryz.underlying92 h
 have hcl2 : cs.length = 5 := hcl.trans (by kernel_rfl)
 have hw : ∀ (j : Nat) (t : TypeId) (y : DataW H × List MemPlace), ([9, 9, 24, 90, 4] : List TypeId)[j]? = some t → xs[j]? = some y → ∀ n ∈ y.1.weights Tryz.prog t, n ≤ reachBytes := fun j t y ht hy n hn => hz n (by
  simp only [DataW.weights, Tryz.underlying92]
  exact DataW.weights_mem_each (j := j) (t := t) (d := y.1) ht (by rw [List.getElem?_map, hy]; rfl) n hn)
 have h0 := hf 0 _ rfl
 obtain ⟨y0, hy0⟩ : ∃ y, xs[0]? = some y := ⟨_, List.getElem?_eq_getElem (by rw [hxl]; decide)⟩
 obtain ⟨a0, q0, z0⟩ := opStr _ _ _ (h0.trans hy0) (fun b off hb => hfz b off (List.mem_flatMap.2 ⟨y0, List.mem_of_getElem? hy0, hb⟩)) (hw 0 _ y0 rfl hy0)
 have h1 := hf 1 _ rfl
 obtain ⟨y1, hy1⟩ : ∃ y, xs[1]? = some y := ⟨_, List.getElem?_eq_getElem (by rw [hxl]; decide)⟩
 obtain ⟨a1, q1, z1⟩ := opStr _ _ _ (h1.trans hy1) (fun b off hb => hfz b off (List.mem_flatMap.2 ⟨y1, List.mem_of_getElem? hy1, hb⟩)) (hw 1 _ y1 rfl hy1)
 have h2 := hf 2 _ rfl
 obtain ⟨y2, hy2⟩ : ∃ y, xs[2]? = some y := ⟨_, List.getElem?_eq_getElem (by rw [hxl]; decide)⟩
 obtain ⟨a2, q2, z2⟩ := opLAccount _ _ _ (h2.trans hy2) (fun b off hb => hfz b off (List.mem_flatMap.2 ⟨y2, List.mem_of_getElem? hy2, hb⟩)) (hw 2 _ y2 rfl hy2)
 have h3 := hf 3 _ rfl
 obtain ⟨y3, hy3⟩ : ∃ y, xs[3]? = some y := ⟨_, List.getElem?_eq_getElem (by rw [hxl]; decide)⟩
 obtain ⟨a3, q3, z3⟩ := opLLink _ _ _ (h3.trans hy3) (fun b off hb => hfz b off (List.mem_flatMap.2 ⟨y3, List.mem_of_getElem? hy3, hb⟩)) (hw 3 _ y3 rfl hy3)
 have h4 := hf 4 _ rfl
 obtain ⟨y4, hy4⟩ : ∃ y, xs[4]? = some y := ⟨_, List.getElem?_eq_getElem (by rw [hxl]; decide)⟩
 obtain ⟨a4, q4, z4⟩ := opBool _ _ _ (h4.trans hy4) (fun b off hb => hfz b off (List.mem_flatMap.2 ⟨y4, List.mem_of_getElem? hy4, hb⟩)) (hw 4 _ y4 rfl hy4)
 refine ⟨⟨a0, a1, a2, a3, a4⟩, ⟨_, _, _, _, _, ?_, q0, q1, q2, q3, q4⟩, ⟨z0, z1⟩⟩
 have e0 : (cs.drop 0).take (Tryz.prog.cellsOf 9) = (cs.drop 0).take 1 := by rw [show Tryz.prog.cellsOf 9 = 1 from by kernel_rfl]
 have e1 : (cs.drop 1).take (Tryz.prog.cellsOf 9) = (cs.drop 1).take 1 := by rw [show Tryz.prog.cellsOf 9 = 1 from by kernel_rfl]
 have e2 : (cs.drop 2).take (Tryz.prog.cellsOf 24) = (cs.drop 2).take 1 := by rw [show Tryz.prog.cellsOf 24 = 1 from by kernel_rfl]
 have e3 : (cs.drop 3).take (Tryz.prog.cellsOf 90) = (cs.drop 3).take 1 := by rw [show Tryz.prog.cellsOf 90 = 1 from by kernel_rfl]
 have e4 : (cs.drop 4).take (Tryz.prog.cellsOf 4) = (cs.drop 4).take 1 := by rw [show Tryz.prog.cellsOf 4 = 1 from by kernel_rfl]
 show cs = (cs.drop 0).take (Tryz.prog.cellsOf 9) ++ (cs.drop 1).take (Tryz.prog.cellsOf 9) ++ (cs.drop 2).take (Tryz.prog.cellsOf 24) ++ (cs.drop 3).take (Tryz.prog.cellsOf 90) ++ (cs.drop 4).take (Tryz.prog.cellsOf 4)
 rw [e0, e1, e2, e3, e4]
 have z : cs = cs.drop 0 := rfl
 have t0 := take_drop_one cs 0 1
 have t1 := take_drop_one cs 1 1
 have t2 := take_drop_one cs 2 1
 have t3 := take_drop_one cs 3 1
 have t4 := take_drop_one cs 4 1
 have tn : cs.drop 5 = [] := List.drop_eq_nil_of_le (by omega)
 simp only [Nat.reduceAdd] at t0 t1 t2 t3 t4
 have r4 := t4.trans (by rw [tn, List.append_nil])
 have r3 := t3.trans (congrArg (_ ++ ·) r4)
 have r2 := t2.trans (congrArg (_ ++ ·) r3)
 have r1 := t1.trans (congrArg (_ ++ ·) r2)
 have r0 := t0.trans (congrArg (_ ++ ·) r1)
 refine z.trans (r0.trans ?_)
 simp only [List.append_assoc]
theorem opLEntity : Opens enc W 27 (ListC EntityC 5 W (· < W.heap.size)) (zList szE) := opList Tryz.underlying27 (by kernel_rfl) (by decide) opEntity
def szCal (x : XCal) : Prop := True
theorem opCal : Opens enc W 23 (CalC W (· < W.heap.size)) szCal := fun fuel cs x h hfz hz => by
 obtain ⟨xs, n, _, rfl, hcl, hxl, hf⟩ := DataW.trod_struct Tryz.underlying23 h
 have hcl2 : cs.length = 3 := hcl.trans (by kernel_rfl)
 have hw : ∀ (j : Nat) (t : TypeId) (y : DataW H × List MemPlace), ([3, 3, 3] : List TypeId)[j]? = some t → xs[j]? = some y → ∀ n ∈ y.1.weights Tryz.prog t, n ≤ reachBytes := fun j t y ht hy n hn => hz n (by
  simp only [DataW.weights, Tryz.underlying23]
  exact DataW.weights_mem_each (j := j) (t := t) (d := y.1) ht (by rw [List.getElem?_map, hy]; rfl) n hn)
 have h0 := hf 0 _ rfl
 obtain ⟨y0, hy0⟩ : ∃ y, xs[0]? = some y := ⟨_, List.getElem?_eq_getElem (by rw [hxl]; decide)⟩
 obtain ⟨a0, q0, z0⟩ := opInt _ _ _ (h0.trans hy0) (fun b off hb => hfz b off (List.mem_flatMap.2 ⟨y0, List.mem_of_getElem? hy0, hb⟩)) (hw 0 _ y0 rfl hy0)
 have h1 := hf 1 _ rfl
 obtain ⟨y1, hy1⟩ : ∃ y, xs[1]? = some y := ⟨_, List.getElem?_eq_getElem (by rw [hxl]; decide)⟩
 obtain ⟨a1, q1, z1⟩ := opInt _ _ _ (h1.trans hy1) (fun b off hb => hfz b off (List.mem_flatMap.2 ⟨y1, List.mem_of_getElem? hy1, hb⟩)) (hw 1 _ y1 rfl hy1)
 have h2 := hf 2 _ rfl
 obtain ⟨y2, hy2⟩ : ∃ y, xs[2]? = some y := ⟨_, List.getElem?_eq_getElem (by rw [hxl]; decide)⟩
 obtain ⟨a2, q2, z2⟩ := opInt _ _ _ (h2.trans hy2) (fun b off hb => hfz b off (List.mem_flatMap.2 ⟨y2, List.mem_of_getElem? hy2, hb⟩)) (hw 2 _ y2 rfl hy2)
 refine ⟨⟨a0, a1, a2⟩, ⟨_, _, _, ?_, q0, q1, q2⟩, trivial⟩
 have e0 : (cs.drop 0).take (Tryz.prog.cellsOf 3) = (cs.drop 0).take 1 := by rw [show Tryz.prog.cellsOf 3 = 1 from by kernel_rfl]
 have e1 : (cs.drop 1).take (Tryz.prog.cellsOf 3) = (cs.drop 1).take 1 := by rw [show Tryz.prog.cellsOf 3 = 1 from by kernel_rfl]
 have e2 : (cs.drop 2).take (Tryz.prog.cellsOf 3) = (cs.drop 2).take 1 := by rw [show Tryz.prog.cellsOf 3 = 1 from by kernel_rfl]
 show cs = (cs.drop 0).take (Tryz.prog.cellsOf 3) ++ (cs.drop 1).take (Tryz.prog.cellsOf 3) ++ (cs.drop 2).take (Tryz.prog.cellsOf 3)
 rw [e0, e1, e2]
 have z : cs = cs.drop 0 := rfl
 have t0 := take_drop_one cs 0 1
 have t1 := take_drop_one cs 1 1
 have t2 := take_drop_one cs 2 1
 have tn : cs.drop 3 = [] := List.drop_eq_nil_of_le (by omega)
 simp only [Nat.reduceAdd] at t0 t1 t2
 have r2 := t2.trans (by rw [tn, List.append_nil])
 have r1 := t1.trans (congrArg (_ ++ ·) r2)
 have r0 := t0.trans (congrArg (_ ++ ·) r1)
 refine z.trans (r0.trans ?_)
 simp only [List.append_assoc]
def szRoles (x : XRoles) : Prop := True
theorem opRoles : Opens enc W 26 (RolesC W (· < W.heap.size)) szRoles := fun fuel cs x h hfz hz => by
 obtain ⟨xs, n, _, rfl, hcl, hxl, hf⟩ := DataW.trod_struct Tryz.underlying26 h
 have hcl2 : cs.length = 15 := hcl.trans (by kernel_rfl)
 have hw : ∀ (j : Nat) (t : TypeId) (y : DataW H × List MemPlace), ([3, 3, 3, 3, 3, 3, 3, 3, 3, 3, 3, 3, 3, 3, 3] : List TypeId)[j]? = some t → xs[j]? = some y → ∀ n ∈ y.1.weights Tryz.prog t, n ≤ reachBytes := fun j t y ht hy n hn => hz n (by
  simp only [DataW.weights, Tryz.underlying26]
  exact DataW.weights_mem_each (j := j) (t := t) (d := y.1) ht (by rw [List.getElem?_map, hy]; rfl) n hn)
 have h0 := hf 0 _ rfl
 obtain ⟨y0, hy0⟩ : ∃ y, xs[0]? = some y := ⟨_, List.getElem?_eq_getElem (by rw [hxl]; decide)⟩
 obtain ⟨a0, q0, z0⟩ := opInt _ _ _ (h0.trans hy0) (fun b off hb => hfz b off (List.mem_flatMap.2 ⟨y0, List.mem_of_getElem? hy0, hb⟩)) (hw 0 _ y0 rfl hy0)
 have h1 := hf 1 _ rfl
 obtain ⟨y1, hy1⟩ : ∃ y, xs[1]? = some y := ⟨_, List.getElem?_eq_getElem (by rw [hxl]; decide)⟩
 obtain ⟨a1, q1, z1⟩ := opInt _ _ _ (h1.trans hy1) (fun b off hb => hfz b off (List.mem_flatMap.2 ⟨y1, List.mem_of_getElem? hy1, hb⟩)) (hw 1 _ y1 rfl hy1)
 have h2 := hf 2 _ rfl
 obtain ⟨y2, hy2⟩ : ∃ y, xs[2]? = some y := ⟨_, List.getElem?_eq_getElem (by rw [hxl]; decide)⟩
 obtain ⟨a2, q2, z2⟩ := opInt _ _ _ (h2.trans hy2) (fun b off hb => hfz b off (List.mem_flatMap.2 ⟨y2, List.mem_of_getElem? hy2, hb⟩)) (hw 2 _ y2 rfl hy2)
 have h3 := hf 3 _ rfl
 obtain ⟨y3, hy3⟩ : ∃ y, xs[3]? = some y := ⟨_, List.getElem?_eq_getElem (by rw [hxl]; decide)⟩
 obtain ⟨a3, q3, z3⟩ := opInt _ _ _ (h3.trans hy3) (fun b off hb => hfz b off (List.mem_flatMap.2 ⟨y3, List.mem_of_getElem? hy3, hb⟩)) (hw 3 _ y3 rfl hy3)
 have h4 := hf 4 _ rfl
 obtain ⟨y4, hy4⟩ : ∃ y, xs[4]? = some y := ⟨_, List.getElem?_eq_getElem (by rw [hxl]; decide)⟩
 obtain ⟨a4, q4, z4⟩ := opInt _ _ _ (h4.trans hy4) (fun b off hb => hfz b off (List.mem_flatMap.2 ⟨y4, List.mem_of_getElem? hy4, hb⟩)) (hw 4 _ y4 rfl hy4)
 have h5 := hf 5 _ rfl
 obtain ⟨y5, hy5⟩ : ∃ y, xs[5]? = some y := ⟨_, List.getElem?_eq_getElem (by rw [hxl]; decide)⟩
 obtain ⟨a5, q5, z5⟩ := opInt _ _ _ (h5.trans hy5) (fun b off hb => hfz b off (List.mem_flatMap.2 ⟨y5, List.mem_of_getElem? hy5, hb⟩)) (hw 5 _ y5 rfl hy5)
 have h6 := hf 6 _ rfl
 obtain ⟨y6, hy6⟩ : ∃ y, xs[6]? = some y := ⟨_, List.getElem?_eq_getElem (by rw [hxl]; decide)⟩
 obtain ⟨a6, q6, z6⟩ := opInt _ _ _ (h6.trans hy6) (fun b off hb => hfz b off (List.mem_flatMap.2 ⟨y6, List.mem_of_getElem? hy6, hb⟩)) (hw 6 _ y6 rfl hy6)
 have h7 := hf 7 _ rfl
 obtain ⟨y7, hy7⟩ : ∃ y, xs[7]? = some y := ⟨_, List.getElem?_eq_getElem (by rw [hxl]; decide)⟩
 obtain ⟨a7, q7, z7⟩ := opInt _ _ _ (h7.trans hy7) (fun b off hb => hfz b off (List.mem_flatMap.2 ⟨y7, List.mem_of_getElem? hy7, hb⟩)) (hw 7 _ y7 rfl hy7)
 have h8 := hf 8 _ rfl
 obtain ⟨y8, hy8⟩ : ∃ y, xs[8]? = some y := ⟨_, List.getElem?_eq_getElem (by rw [hxl]; decide)⟩
 obtain ⟨a8, q8, z8⟩ := opInt _ _ _ (h8.trans hy8) (fun b off hb => hfz b off (List.mem_flatMap.2 ⟨y8, List.mem_of_getElem? hy8, hb⟩)) (hw 8 _ y8 rfl hy8)
 have h9 := hf 9 _ rfl
 obtain ⟨y9, hy9⟩ : ∃ y, xs[9]? = some y := ⟨_, List.getElem?_eq_getElem (by rw [hxl]; decide)⟩
 obtain ⟨a9, q9, z9⟩ := opInt _ _ _ (h9.trans hy9) (fun b off hb => hfz b off (List.mem_flatMap.2 ⟨y9, List.mem_of_getElem? hy9, hb⟩)) (hw 9 _ y9 rfl hy9)
 have h10 := hf 10 _ rfl
 obtain ⟨y10, hy10⟩ : ∃ y, xs[10]? = some y := ⟨_, List.getElem?_eq_getElem (by rw [hxl]; decide)⟩
 obtain ⟨a10, q10, z10⟩ := opInt _ _ _ (h10.trans hy10) (fun b off hb => hfz b off (List.mem_flatMap.2 ⟨y10, List.mem_of_getElem? hy10, hb⟩)) (hw 10 _ y10 rfl hy10)
 have h11 := hf 11 _ rfl
 obtain ⟨y11, hy11⟩ : ∃ y, xs[11]? = some y := ⟨_, List.getElem?_eq_getElem (by rw [hxl]; decide)⟩
 obtain ⟨a11, q11, z11⟩ := opInt _ _ _ (h11.trans hy11) (fun b off hb => hfz b off (List.mem_flatMap.2 ⟨y11, List.mem_of_getElem? hy11, hb⟩)) (hw 11 _ y11 rfl hy11)
 have h12 := hf 12 _ rfl
 obtain ⟨y12, hy12⟩ : ∃ y, xs[12]? = some y := ⟨_, List.getElem?_eq_getElem (by rw [hxl]; decide)⟩
 obtain ⟨a12, q12, z12⟩ := opInt _ _ _ (h12.trans hy12) (fun b off hb => hfz b off (List.mem_flatMap.2 ⟨y12, List.mem_of_getElem? hy12, hb⟩)) (hw 12 _ y12 rfl hy12)
 have h13 := hf 13 _ rfl
 obtain ⟨y13, hy13⟩ : ∃ y, xs[13]? = some y := ⟨_, List.getElem?_eq_getElem (by rw [hxl]; decide)⟩
 obtain ⟨a13, q13, z13⟩ := opInt _ _ _ (h13.trans hy13) (fun b off hb => hfz b off (List.mem_flatMap.2 ⟨y13, List.mem_of_getElem? hy13, hb⟩)) (hw 13 _ y13 rfl hy13)
 have h14 := hf 14 _ rfl
 obtain ⟨y14, hy14⟩ : ∃ y, xs[14]? = some y := ⟨_, List.getElem?_eq_getElem (by rw [hxl]; decide)⟩
 obtain ⟨a14, q14, z14⟩ := opInt _ _ _ (h14.trans hy14) (fun b off hb => hfz b off (List.mem_flatMap.2 ⟨y14, List.mem_of_getElem? hy14, hb⟩)) (hw 14 _ y14 rfl hy14)
 refine ⟨⟨a0, a1, a2, a3, a4, a5, a6, a7, a8, a9, a10, a11, a12, a13, a14⟩, ⟨_, _, _, _, _, _, _, _, _, _, _, _, _, _, _, ?_, q0, q1, q2, q3, q4, q5, q6, q7, q8, q9, q10, q11, q12, q13, q14⟩, trivial⟩
 have e0 : (cs.drop 0).take (Tryz.prog.cellsOf 3) = (cs.drop 0).take 1 := by rw [show Tryz.prog.cellsOf 3 = 1 from by kernel_rfl]
 have e1 : (cs.drop 1).take (Tryz.prog.cellsOf 3) = (cs.drop 1).take 1 := by rw [show Tryz.prog.cellsOf 3 = 1 from by kernel_rfl]
 have e2 : (cs.drop 2).take (Tryz.prog.cellsOf 3) = (cs.drop 2).take 1 := by rw [show Tryz.prog.cellsOf 3 = 1 from by kernel_rfl]
 have e3 : (cs.drop 3).take (Tryz.prog.cellsOf 3) = (cs.drop 3).take 1 := by rw [show Tryz.prog.cellsOf 3 = 1 from by kernel_rfl]
 have e4 : (cs.drop 4).take (Tryz.prog.cellsOf 3) = (cs.drop 4).take 1 := by rw [show Tryz.prog.cellsOf 3 = 1 from by kernel_rfl]
 have e5 : (cs.drop 5).take (Tryz.prog.cellsOf 3) = (cs.drop 5).take 1 := by rw [show Tryz.prog.cellsOf 3 = 1 from by kernel_rfl]
 have e6 : (cs.drop 6).take (Tryz.prog.cellsOf 3) = (cs.drop 6).take 1 := by rw [show Tryz.prog.cellsOf 3 = 1 from by kernel_rfl]
 have e7 : (cs.drop 7).take (Tryz.prog.cellsOf 3) = (cs.drop 7).take 1 := by rw [show Tryz.prog.cellsOf 3 = 1 from by kernel_rfl]
 have e8 : (cs.drop 8).take (Tryz.prog.cellsOf 3) = (cs.drop 8).take 1 := by rw [show Tryz.prog.cellsOf 3 = 1 from by kernel_rfl]
 have e9 : (cs.drop 9).take (Tryz.prog.cellsOf 3) = (cs.drop 9).take 1 := by rw [show Tryz.prog.cellsOf 3 = 1 from by kernel_rfl]
 have e10 : (cs.drop 10).take (Tryz.prog.cellsOf 3) = (cs.drop 10).take 1 := by rw [show Tryz.prog.cellsOf 3 = 1 from by kernel_rfl]
 have e11 : (cs.drop 11).take (Tryz.prog.cellsOf 3) = (cs.drop 11).take 1 := by rw [show Tryz.prog.cellsOf 3 = 1 from by kernel_rfl]
 have e12 : (cs.drop 12).take (Tryz.prog.cellsOf 3) = (cs.drop 12).take 1 := by rw [show Tryz.prog.cellsOf 3 = 1 from by kernel_rfl]
 have e13 : (cs.drop 13).take (Tryz.prog.cellsOf 3) = (cs.drop 13).take 1 := by rw [show Tryz.prog.cellsOf 3 = 1 from by kernel_rfl]
 have e14 : (cs.drop 14).take (Tryz.prog.cellsOf 3) = (cs.drop 14).take 1 := by rw [show Tryz.prog.cellsOf 3 = 1 from by kernel_rfl]
 show cs = (cs.drop 0).take (Tryz.prog.cellsOf 3) ++ (cs.drop 1).take (Tryz.prog.cellsOf 3) ++ (cs.drop 2).take (Tryz.prog.cellsOf 3) ++ (cs.drop 3).take (Tryz.prog.cellsOf 3) ++ (cs.drop 4).take (Tryz.prog.cellsOf 3) ++ (cs.drop 5).take (Tryz.prog.cellsOf 3) ++ (cs.drop 6).take (Tryz.prog.cellsOf 3) ++ (cs.drop 7).take (Tryz.prog.cellsOf 3) ++ (cs.drop 8).take (Tryz.prog.cellsOf 3) ++ (cs.drop 9).take (Tryz.prog.cellsOf 3) ++ (cs.drop 10).take (Tryz.prog.cellsOf 3) ++ (cs.drop 11).take (Tryz.prog.cellsOf 3) ++ (cs.drop 12).take (Tryz.prog.cellsOf 3) ++ (cs.drop 13).take (Tryz.prog.cellsOf 3) ++ (cs.drop 14).take (Tryz.prog.cellsOf 3)
 rw [e0, e1, e2, e3, e4, e5, e6, e7, e8, e9, e10, e11, e12, e13, e14]
 have z : cs = cs.drop 0 := rfl
 have t0 := take_drop_one cs 0 1
 have t1 := take_drop_one cs 1 1
 have t2 := take_drop_one cs 2 1
 have t3 := take_drop_one cs 3 1
 have t4 := take_drop_one cs 4 1
 have t5 := take_drop_one cs 5 1
 have t6 := take_drop_one cs 6 1
 have t7 := take_drop_one cs 7 1
 have t8 := take_drop_one cs 8 1
 have t9 := take_drop_one cs 9 1
 have t10 := take_drop_one cs 10 1
 have t11 := take_drop_one cs 11 1
 have t12 := take_drop_one cs 12 1
 have t13 := take_drop_one cs 13 1
 have t14 := take_drop_one cs 14 1
 have tn : cs.drop 15 = [] := List.drop_eq_nil_of_le (by omega)
 simp only [Nat.reduceAdd] at t0 t1 t2 t3 t4 t5 t6 t7 t8 t9 t10 t11 t12 t13 t14
 have r14 := t14.trans (by rw [tn, List.append_nil])
 have r13 := t13.trans (congrArg (_ ++ ·) r14)
 have r12 := t12.trans (congrArg (_ ++ ·) r13)
 have r11 := t11.trans (congrArg (_ ++ ·) r12)
 have r10 := t10.trans (congrArg (_ ++ ·) r11)
 have r9 := t9.trans (congrArg (_ ++ ·) r10)
 have r8 := t8.trans (congrArg (_ ++ ·) r9)
 have r7 := t7.trans (congrArg (_ ++ ·) r8)
 have r6 := t6.trans (congrArg (_ ++ ·) r7)
 have r5 := t5.trans (congrArg (_ ++ ·) r6)
 have r4 := t4.trans (congrArg (_ ++ ·) r5)
 have r3 := t3.trans (congrArg (_ ++ ·) r4)
 have r2 := t2.trans (congrArg (_ ++ ·) r3)
 have r1 := t1.trans (congrArg (_ ++ ·) r2)
 have r0 := t0.trans (congrArg (_ ++ ·) r1)
 refine z.trans (r0.trans ?_)
 simp only [List.append_assoc]
theorem opGroup : Opens enc W 29 (GroupC W (· < W.heap.size)) szG := fun fuel cs x h hfz hz => by
 obtain ⟨xs, n, _, rfl, hcl, hxl, hf⟩ := DataW.trod_struct Tryz.underlying29 h
 have hcl2 : cs.length = 21 := hcl.trans (by kernel_rfl)
 have hw : ∀ (j : Nat) (t : TypeId) (y : DataW H × List MemPlace), ([9, 23, 24, 26, 27] : List TypeId)[j]? = some t → xs[j]? = some y → ∀ n ∈ y.1.weights Tryz.prog t, n ≤ reachBytes := fun j t y ht hy n hn => hz n (by
  simp only [DataW.weights, Tryz.underlying29]
  exact DataW.weights_mem_each (j := j) (t := t) (d := y.1) ht (by rw [List.getElem?_map, hy]; rfl) n hn)
 have h0 := hf 0 _ rfl
 obtain ⟨y0, hy0⟩ : ∃ y, xs[0]? = some y := ⟨_, List.getElem?_eq_getElem (by rw [hxl]; decide)⟩
 obtain ⟨a0, q0, z0⟩ := opStr _ _ _ (h0.trans hy0) (fun b off hb => hfz b off (List.mem_flatMap.2 ⟨y0, List.mem_of_getElem? hy0, hb⟩)) (hw 0 _ y0 rfl hy0)
 have h1 := hf 1 _ rfl
 obtain ⟨y1, hy1⟩ : ∃ y, xs[1]? = some y := ⟨_, List.getElem?_eq_getElem (by rw [hxl]; decide)⟩
 obtain ⟨a1, q1, z1⟩ := opCal _ _ _ (h1.trans hy1) (fun b off hb => hfz b off (List.mem_flatMap.2 ⟨y1, List.mem_of_getElem? hy1, hb⟩)) (hw 1 _ y1 rfl hy1)
 have h2 := hf 2 _ rfl
 obtain ⟨y2, hy2⟩ : ∃ y, xs[2]? = some y := ⟨_, List.getElem?_eq_getElem (by rw [hxl]; decide)⟩
 obtain ⟨a2, q2, z2⟩ := opLAccount _ _ _ (h2.trans hy2) (fun b off hb => hfz b off (List.mem_flatMap.2 ⟨y2, List.mem_of_getElem? hy2, hb⟩)) (hw 2 _ y2 rfl hy2)
 have h3 := hf 3 _ rfl
 obtain ⟨y3, hy3⟩ : ∃ y, xs[3]? = some y := ⟨_, List.getElem?_eq_getElem (by rw [hxl]; decide)⟩
 obtain ⟨a3, q3, z3⟩ := opRoles _ _ _ (h3.trans hy3) (fun b off hb => hfz b off (List.mem_flatMap.2 ⟨y3, List.mem_of_getElem? hy3, hb⟩)) (hw 3 _ y3 rfl hy3)
 have h4 := hf 4 _ rfl
 obtain ⟨y4, hy4⟩ : ∃ y, xs[4]? = some y := ⟨_, List.getElem?_eq_getElem (by rw [hxl]; decide)⟩
 obtain ⟨a4, q4, z4⟩ := opLEntity _ _ _ (h4.trans hy4) (fun b off hb => hfz b off (List.mem_flatMap.2 ⟨y4, List.mem_of_getElem? hy4, hb⟩)) (hw 4 _ y4 rfl hy4)
 refine ⟨⟨a0, a1, a2, a3, a4⟩, ⟨_, _, _, _, _, ?_, q0, q1, q2, q3, q4⟩, ⟨z0, z4⟩⟩
 have e0 : (cs.drop 0).take (Tryz.prog.cellsOf 9) = (cs.drop 0).take 1 := by rw [show Tryz.prog.cellsOf 9 = 1 from by kernel_rfl]
 have e1 : (cs.drop 1).take (Tryz.prog.cellsOf 23) = (cs.drop 1).take 3 := by rw [show Tryz.prog.cellsOf 23 = 3 from by kernel_rfl]
 have e2 : (cs.drop 4).take (Tryz.prog.cellsOf 24) = (cs.drop 4).take 1 := by rw [show Tryz.prog.cellsOf 24 = 1 from by kernel_rfl]
 have e3 : (cs.drop 5).take (Tryz.prog.cellsOf 26) = (cs.drop 5).take 15 := by rw [show Tryz.prog.cellsOf 26 = 15 from by kernel_rfl]
 have e4 : (cs.drop 20).take (Tryz.prog.cellsOf 27) = (cs.drop 20).take 1 := by rw [show Tryz.prog.cellsOf 27 = 1 from by kernel_rfl]
 show cs = (cs.drop 0).take (Tryz.prog.cellsOf 9) ++ (cs.drop 1).take (Tryz.prog.cellsOf 23) ++ (cs.drop 4).take (Tryz.prog.cellsOf 24) ++ (cs.drop 5).take (Tryz.prog.cellsOf 26) ++ (cs.drop 20).take (Tryz.prog.cellsOf 27)
 rw [e0, e1, e2, e3, e4]
 have z : cs = cs.drop 0 := rfl
 have t0 := take_drop_one cs 0 1
 have t1 := take_drop_one cs 1 3
 have t2 := take_drop_one cs 4 1
 have t3 := take_drop_one cs 5 15
 have t4 := take_drop_one cs 20 1
 have tn : cs.drop 21 = [] := List.drop_eq_nil_of_le (by omega)
 simp only [Nat.reduceAdd] at t0 t1 t2 t3 t4
 have r4 := t4.trans (by rw [tn, List.append_nil])
 have r3 := t3.trans (congrArg (_ ++ ·) r4)
 have r2 := t2.trans (congrArg (_ ++ ·) r3)
 have r1 := t1.trans (congrArg (_ ++ ·) r2)
 have r0 := t0.trans (congrArg (_ ++ ·) r1)
 refine z.trans (r0.trans ?_)
 simp only [List.append_assoc]
def szStep (x : XStep) : Prop := True
theorem opStep : Opens enc W 57 (StepC W (· < W.heap.size)) szStep := fun fuel cs x h hfz hz => by
 obtain ⟨xs, n, _, rfl, hcl, hxl, hf⟩ := DataW.trod_struct Tryz.underlying57 h
 have hcl2 : cs.length = 3 := hcl.trans (by kernel_rfl)
 have hw : ∀ (j : Nat) (t : TypeId) (y : DataW H × List MemPlace), ([3, 3, 4] : List TypeId)[j]? = some t → xs[j]? = some y → ∀ n ∈ y.1.weights Tryz.prog t, n ≤ reachBytes := fun j t y ht hy n hn => hz n (by
  simp only [DataW.weights, Tryz.underlying57]
  exact DataW.weights_mem_each (j := j) (t := t) (d := y.1) ht (by rw [List.getElem?_map, hy]; rfl) n hn)
 have h0 := hf 0 _ rfl
 obtain ⟨y0, hy0⟩ : ∃ y, xs[0]? = some y := ⟨_, List.getElem?_eq_getElem (by rw [hxl]; decide)⟩
 obtain ⟨a0, q0, z0⟩ := opInt _ _ _ (h0.trans hy0) (fun b off hb => hfz b off (List.mem_flatMap.2 ⟨y0, List.mem_of_getElem? hy0, hb⟩)) (hw 0 _ y0 rfl hy0)
 have h1 := hf 1 _ rfl
 obtain ⟨y1, hy1⟩ : ∃ y, xs[1]? = some y := ⟨_, List.getElem?_eq_getElem (by rw [hxl]; decide)⟩
 obtain ⟨a1, q1, z1⟩ := opInt _ _ _ (h1.trans hy1) (fun b off hb => hfz b off (List.mem_flatMap.2 ⟨y1, List.mem_of_getElem? hy1, hb⟩)) (hw 1 _ y1 rfl hy1)
 have h2 := hf 2 _ rfl
 obtain ⟨y2, hy2⟩ : ∃ y, xs[2]? = some y := ⟨_, List.getElem?_eq_getElem (by rw [hxl]; decide)⟩
 obtain ⟨a2, q2, z2⟩ := opBool _ _ _ (h2.trans hy2) (fun b off hb => hfz b off (List.mem_flatMap.2 ⟨y2, List.mem_of_getElem? hy2, hb⟩)) (hw 2 _ y2 rfl hy2)
 refine ⟨⟨a0, a1, a2⟩, ⟨_, _, _, ?_, q0, q1, q2⟩, trivial⟩
 have e0 : (cs.drop 0).take (Tryz.prog.cellsOf 3) = (cs.drop 0).take 1 := by rw [show Tryz.prog.cellsOf 3 = 1 from by kernel_rfl]
 have e1 : (cs.drop 1).take (Tryz.prog.cellsOf 3) = (cs.drop 1).take 1 := by rw [show Tryz.prog.cellsOf 3 = 1 from by kernel_rfl]
 have e2 : (cs.drop 2).take (Tryz.prog.cellsOf 4) = (cs.drop 2).take 1 := by rw [show Tryz.prog.cellsOf 4 = 1 from by kernel_rfl]
 show cs = (cs.drop 0).take (Tryz.prog.cellsOf 3) ++ (cs.drop 1).take (Tryz.prog.cellsOf 3) ++ (cs.drop 2).take (Tryz.prog.cellsOf 4)
 rw [e0, e1, e2]
 have z : cs = cs.drop 0 := rfl
 have t0 := take_drop_one cs 0 1
 have t1 := take_drop_one cs 1 1
 have t2 := take_drop_one cs 2 1
 have tn : cs.drop 3 = [] := List.drop_eq_nil_of_le (by omega)
 simp only [Nat.reduceAdd] at t0 t1 t2
 have r2 := t2.trans (by rw [tn, List.append_nil])
 have r1 := t1.trans (congrArg (_ ++ ·) r2)
 have r0 := t0.trans (congrArg (_ ++ ·) r1)
 refine z.trans (r0.trans ?_)
 simp only [List.append_assoc]
theorem opLStep : Opens enc W 43 (ListC StepC 3 W (· < W.heap.size)) (zList szStep) := opList Tryz.underlying43 (by kernel_rfl) (by decide) opStep
end
end Go.Proofs.YtekelchdbkjjjaaGreat
namespace Go.Proofs.YtekelchdbkjjjaaGreat
open Go Go.RowKit
def printC (c : Nat) : Bool := decide (32 ≤ c ∧ c ≤ 126)
def printB (s : ByteArray) : Bool := (List.range s.size).all (fun k => printC (bat s k)) && decide (s.size ≤ 80)
abbrev lineL (x : XLine) : List Value := [.int .i64 x.account, .int .i64 x.amount, .int .i64 x.partner]
def lineBd (x : XLine) : Prop := intBd x.account ∧ intBd x.amount ∧ intBd x.partner
theorem LineC.lit {w : World} {Q : Nat → Prop} {cs : List Value} {x : XLine} (h : LineC w Q cs x) : cs = lineL x ∧ lineBd x := by
 obtain ⟨c0, c1, c2, rfl, ⟨rfl, h0⟩, ⟨rfl, h1⟩, ⟨rfl, h2⟩⟩ := h
 exact ⟨rfl, h0, h1, h2⟩
def sumL (l : List XLine) : Int := (l.map (·.amount)).sum
theorem sumL_succ {l : List XLine} {k : Nat} (hk : k < l.length) : sumL (l.take (k + 1)) = sumL (l.take k) + l[k].amount := by
 unfold sumL
 rw [List.take_add_one, List.getElem?_eq_getElem hk, List.map_append, List.sum_append]
 simp
def preL (l : List XLine) : Prop := ∀ k, -4611686018427387904 ≤ sumL (l.take k) ∧ sumL (l.take k) ≤ 4611686018427387904
def smallL (l : List XLine) : Prop := (∀ x ∈ l, -1125899906842624 ≤ x.amount ∧ x.amount ≤ 1125899906842624) ∧ l.length ≤ 100
theorem sumL_bd {l : List XLine} (h : ∀ x ∈ l, -1125899906842624 ≤ x.amount ∧ x.amount ≤ 1125899906842624) : ∀ k : Nat, k ≤ l.length → -1125899906842624 * (k : Int) ≤ sumL (l.take k) ∧ sumL (l.take k) ≤ 1125899906842624 * (k : Int)
 | 0, _ => by simp [sumL]
 | k + 1, hk => by
  have ih := sumL_bd h k (by omega)
  have hb := h _ (List.getElem_mem (show k < l.length by omega))
  rw [sumL_succ (by omega)]
  omega
theorem smallL.pre {l : List XLine} (h : smallL l) : preL l := fun k => by
 have h2 := h.2
 rcases Nat.lt_or_ge l.length k with hk | hk
 · have := sumL_bd h.1 l.length (Nat.le_refl _)
   rw [List.take_of_length_le (by omega)] at this ⊢
   omega
 · have := sumL_bd h.1 k hk
   omega
def inCalB (y m n d : Int) : Bool := decide (monI (perI y m 0) ≤ d ∧ d ≤ lasI (perI y m (n - 1)))
section
variable {y m n d : Int}
end
theorem info_cal : (Tryz.prog.info? 23).map (·.size) = some 3 := by kernel_rfl
def lineB (ne ent : Int) (l : XLine) : Bool := decide (l.amount ≠ 0) && monB l.amount && decide (-1 ≤ l.partner) && decide (l.partner < ne) && decide (l.partner ≠ ent)
def formB (gv : Bool) (ne : Int) (x : XEntry) : Bool := gv && decide (1 ≤ x.id) && decide (0 ≤ x.entity) && decide (x.entity < ne) && decide (1 ≤ x.kind) && decide (x.kind ≤ 3) && decide (x.kind = 3 → 1 ≤ x.of_) && decide (x.kind ≠ 3 → x.of_ = 0) && printB x.text && decide (2 ≤ x.lines.length) && decide (x.lines.length ≤ 40) && x.lines.all (lineB ne x.entity)
theorem info_entry : (Tryz.prog.info? 46).map (·.size) = some 7 := by kernel_rfl
theorem GroupC.view {w : World} {Q : Nat → Prop} {cs : List Value} {g : XGroup} (h : GroupC w Q cs g) : ∃ Ac cc Ae ce, cs.length = 21 ∧ cs[20]? = some (.slice Ae g.entities.length ce) ∧ cs[4]? = some (.slice Ac g.chart.length cc) ∧
 cs[1]? = some (.int .i64 g.calendar.year) ∧ cs[2]? = some (.int .i64 g.calendar.month) ∧ cs[3]? = some (.int .i64 g.calendar.periods) ∧ ListC AccountC 4 w Q [.slice Ac g.chart.length cc] g.chart ∧ ListC EntityC 5 w Q [.slice Ae g.entities.length ce] g.entities := by
 have hl := h.len
 obtain ⟨Ac, cc, Ae, ce, e, h1, h2, _⟩ := h.lit
 subst e
 exact ⟨Ac, cc, Ae, ce, hl, rfl, rfl, rfl, rfl, rfl, h1, h2⟩
def chartedB (ch : List XAccount) (ls : List XLine) : Bool := ls.all (fun l => (findA ch l.account).isSome)
theorem cal_range {w : World} {b : Nat} {gl : List Value} {T : TypeId} {y m n : Int} (h : w.heap[b]? = some (.cells gl.toArray T (0, 0))) (e1 : gl[1]? = some (.int .i64 y)) (e2 : gl[2]? = some (.int .i64 m)) (e3 : gl[3]? = some (.int .i64 n)) : w.rangeAt b 1 [.int .i64 y, .int .i64 m, .int .i64 n] := fun j v hj => by
 match j, hj with
 | 0, hj => rw [blk_cell h]; simp at hj; subst hj; simpa using e1
 | 1, hj => rw [blk_cell h]; simp at hj; subst hj; simpa using e2
 | 2, hj => rw [blk_cell h]; simp at hj; subst hj; simpa using e3
 | j + 3, hj => simp at hj
theorem EntryC.lit {w : World} {Q : Nat → Prop} {cs : List Value} {x : XEntry} (h : EntryC w Q cs x) : ∃ Al cl, cs = [.int .i64 x.id, .int .i64 x.entity, .int .i64 x.date, .int .i64 x.kind, .int .i64 x.of_, .string x.text, .slice Al x.lines.length cl] ∧ (intBd x.id ∧ intBd x.entity ∧ intBd x.date ∧ intBd x.kind ∧ intBd x.of_) ∧ ListC LineC 3 w Q [.slice Al x.lines.length cl] x.lines := by
 obtain ⟨c0, c1, c2, c3, c4, c5, c6, rfl, ⟨rfl, h0⟩, ⟨rfl, h1⟩, ⟨rfl, h2⟩, ⟨rfl, h3⟩, ⟨rfl, h4⟩, h5, h6⟩ := h
 have e5 : c5 = _ := h5
 subst e5
 obtain ⟨A, c, e, _⟩ := h6.form
 subst e
 exact ⟨A, c, rfl, ⟨h0, h1, h2, h3, h4⟩, h6⟩
theorem group_v {g : XGroup} {gl : List Value} {w : World} (hg : GroupC w (· < w.heap.size) gl g) (hsm : smallG g) : ∀ w2 : World, Below w.heap.size w w2 → Calls Tryz.prog 36 #[.agg gl.toArray] w2 (Quiet w2 (.bool (groupB g))) := fun w2 hb => by
 rw [← groupP_eq]
 exact group_c g gl w2 (hg.keep hb) hsm
theorem rgroup_v {g : XGroup} {gl : List Value} {w : World} (hg : GroupC w (· < w.heap.size) gl g) (hsm : smallG g) : ∀ w2 : World, Below w.heap.size w w2 → Calls Tryz.prog 37 #[.agg gl.toArray] w2 (Quiet w2 (.bool (groupB g))) := fun w2 hb =>
 rgroup_c g gl w2 (hg.keep hb) hsm
def checkE (g : XGroup) (x : XEntry) : Int :=
 if formB (groupB g) g.entities.length x = true then (if chartedB (g.entities.getD x.entity.toNat {}).chart x.lines = true then (if inCalB g.calendar.year g.calendar.month g.calendar.periods x.date = true then (if sumL x.lines = 0 then 0 else 11) else 2) else 17) else 1
theorem few_v {g : XGroup} {gl : List Value} {w w2 : World} (hg : GroupC w (· < w.heap.size) gl g) (hsz : szG g) (hb : Below w.heap.size w w2) : Calls Tryz.prog 11 #[.agg gl.toArray] w2 (If (fewG g) w2) := few_c g gl w2 (hg.keep hb) hsz
end Go.Proofs.YtekelchdbkjjjaaGreat
namespace Go.Proofs.YtekelchdbkjjjaaGreat
open Go Go.RowKit Go.ChangeShapes Go.WideShapes Go.MapKept Go.ChangeMaps
open Go.WideElems (Fit rd rg pl rd_key findIdx_born findIdx_arr modify_last set_self)
open Go.Maps (Keyed)
theorem key_uniq {l : List MapEntry} (hn : (l.map (·.key)).Nodup) {i j : Nat} {a c : MapEntry} (hi : l[i]? = some a) (hj : l[j]? = some c) (h : a.key = c.key) : i = j := by
 obtain ⟨hi1, hi2⟩ := List.getElem?_eq_some_iff.1 hi
 obtain ⟨hj1, hj2⟩ := List.getElem?_eq_some_iff.1 hj
 rcases Nat.lt_trichotomy i j with h' | h' | h'
 · exfalso
   have hp := List.pairwise_iff_getElem.1 hn i j (by simpa using hi1) (by simpa using hj1) h'
   simp only [List.getElem_map] at hp
   rw [hi2, hj2] at hp
   exact hp h
 · exact h'
 · exfalso
   have hp := List.pairwise_iff_getElem.1 hn j i (by simpa using hj1) (by simpa using hi1) h'
   simp only [List.getElem_map] at hp
   rw [hi2, hj2] at hp
   exact hp h.symm
section
variable {H : Type} {P : Program} {w : World} {t k e : TypeId} {R : Value → Option (DataW H × List MemPlace)} {b : Nat} {es : Array MapEntry} {clock : Nat}
theorem op_assign (K : Keyed P k) (ht : P.underlying t = some (.map k e)) {z : Value} (hz : ∀ u : World, (zeroValue e).run P u = .ok z u) (hb : w.heap[b]? = some (.map es clock)) (F : Fit P k R es clock)
 {key : Value} {kl : Lit} (hkey : keyOf P k key = some kl) :
 ∃ (v0 : Value) (st : Nat) (es1 : Array MapEntry) (clock1 : Nat),
  (∀ u : World, (u.heap[b]? = some (.map es clock) ∨ u.heap[b]? = some (.map es1 clock1)) → (Instr.lookup t (.map (some b)) key false).run P u = .ok v0 u ∧ (Instr.mapEntry t (.map (some b)) key).run P u = .ok (.tuple #[v0, goInt st]) (setBlock u b (.map es1 clock1))) ∧
  ∀ val : Value, ∃ es' clock', (∀ u : World, u.heap[b]? = some (.map es1 clock1) → (Instr.entryStore t (.map (some b)) (goInt st) val).run P u = .ok () (setBlock u b (.map es' clock'))) ∧
   (Instr.mapUpdate t (.map (some b)) key val).run P w = .ok () (setBlock w b (.map es' clock')) := by
 obtain ⟨s1, s2, _⟩ := F.stamped
 rcases K.find w hkey es.toList F.keys with ⟨h1, h2⟩ | ⟨j, e0, h1, h2, h3⟩
 · have hself : (es.push ⟨key, z, clock⟩).modify es.size (fun e => { e with key := key }) = es.push ⟨key, z, clock⟩ := by
    apply Array.ext'
    rw [Array.toList_modify, Array.toList_push, ← Array.length_toList, modify_last]
   have hks : ∀ x ∈ (es.push (⟨key, z, clock⟩ : MapEntry)).toList, ∃ l, keyOf P k x.key = some l := fun x hx => by
    simp only [Array.toList_push, List.mem_append, List.mem_singleton] at hx
    rcases hx with hx | rfl
    · exact F.keys x hx
    · exact ⟨kl, hkey⟩
   refine ⟨z, clock, es.push ⟨key, z, clock⟩, clock + 1, fun u hu => ?_, fun val => ⟨es.push ⟨key, val, clock⟩, clock + 1, fun u hu => ?_, ?_⟩⟩
   · rcases hu with hu | hu
     · have h1u : (Instr.findKey k key es.toList).run P u = .ok none u := by
        rcases K.find u hkey es.toList F.keys with ⟨g1, _⟩ | ⟨j, e0, _, g2, g3⟩
        · exact g1
        · exact absurd g3 (h2 e0 (List.mem_of_getElem? g2))
       exact ⟨by simp [Instr.lookup, run_underlying ht, MapKept.run_getObj_map hu, K.check u _ hkey, h1u, hz, Result.andThen],
        by simp [Instr.mapEntry, run_underlying ht, MapKept.run_getObj_map hu, K.check u false hkey, h1u, hz, MapKept.run_setObj_map _ hu, Result.andThen, setBlock]⟩
     · rcases K.find u hkey (es.push (⟨key, z, clock⟩ : MapEntry)).toList hks with ⟨_, g2⟩ | ⟨j, e0, g1, g2, g3⟩
       · exact absurd rfl (g2 ⟨key, z, clock⟩ (by simp))
       · have hj : j = es.size ∧ e0 = ⟨key, z, clock⟩ := by
          rw [Array.toList_push] at g2
          rcases Nat.lt_or_ge j es.toList.length with hl | hl
          · rw [List.getElem?_append_left hl] at g2
            exact absurd g3 (h2 e0 (List.mem_of_getElem? g2))
          · rw [List.getElem?_append_right hl] at g2
            have hl1 := (List.getElem?_eq_some_iff.1 g2).1
            simp only [List.length_singleton] at hl1
            have h0 : j - es.toList.length = 0 := by omega
            rw [h0] at g2
            simp only [List.getElem?_cons_zero, Option.some.injEq] at g2
            exact ⟨by rw [Array.length_toList] at hl h0; omega, g2.symm⟩
         obtain ⟨rfl, rfl⟩ := hj
         simp only [Array.toList_push] at g1
         exact ⟨by simp [Instr.lookup, run_underlying ht, MapKept.run_getObj_map hu, K.check u _ hkey, g1, Result.andThen],
          by simp [Instr.mapEntry, run_underlying ht, MapKept.run_getObj_map hu, K.check u false hkey, g1, K.stays u hkey, hself, MapKept.run_setObj_map _ hu, Result.andThen, setBlock]⟩
   · have hidx : (es.push ⟨key, z, clock⟩).findIdx? (fun e => ((e.born : Nat) : Int) == ((clock : Nat) : Int)) = some es.size := by
      rw [findIdx_arr]
      exact findIdx_born (l := (es.push ⟨key, z, clock⟩).toList) (j := es.size) (e0 := ⟨key, z, clock⟩) (by
       simp only [Array.toList_push, List.map_append, List.map_cons, List.map_nil]
       refine List.nodup_append.2 ⟨s2, by simp, fun a ha c hc e1 => ?_⟩
       simp only [List.mem_singleton] at hc
       obtain ⟨x, hx, rfl⟩ := List.mem_map.1 ha
       have := s1 x hx
       omega) (by simp)
     have hmod : (es.push ⟨key, z, clock⟩).modify es.size (fun e => { e with val := val }) = es.push ⟨key, val, clock⟩ := by
      apply Array.ext'
      rw [Array.toList_modify, Array.toList_push, Array.toList_push, ← Array.length_toList, modify_last]
     simp [Instr.entryStore, MapKept.run_getObj_map hu, asInt, asIntOf, goInt, hidx, hmod, MapKept.run_setObj_map _ hu, Result.andThen, setBlock]
   · simp [Instr.mapUpdate, run_underlying ht, MapKept.run_getObj_map hb, K.check w false hkey, h1, MapKept.run_setObj_map _ hb, Result.andThen, setBlock]
 · have hj : es[j]? = some e0 := by simpa using h2
   have hsame : es.modify j (fun e => { e with key := key }) = es := by
    apply Array.ext'
    rw [Array.toList_modify, modify_eq_set _ _ _ _ h2]
    have : ({ e0 with key := key } : MapEntry) = e0 := by rw [← h3]
    rw [this]
    exact set_self _ _ _ h2
   have hu1 : ∀ u : World, (Instr.findKey k key es.toList).run P u = .ok (some (j, e0.val)) u := fun u => by
    rcases K.find u hkey es.toList F.keys with ⟨_, g2⟩ | ⟨j', e', g1, g2, g3⟩
    · exact absurd h3 (g2 e0 (List.mem_of_getElem? h2))
    · have hne : j' = j := key_uniq F.stamped.2.2 g2 h2 (g3.trans h3.symm)
      subst hne
      rw [h2] at g2
      cases g2
      exact g1
   refine ⟨e0.val, e0.born, es, clock, fun u hu => ?_, fun val => ⟨es.modify j (fun e' => { e' with key := key, val := val }), clock, fun u hu => ?_, ?_⟩⟩
   · have hu : u.heap[b]? = some (.map es clock) := hu.elim id id
     exact ⟨by simp [Instr.lookup, run_underlying ht, MapKept.run_getObj_map hu, K.check u _ hkey, hu1, Result.andThen],
      by simp [Instr.mapEntry, run_underlying ht, MapKept.run_getObj_map hu, K.check u false hkey, hu1, hj, h3, K.stays u hkey, hsame, MapKept.run_setObj_map _ hu, Result.andThen, setBlock]⟩
   · have hidx : es.findIdx? (fun e => ((e.born : Nat) : Int) == ((e0.born : Nat) : Int)) = some j := by
      rw [findIdx_arr]
      exact findIdx_born s2 h2
     have hmod : es.modify j (fun e => { e with val := val }) = es.modify j (fun e' => { e' with key := key, val := val }) := by
      apply Array.ext'
      rw [Array.toList_modify, Array.toList_modify, modify_eq_set _ _ _ _ h2, modify_eq_set _ _ _ _ h2, ← h3]
     simp [Instr.entryStore, MapKept.run_getObj_map hu, asInt, asIntOf, goInt, hidx, hmod, MapKept.run_setObj_map _ hu, Result.andThen, setBlock]
   · simp [Instr.mapUpdate, run_underlying ht, MapKept.run_getObj_map hb, K.check w false hkey, h1, hj, h3, K.stays w hkey, MapKept.run_setObj_map _ hb, Result.andThen, setBlock]
end
end Go.Proofs.YtekelchdbkjjjaaGreat
namespace Go.Proofs.YtekelchdbkjjjaaGreat
open Go Go.RowKit Go.ChangeMaps
open Go.Maps (Keyed)
open Go.WideMaps (KeyLaw)
def MapN {α : Type} (P : Program) (k e : TypeId) (κ : α → Lit) (w : World) (b n : Nat) (f : α → Int) : Prop :=
 ∃ D : UD, w.ownsMap P k (plainElem P e) b n D ∧ ∀ c, D.atKey (κ c) (.lit (.int .i64 0)) = .lit (.int .i64 (f c))
section
variable {α : Type} {P : Program} {k e t : TypeId} {κ : α → Lit} {w w' : World} {b n : Nat} {f : α → Int}
theorem MapN.made (P : Program) (k e : TypeId) (κ : α → Lit) (w : World) : MapN P k e κ (w.alloc (.map #[] 0)) w.heap.size 0 (fun _ => 0) :=
 ⟨_, World.ownsMap_made w P k _, fun _ => rfl⟩
theorem MapN.kept {row : Option Nat} (h : MapN P k e κ w b n f) (hg : w.grownBy w' row) (hne : some b ≠ row) : MapN P k e κ w' b n f := by
 obtain ⟨D, h1, h2⟩ := h
 exact ⟨D, h1.kept hg hne, h2⟩
theorem MapN.lt (h : MapN P k e κ w b n f) : b < w.heap.size := by
 obtain ⟨D, h1, h2⟩ := h
 exact h1.lt
theorem MapN.same (h : MapN P k e κ w b n f) (hb : w'.heap[b]? = w.heap[b]?) : MapN P k e κ w' b n f := by
 obtain ⟨D, ⟨es, clock, h1, h3, h4, h5⟩, h2⟩ := h
 exact ⟨D, ⟨es, clock, hb.trans h1, h3, h4, h5⟩, h2⟩
theorem MapN.fr {Q : Nat → Prop} (h : MapN P k e κ w b n f) (hf : Fr Q w w') (hb : Q b) : MapN P k e κ w' b n f := h.same (hf.block b hb)
theorem MapN.below (h : MapN P k e κ w b n f) (hb : Below w.heap.size w w') : MapN P k e κ w' b n f := h.fr (Fr.ofBelow hb) h.lt
theorem MapN.mono (h : MapN P k e κ w b n f) {n' : Nat} (hn : n ≤ n') : MapN P k e κ w b n' f := by
 obtain ⟨D, h1, h2⟩ := h
 exact ⟨D, h1.mono hn, h2⟩
theorem MapN.eqv {g : α → Int} (h : MapN P k e κ w b n f) (hg : ∀ c, f c = g c) : MapN P k e κ w b n g := by
 obtain ⟨D, h1, h2⟩ := h
 exact ⟨D, h1, fun c => by rw [h2 c, hg c]⟩
theorem setBlock_at {w : World} {b : Nat} {o : Obj} (h : b < w.heap.size) : (setBlock w b o).heap[b]? = some o := by
 simp [setBlock, h]
theorem MapN.assign [DecidableEq α] (h : MapN P k e κ w b n f) (K : Keyed P k) (ht : P.underlying t = some (.map k e)) (he : P.underlying e = some (.int .i64)) (hz : ∀ u : World, (zeroValue e).run P u = .ok (.int .i64 0) u) (hn : n < maxLen) (hκ : ∀ x y, κ x = κ y → x = y) (hl : ∀ x, WideAt.IsKeyLit (κ x))
 {key : Value} {c : α} (hkey : keyOf P k key = some (κ c)) :
 ∃ (st : Nat) (es : Array MapEntry) (clock : Nat) (es1 : Array MapEntry) (clock1 : Nat), w.heap[b]? = some (.map es clock) ∧
  (∀ u : World, (u.heap[b]? = some (.map es clock) ∨ u.heap[b]? = some (.map es1 clock1)) → (Instr.lookup t (.map (some b)) key false).run P u = .ok (.int .i64 (f c)) u ∧ (Instr.mapEntry t (.map (some b)) key).run P u = .ok (.tuple #[.int .i64 (f c), goInt st]) (setBlock u b (.map es1 clock1))) ∧
  ∀ x : Int, (Lit.int .i64 x).wf = true → ∃ es' clock', (∀ u : World, u.heap[b]? = some (.map es1 clock1) → (Instr.entryStore t (.map (some b)) (goInt st) (.int .i64 x)).run P u = .ok () (setBlock u b (.map es' clock'))) ∧
   ∀ u : World, b < u.heap.size → MapN P k e κ (setBlock u b (.map es' clock')) b (n + 1) (fun d => if d = c then x else f d) := by
 obtain ⟨D, h1, h2⟩ := h
 have h1' := h1
 obtain ⟨es, clock, hb, F, hs, hD⟩ := h1'
 obtain ⟨v0, st, es1, clock1, hA, hB⟩ := op_assign K ht hz hb F hkey
 obtain ⟨a, hrun, hat, _⟩ := h1.lookup_int K ht he (hz w) hkey
 have hv : v0 = .int .i64 (f c) := by
  have e1 := (hA w (Or.inl hb)).1
  rw [hrun] at e1
  have e2 := h2 c
  rw [hat] at e2
  simp only [DataW.lit.injEq, Lit.int.injEq, true_and] at e2
  rw [← e2]
  simpa using e1.symm
 subst hv
 refine ⟨st, es, clock, es1, clock1, hb, hA, fun x hx => ?_⟩
 obtain ⟨es', clock', hS, hU⟩ := hB (.int .i64 x)
 refine ⟨es', clock', hS, fun u hu => ?_⟩
 obtain ⟨w2, hrun2, h3, h4⟩ := h1.update K ht hn hkey (plainElem_int he hx)
 rw [hU] at hrun2
 have hw2 : setBlock w b (.map es' clock') = w2 := by simpa using hrun2
 subst hw2
 have hm : Maps.IsMap D := ⟨_, hD⟩
 have hlt := h1.lt
 have hmap : MapN P k e κ (setBlock w b (.map es' clock')) b (n + 1) (fun d => if d = c then x else f d) := ⟨_, h3, fun d => by
  by_cases hd : d = c
  · subst hd
    rw [Maps.atKey_put_same hm (hl d)]; simp
  · rw [Maps.atKey_put_other (fun e => hd (hκ _ _ e)), h2 d]; simp [hd]⟩
 exact hmap.same (by rw [setBlock_at hlt, setBlock_at hu])
end
theorem pair_row : (141 : TypeId) < Tryz.prog.types.size := of_decide_eq_true (by kernel_rfl)
theorem pair_wide : (match Tryz.prog.underlying 141 with | some (.array _ _) | some (.struct _) => true | _ => false) = true := by kernel_rfl
theorem pair_law : KeyLaw Tryz.prog 141 := deep_law_laid try_laidOut (m := 2) (by omega) pair_row (by kernel_rfl) pair_wide
theorem pair_keyed : Keyed Tryz.prog 141 := Keyed.of_law pair_law
theorem pair_cells : Tryz.prog.cellsOf 141 = 2 := by kernel_rfl
theorem pair_keyLits {d : Nat} {a z : Int} (ha : intBd a) (hz : intBd z) : Tryz.prog.keyLits (d + 2) 141 [.int .i64 a, .int .i64 z] = some [.int .i64 a, .int .i64 z] := by
 unfold Program.keyLits
 rw [Tryz.underlying141]
 have h1 := keyLits_int (d := d) ha
 have h2 := keyLits_int (d := d) hz
 simp [int_cells, pair_cells, h1, h2, List.range_succ]
theorem pair_keyType : Tryz.prog.keyType 141 = true := by kernel_rfl
theorem pair_formed {a b : Value} : (Value.agg #[a, b]).formed Tryz.prog 141 = true := by
 simp [Value.formed, Tryz.underlying141, pair_cells, int_cells]
abbrev PK := {p : Int × Int // intBd p.1 ∧ intBd p.2}
def pKey (c : PK) : Lit := .string (keyBytes [.int .i64 c.1.1, .int .i64 c.1.2])
theorem pKey_of (c : PK) : keyOf Tryz.prog 141 (.agg #[.int .i64 c.1.1, .int .i64 c.1.2]) = some (pKey c) := by
 obtain ⟨d, hd⟩ := types_size
 unfold keyOf
 rw [Tryz.underlying141]
 simp only [pair_keyType, pair_formed, Bool.and_self, if_true, hd, Value.cells]
 rw [pair_keyLits c.2.1 c.2.2]; rfl
theorem pKey_inj (x y : PK) (h : pKey x = pKey y) : x = y := by
 have h1 := pKey_of x
 have h2 := pKey_of y
 rw [← h] at h2
 have h3 := pair_keyed.inj h1 h2
 have h4 := congrArg Array.toList (Value.agg.inj h3)
 simp only [List.cons.injEq, Value.int.injEq, true_and, and_true] at h4
 exact Subtype.ext (Prod.ext h4.1 h4.2)
theorem pKey_lit (x : PK) : WideAt.IsKeyLit (pKey x) := trivial
theorem int_zero (w : World) : (zeroValue 3).run Tryz.prog w = .ok (.int .i64 0) w := by kernel_rfl
end Go.Proofs.YtekelchdbkjjjaaGreat
namespace Go.Proofs.YtekelchdbkjjjaaGreat
def isAt (a p : Int) (x : XLine) : Bool := x.account == a && x.partner == p
def sumAt (l : List XLine) (a p : Int) : Int := sumL (l.filter (isAt a p))
def ltL (x y : XLine) : Prop := x.account < y.account ∨ (x.account = y.account ∧ x.partner < y.partner)
def IsNorm (l out : List XLine) : Prop := out.Pairwise ltL ∧ ∀ x : XLine, x ∈ out ↔ (x.amount = sumAt l x.account x.partner ∧ x.amount ≠ 0)
theorem ltL_irrefl (x : XLine) : ¬ ltL x x := fun h => by rcases h with h | ⟨_, h⟩ <;> omega
theorem ltL_asymm {x y : XLine} (h : ltL x y) : ¬ ltL y x := fun h' => by rcases h with h | ⟨h, h2⟩ <;> rcases h' with h' | ⟨h', h2'⟩ <;> omega
theorem rising_uniq : ∀ {a b : List XLine}, a.Pairwise ltL → b.Pairwise ltL → (∀ x, x ∈ a ↔ x ∈ b) → a = b
 | [], b, _, _, h => by
  cases b with
  | nil => rfl
  | cons y b => exact absurd ((h y).2 List.mem_cons_self) (by simp)
 | x :: a, b, ha, hb, h => by
  cases b with
  | nil => exact absurd ((h x).1 List.mem_cons_self) (by simp)
  | cons y b =>
   rw [List.pairwise_cons] at ha hb
   have hxy : x = y := by
    rcases List.mem_cons.1 ((h x).1 List.mem_cons_self) with e | h1
    · exact e
    · rcases List.mem_cons.1 ((h y).2 List.mem_cons_self) with e | h2
      · exact e.symm
      · exact absurd (hb.1 x h1) (ltL_asymm (ha.1 y h2))
   subst hxy
   rw [rising_uniq ha.2 hb.2 (fun z => ?_)]
   constructor
   · intro hz
     rcases List.mem_cons.1 ((h z).1 (List.mem_cons_of_mem _ hz)) with e | h1
     · subst e; exact absurd (ha.1 z hz) (ltL_irrefl z)
     · exact h1
   · intro hz
     rcases List.mem_cons.1 ((h z).2 (List.mem_cons_of_mem _ hz)) with e | h1
     · subst e; exact absurd (hb.1 z hz) (ltL_irrefl z)
     · exact h1
theorem IsNorm.uniq {l a b : List XLine} (ha : IsNorm l a) (hb : IsNorm l b) : a = b :=
 rising_uniq ha.1 hb.1 (fun x => (ha.2 x).trans (hb.2 x).symm)
end Go.Proofs.YtekelchdbkjjjaaGreat
namespace Go.Proofs.YtekelchdbkjjjaaGreat
open Go Go.RowKit Go.Sort
def cmpI (x y : Int) : Int := if x < y then -1 else if y < x then 1 else 0
def orI (a b : Int) : Int := if a = 0 then b else a
theorem nan_c (x : Int) (w : World) : Calls Tryz.prog 77 #[.int .i64 x] w (fun e w' => e = .returned (.bool false) ∧ w' = w) := by
 go_enter Tryz.func77, Tryz.ntmps77
 go_wp2_with fail
 go_ret
 exact ⟨rfl, rfl⟩
set_option maxHeartbeats 1000000 in
theorem compare_c (x y : Int) (w : World) : Calls Tryz.prog 46 #[.int .i64 x, .int .i64 y] w (fun e w' => e = .returned (.int .i64 (cmpI x y)) ∧ w' = w) := by
 obtain ⟨r, hr⟩ : ∃ r, cmpI x y = r := ⟨_, rfl⟩
 rw [hr]
 have HR := Lib.hid hr
 clear hr
 go_enter Tryz.func46, Tryz.ntmps46
 by_cases h1 : x < y
 case pos =>
  have hf := Lib.hid (show r = -1 by rw [← HR.out]; unfold cmpI; rw [if_pos h1])
  go_wp2_with (go_at_call 77; refine (nan_c _ _).mono ?_; rintro e w' ⟨rfl, rfl⟩)
  go_ret
  exact ⟨by rw [hf.out]; first | done | rfl, rfl⟩
 case neg =>
 by_cases h2 : y < x
 case pos =>
  have h2' : x > y := h2
  have hf := Lib.hid (show r = 1 by rw [← HR.out]; unfold cmpI; rw [if_neg h1, if_pos h2])
  go_wp2_with (go_at_call 77; refine (nan_c _ _).mono ?_; rintro e w' ⟨rfl, rfl⟩)
  go_ret
  exact ⟨by rw [hf.out]; first | done | rfl, rfl⟩
 case neg =>
  have h2' : ¬ x > y := h2
  have hf := Lib.hid (show r = 0 by rw [← HR.out]; unfold cmpI; rw [if_neg h1, if_neg h2])
  go_wp2_with (go_at_call 77; refine (nan_c _ _).mono ?_; rintro e w' ⟨rfl, rfl⟩)
  go_ret
  exact ⟨by rw [hf.out]; first | done | rfl, rfl⟩
set_option maxHeartbeats 1000000 in
theorem or_c (g : Nat) (a b : Int) (T : TypeId) (w : World) (hg : w.heap[g]? = some (.cells #[.int .i64 a, .int .i64 b] T (0, 0))) : Calls Tryz.prog 45 #[.slice (some ⟨g, 0, none⟩) 2 2] w (fun e w' => e = .returned (.int .i64 (orI a b)) ∧ w' = w) := by
 obtain ⟨r, hr⟩ : ∃ r, orI a b = r := ⟨_, rfl⟩
 rw [hr]
 have HR := Lib.hid hr
 have HG := Lib.hid hg
 clear hr hg
 go_enter Tryz.func45, Tryz.ntmps45
 go_wp2_with fail
 go_loopw [8] (fun i wr => ∃ q : Int, i = .int .i64 q ∧ 0 ≤ q ∧ q ≤ 2 ∧ wr = w ∧ (1 ≤ q → a = 0) ∧ (2 ≤ q → b = 0)) (fun i _ => (2 - intOf i).toNat)
 case atStart => exact ⟨0, rfl, by omega, by omega, rfl, by omega, by omega⟩
 case round =>
  obtain ⟨q, rfl, hq0, hq2, rfl, k1, k2⟩ := hrel
  have K1 := Lib.hid k1
  have K2 := Lib.hid k2
  have c0 := blk_cell HG.out 0
  have c1 := blk_cell HG.out 1
  clear k1 k2
  by_cases hlt : q < 2
  case neg =>
   have hf := Lib.hid (show r = 0 by rw [← HR.out]; unfold orI; rw [if_pos (K1.out (by omega))]; exact K2.out (by omega))
   go_wp2_with fail
   go_ret
   exact ⟨by rw [hf.out]; first | done | rfl, rfl⟩
  case pos =>
  obtain rfl | rfl : q = 0 ∨ q = 1 := by omega
  case inl =>
   by_cases ha : a = 0
   case pos =>
    have ha1 : (a != 0) = false := by simpa using ha
    have HA := Lib.hid ha
    clear ha
    go_wp2_with fail
    go_roundw
    case rel => exact ⟨1, rfl, by omega, by omega, by first | trivial | rfl, fun _ => HA.out, by omega⟩
    case measure => simp only [intOf]; omega
   case neg =>
    have ha1 : (a != 0) = true := by simpa using ha
    have hf := Lib.hid (show r = a by rw [← HR.out]; unfold orI; rw [if_neg ha])
    clear ha
    go_wp2_with fail
    go_ret
    exact ⟨by rw [hf.out]; first | done | rfl, rfl⟩
  case inr =>
   by_cases hb : b = 0
   case pos =>
    have hb1 : (b != 0) = false := by simpa using hb
    have HB := Lib.hid hb
    clear hb
    go_wp2_with fail
    go_roundw
    case rel => exact ⟨2, rfl, by omega, by omega, by first | trivial | rfl, fun _ => K1.out (by omega), fun _ => HB.out⟩
    case measure => simp only [intOf]; omega
   case neg =>
    have hb1 : (b != 0) = true := by simpa using hb
    have hf := Lib.hid (show r = b by rw [← HR.out]; unfold orI; rw [if_pos (K1.out (by omega))])
    clear hb
    go_wp2_with fail
    go_ret
    exact ⟨by rw [hf.out]; first | done | rfl, rfl⟩
def Lays (W w : World) : Prop := ∃ q os, w = grow (W.drewN q) os
theorem Lays.refl (W : World) : Lays W W := ⟨0, #[], by simp [grow]; rfl⟩
theorem drewN_grow (w : World) (os : Array Obj) (n : Nat) : (grow w os).drewN n = grow (w.drewN n) os := rfl
theorem drewN_drewN (w : World) (a b : Nat) : (w.drewN a).drewN b = w.drewN (a + b) := by
 simp [World.drewN, Nat.add_assoc]
theorem Lays.trans {A B C : World} (h : Lays A B) (k : Lays B C) : Lays A C := by
 obtain ⟨a, o1, rfl⟩ := h
 obtain ⟨b, o2, rfl⟩ := k
 exact ⟨a + b, o1 ++ o2, by rw [drewN_grow, drewN_drewN, grow_grow]⟩
theorem Lays.alloc {A B : World} (h : Lays A B) (o : Obj) : Lays A (B.alloc o) := h.trans ⟨0, #[o], by rw [alloc_eq_grow]; rfl⟩
theorem Lays.drew {A B : World} (h : Lays A B) : Lays A B.drew := h.trans ⟨1, #[], by simp [grow]; rfl⟩
theorem Lays.below {A B : World} (h : Lays A B) : Below A.heap.size A B := by
 obtain ⟨a, o, rfl⟩ := h
 refine ⟨rfl, rfl, rfl, by simp [grow, World.drewN], fun k hk => ?_⟩
 show (A.heap ++ o)[k]? = A.heap[k]?
 rw [Array.getElem?_append_left hk]
def IsSl (a b : Int) (v : Value) (w : World) : Prop := ∃ g T, v = .slice (some ⟨g, 0, none⟩) 2 2 ∧ w.heap[g]? = some (.cells #[.int .i64 a, .int .i64 b] T (0, 0))
theorem IsSl.keep (a b : Int) : ∀ v w w', Below w.heap.size w w' → IsSl a b v w → IsSl a b v w' := fun v w w' hb ⟨g, T, e, h⟩ => ⟨g, T, e, (hb.block g (blk_lt h)).trans h⟩
theorem IsSl.made (a b : Int) (T : TypeId) (w : World) : IsSl a b (.slice (some ⟨w.heap.size, 0, none⟩) 2 2) (w.alloc (.cells #[.int .i64 a, .int .i64 b] T)) := ⟨_, T, rfl, heap_alloc_new _ _⟩
end Go.Proofs.YtekelchdbkjjjaaGreat
namespace Go.Proofs.YtekelchdbkjjjaaGreat
open Go Go.RowKit Go.Shelf Go.Lib
open Go.Sort hiding Below
theorem flat_get {α : Type} [Inhabited α] {f : α → List Value} {k : Nat} (hk : 0 < k) (hf : ∀ x, (f x).length = k) : ∀ (l : List α) (j : Nat), j < l.length * k → (l.flatMap f)[j]? = (f (l[j / k]!))[j % k]?
 | [], j, h => by simp at h
 | x :: l, j, h => by
  rw [List.flatMap_cons]
  rcases Nat.lt_or_ge j k with h1 | h1
  · rw [List.getElem?_append_left (by rw [hf]; exact h1), Nat.div_eq_of_lt h1, Nat.mod_eq_of_lt h1]; rfl
  · rw [List.getElem?_append_right (by rw [hf]; exact h1), hf]
    have hl : j - k < l.length * k := by rw [List.length_cons, Nat.add_mul, Nat.one_mul] at h; omega
    rw [flat_get hk hf l (j - k) hl]
    have e1 : j / k = (j - k) / k + 1 := by rw [Nat.div_eq_sub_div hk h1]
    have e2 : j % k = (j - k) % k := (Nat.mod_eq_sub_mod h1)
    rw [e1, e2]; rfl
instance : Inhabited XLine := ⟨{}⟩
end Go.Proofs.YtekelchdbkjjjaaGreat
namespace Go.Proofs.YtekelchdbkjjjaaGreat
open Go Go.RowKit Go.ChangeMaps
open Go.Maps (Keyed)
def IsEnt (mb : Nat) (es1 : Array MapEntry) (clock1 : Nat) (c0 : Int) (st : Nat) (v : Value) (w : World) : Prop := v = .tuple #[.int .i64 c0, goInt st] ∧ w.heap[mb]? = some (.map es1 clock1)
theorem IsEnt.keep (mb : Nat) (es1 : Array MapEntry) (clock1 : Nat) (c0 : Int) (st : Nat) : ∀ v w w', Below w.heap.size w w' → IsEnt mb es1 clock1 c0 st v w → IsEnt mb es1 clock1 c0 st v w' :=
 fun v w w' hb h => ⟨h.1, (hb.block mb (blk_lt h.2)).trans h.2⟩
def SumsAt (l : List XLine) (k : Nat) (c : PK) : Int := sumAt (l.take k) c.1.1 c.1.2
def NormInv (l : List XLine) (k : Nat) (left : Lit → Bool) (out : List XLine) : Prop :=
 (∀ x ∈ out, lineBd x ∧ x.amount = sumAt (l.take k) x.account x.partner ∧ x.amount ≠ 0 ∧ ∀ hb, left (pKey ⟨(x.account, x.partner), hb⟩) = false) ∧
 out.Pairwise (fun x y => ¬ (x.account = y.account ∧ x.partner = y.partner)) ∧
 ∀ c : PK, SumsAt l k c ≠ 0 → left (pKey c) = true ∨ ∃ x ∈ out, x.account = c.1.1 ∧ x.partner = c.1.2
theorem NormInv.start {l : List XLine} {k : Nat} {D : UD} (hat : ∀ c : PK, D.atKey (pKey c) (.lit (.int .i64 0)) = .lit (.int .i64 (SumsAt l k c))) : NormInv l k (Maps.has D) [] := by
 refine ⟨(fun x hx => by cases hx), List.Pairwise.nil, fun c hc => Or.inl ?_⟩
 cases hh : Maps.has D (pKey c) with
 | true => rfl
 | false =>
  have h1 := hat c
  rw [Maps.atKey_of_not_has hh] at h1
  simp only [DataW.lit.injEq, Lit.int.injEq, true_and] at h1
  exact absurd h1.symm hc
theorem pKey_same {a c : PK} : (pKey a).sameKey (pKey c) = true ↔ a = c :=
 ⟨fun h => pKey_inj _ _ (WideAt.sameKey_eq h), fun h => by rw [h]; exact WideAt.sameKey_self (pKey_lit c)⟩
theorem NormInv.skip {l : List XLine} {k : Nat} {left : Lit → Bool} {out : List XLine} (h : NormInv l k left out) {c : PK} (h0 : SumsAt l k c = 0) : NormInv l k (fun z => left z && !z.sameKey (pKey c)) out := by
 obtain ⟨h1, h2, h3⟩ := h
 refine ⟨fun x hx => ?_, h2, fun d hd => ?_⟩
 · obtain ⟨a1, a2, a3, a4⟩ := h1 x hx
   exact ⟨a1, a2, a3, fun hb => by show (left (pKey _) && _) = false; rw [a4 hb]; rfl⟩
 · rcases h3 d hd with h4 | h4
   · left
     have : ¬ (pKey d).sameKey (pKey c) = true := fun e => hd (by rw [pKey_same.1 e]; exact h0)
     simp [h4, this]
   · exact Or.inr h4
theorem NormInv.step {l : List XLine} {k : Nat} {left : Lit → Bool} {out : List XLine} (h : NormInv l k left out) {c : PK} (hlk : left (pKey c) = true) (h0 : SumsAt l k c ≠ 0) (hbd : intBd (SumsAt l k c)) : NormInv l k (fun z => left z && !z.sameKey (pKey c)) (out ++ [⟨c.1.1, SumsAt l k c, c.1.2⟩]) := by
 obtain ⟨h1, h2, h3⟩ := h
 refine ⟨fun x hx => ?_, ?_, fun d hd => ?_⟩
 · rcases List.mem_append.1 hx with hx | hx
   · obtain ⟨a1, a2, a3, a4⟩ := h1 x hx
     exact ⟨a1, a2, a3, fun hb => by show (left (pKey _) && _) = false; rw [a4 hb]; rfl⟩
   · simp only [List.mem_singleton] at hx
     subst hx
     refine ⟨⟨c.2.1, hbd, c.2.2⟩, rfl, h0, fun hb => ?_⟩
     have : (pKey ⟨(c.1.1, c.1.2), hb⟩).sameKey (pKey c) = true := pKey_same.2 (Subtype.ext rfl)
     simp only [this]
     simp
 · rw [List.pairwise_append]
   refine ⟨h2, by simp, fun x hx y hy hxy => ?_⟩
   simp only [List.mem_singleton] at hy
   subst hy
   obtain ⟨a1, _, _, a4⟩ := h1 x hx
   have hb : intBd x.account ∧ intBd x.partner := ⟨a1.1, a1.2.2⟩
   have e : (⟨(x.account, x.partner), hb⟩ : PK) = c := Subtype.ext (Prod.ext hxy.1 hxy.2)
   have := a4 hb
   rw [e, hlk] at this
   cases this
 · by_cases e : d = c
   · subst e
     exact Or.inr ⟨_, List.mem_append_right _ (List.mem_singleton.2 rfl), rfl, rfl⟩
   · rcases h3 d hd with h4 | ⟨x, hx, h5⟩
     · left
       have : ¬ (pKey d).sameKey (pKey c) = true := fun e' => e (pKey_same.1 e')
       simp [h4, this]
     · exact Or.inr ⟨x, List.mem_append_left _ hx, h5⟩
end Go.Proofs.YtekelchdbkjjjaaGreat
namespace Go.Proofs.YtekelchdbkjjjaaGreat
open Go Go.RowKit
def negL (x : XLine) : XLine := ⟨x.account, -x.amount, x.partner⟩
def oppB (a b : List XLine) : Bool := decide (a = b.map negL)
def idxE (es : List XEntry) (id : Int) : Option Nat := es.findIdx? (fun x => x.id == id)
def revId : List XEntry → Int → Int
 | [], _ => 0
 | x :: es, id => if x.kind = 3 ∧ x.of_ = id then x.id else revId es id
def rvsE (es : List XEntry) (x : XEntry) : Int :=
 match idxE es x.of_ with
 | none => 8
 | some k => if (es.getD k {}).kind = 3 ∨ revId es x.of_ ≠ 0 then 7 else if (es.getD k {}).entity ≠ x.entity ∨ x.date < (es.getD k {}).date ∨ oppB x.lines (es.getD k {}).lines = false then 18 else 0
def postE (g : XGroup) (es : List XEntry) (x : XEntry) : Int :=
 if checkE g x ≠ 0 then checkE g x
 else if (idxE es x.id).isSome then 9
 else if x.kind = 3 ∧ rvsE es x ≠ 0 then rvsE es x
 else if 2000 ≤ es.length then 6 else 0
def okJ (g : XGroup) (es : List XEntry) : Prop := ∀ k (h : k < es.length), postE g (es.take k) es[k] = 0
theorem okJ_nil (g : XGroup) : okJ g [] := fun k h => absurd h (by simp)
def revO (es : List XEntry) (id : Int) : Option Int := if revId es id = 0 then none else some (revId es id)
end Go.Proofs.YtekelchdbkjjjaaGreat
namespace Go.Proofs.YtekelchdbkjjjaaGreat
open Go Go.RowKit Go.ChangeMaps
open Go.Maps (Keyed)
theorem iimap_uty : Tryz.prog.underlying 81 = some (.map 3 3) := by kernel_rfl
def MapO (w : World) (b n : Nat) (f : Int → Option Int) : Prop :=
 ∃ D : UD, w.ownsMap Tryz.prog 3 (plainElem Tryz.prog 3) b n D ∧ ∀ c : Int, Maps.has D (iKey c) = (f c).isSome ∧ D.atKey (iKey c) (.lit (.int .i64 0)) = .lit (.int .i64 ((f c).getD 0))
section
variable {w w' : World} {b n : Nat} {f : Int → Option Int}
theorem MapO.made (w : World) : MapO (w.alloc (.map #[] 0)) w.heap.size 0 (fun _ => none) := ⟨_, World.ownsMap_made w Tryz.prog 3 _, fun _ => ⟨rfl, rfl⟩⟩
theorem MapO.lt (h : MapO w b n f) : b < w.heap.size := by
 obtain ⟨D, h1, h2⟩ := h
 exact h1.lt
theorem MapO.same (h : MapO w b n f) (hb : w'.heap[b]? = w.heap[b]?) : MapO w' b n f := by
 obtain ⟨D, ⟨es, clock, h1, h3, h4, h5⟩, h2⟩ := h
 exact ⟨D, ⟨es, clock, hb.trans h1, h3, h4, h5⟩, h2⟩
theorem MapO.fr {Q : Nat → Prop} (h : MapO w b n f) (hf : Fr Q w w') (hb : Q b) : MapO w' b n f := h.same (hf.block b hb)
theorem MapO.below (h : MapO w b n f) (hb : Below w.heap.size w w') : MapO w' b n f := h.fr (Fr.ofBelow hb) h.lt
theorem MapO.mono (h : MapO w b n f) {n' : Nat} (hn : n ≤ n') : MapO w b n' f := by
 obtain ⟨D, h1, h2⟩ := h
 exact ⟨D, h1.mono hn, h2⟩
theorem MapO.eqv {g : Int → Option Int} (h : MapO w b n f) (hg : ∀ c, f c = g c) : MapO w b n g := by
 obtain ⟨D, h1, h2⟩ := h
 exact ⟨D, h1, fun c => by rw [← hg c]; exact h2 c⟩
theorem MapO.look (h : MapO w b n f) {c : Int} (hc : intBd c) : (Instr.lookup 81 (.map (some b)) (.int .i64 c) true).run Tryz.prog w = .ok (.tuple #[.int .i64 ((f c).getD 0), .bool (f c).isSome]) w := by
 obtain ⟨D, h1, h2⟩ := h
 obtain ⟨v, ps, hrun, hv⟩ := h1.look_ok int_keyed3 iimap_uty (int_zero w) (plainElem_int int_uty (by decide)) (iKey_of hc)
 obtain ⟨a, rfl, ha, _⟩ := plainElem_int_inv int_uty hv
 rw [(h2 c).2] at ha
 simp only [Prod.mk.injEq, DataW.lit.injEq, Lit.int.injEq, true_and] at ha
 rw [hrun, ← ha.1, (h2 c).1]
theorem MapO.store (h : MapO w b n f) (hn : n < maxLen) {c x : Int} (hc : intBd c) (hx : intBd x) :
 ∃ w', (Instr.mapUpdate 81 (.map (some b)) (.int .i64 c) (.int .i64 x)).run Tryz.prog w = .ok () w' ∧ MapO w' b (n + 1) (fun d => if d = c then some x else f d) ∧ Fr (fun q => q ≠ b) w w' := by
 obtain ⟨D, h1, h2⟩ := h
 obtain ⟨w2, hrun, h3, h4⟩ := h1.store int_keyed3 iimap_uty hn (iKey_of hc) (plainElem_int int_uty (WalkArith.wf_i64 hx))
 have hm : Maps.IsMap D := h1.isMap
 refine ⟨w2, hrun, ⟨_, h3, fun d => ?_⟩, ?_⟩
 · by_cases hd : d = c
   · subst hd
     rw [Maps.atKey_put_same hm (iKey_lit d), Maps.has_put_same hm (iKey_lit d)]; simp
   · have hne : iKey d ≠ iKey c := fun e => hd (iKey_inj _ _ e)
     rw [Maps.atKey_put_other hne, Maps.has_put_other hne]; simp only [if_neg hd]; exact h2 d
 · obtain ⟨es, clock, es', clock', hb, rfl⟩ := h4
   exact ⟨rfl, rfl, rfl, by simp [setBlock], fun i hi => heap_setBlock_other hb _ hi⟩
end
end Go.Proofs.YtekelchdbkjjjaaGreat
