/- Arguments of the program's types, opened to data, with the sizes of their texts. Written by gen_c4.py. -/
import Derived.Test.YtnigokmjehemaaaJB30B33
import Derived.Test.YtnigokmjehemaaaProg
import Derived.Deep.Slices
import Derived.Deep.Fields
import Derived.ChangeSame
import Derived.ProofKit
import Derived.OpenShut
import Derived.ShutString
import Derived.ChangeOld
import Derived.Below
import Derived.SizedLaws
namespace Go.Proofs.Ytnigokmjehemaaa
open Go Go.RowKit Go.ChangeShapes Go.WideShapes Go.Deep
set_option linter.unusedVariables false
set_option linter.unusedSimpArgs false
theorem own : ownKnob Try.prog.godebug = none := by kernel_rfl
theorem laidOut : laidOutB Try.prog = true := by kernel_rfl
section
variable {H : Type} {enc : TypeId × Value → H} {W : World}
/-- What reads as a value of type T, with cells that may be written and of the form's reach, is as C and Z say of some datum. -/
def Opens (enc : TypeId × Value → H) (W : World) (T : TypeId) {α : Type} (C : List Value → α → Prop) (Z : α → Prop) : Prop :=
  ∀ fuel cs x, DataW.trod enc Try.prog W 0 (fun _ => true) true fuel T cs = some x → (∀ b off, MemPlace.cell b off ∈ x.2 → W.frozen? ⟨b, off, none⟩ = false) → (∀ n ∈ x.1.weights Try.prog T, n ≤ reachBytes) → ∃ a, C cs a ∧ Z a
def zNone {α : Type} (_ : α) : Prop := True
def zList {α : Type} (Z : α → Prop) (l : List α) : Prop := ∀ x ∈ l, Z x
def zStr (s : ByteArray) : Prop := s.size ≤ 140737488355327
theorem opInt : Opens enc W 3 IntC zNone := fun fuel cs x h _ _ => by
  obtain ⟨n, rfl, _, hwf⟩ := DataW.trod_int Try.underlying3 h
  refine ⟨n, ⟨rfl, ?_⟩, trivial⟩
  simp only [Lit.wf, IntKind.min, IntKind.max, Bool.and_eq_true, decide_eq_true_eq] at hwf
  simp [IntKind.signed, IntKind.bits] at hwf
  unfold intBd; omega
theorem opStr : Opens enc W 9 StrC zStr := fun fuel cs x h _ hz => by
  obtain ⟨s, rfl, rfl, _⟩ := DataW.trod_string Try.underlying9 h
  have := hz s.data.toList.length (by simp [DataW.weights])
  have hr := reachBytes_lt
  refine ⟨s, rfl, ?_⟩
  unfold zStr
  have : s.size = s.data.toList.length := by first | rfl | simp
  omega
theorem opBool : Opens enc W 4 BoolC zNone := fun fuel cs x h _ _ => by
  obtain ⟨b, rfl, _⟩ := DataW.trod_bool Try.underlying4 h
  exact ⟨b, rfl, trivial⟩
theorem cells_at {a : Addr} {n k : Nat} {cs : List Value} (h : ∀ i, i < n → W.cell? ((a.add k).add i) = cs[i]?) : ∀ i, i < n → W.cell? (a.add (k + i)) = cs[i]? := fun i hi => by
  rw [← add_add']; exact h i hi
theorem weights_all {P : Program} {e : TypeId} : ∀ {ds : List (DataW H)} {d : DataW H}, d ∈ ds → ∀ n ∈ d.weights P e, n ∈ DataW.weightsAll P e ds
  | [], _, h, _, _ => by cases h
  | a :: r, d, h, n, hn => by
    simp only [DataW.weightsAll, List.mem_append]
    rcases List.mem_cons.1 h with rfl | h
    · exact Or.inl hn
    · exact Or.inr (weights_all h n hn)
theorem opList {α : Type} {El : World → (Nat → Prop) → List Value → α → Prop} {Z : α → Prop} {T E : TypeId} {size : Nat} (ht : Try.prog.underlying T = some (.slice E)) (hC : Try.prog.cellsOf E = size) (hs : 0 < size)
    (hE : Opens enc W E (El W (· < W.heap.size)) Z) : Opens enc W T (ListC El size W (· < W.heap.size)) (zList Z) := fun fuel cs x h hfz hz => by
  have hlt := DataW.trod_lt _ _ _ _ h
  rcases open_slice ht h with ⟨rfl, rfl⟩ | ⟨a, len, cap, m, n, Df, Pl, rfl, _, hl, hm, hmm, rfl, hi⟩
  · exact ⟨[], ⟨none, 0, rfl, by simp, by simp [maxLen], fun h => absurd h (by simp)⟩, fun x hx => by cases hx⟩
  · simp only [if_true] at hmm
    subst hmm
    rw [hC] at hi hlt hfz
    have key : ∀ i, i < len → ∃ es y, (∀ j, j < es.length → W.cell? (a.add (i * size + j)) = es[j]?) ∧ es.length = size ∧ El W (· < W.heap.size) es y ∧ Z y := by
      intro i hil
      have him : i < m := by omega
      obtain ⟨cs', hc, ht'⟩ := hi i him
      obtain ⟨_, hcl, hat⟩ := World.cells?_some hc
      obtain ⟨y, hy, hzy⟩ := hE _ _ _ ht' (fun b off hb => hfz b off (List.mem_append_right _ (List.mem_flatMap.2 ⟨i, List.mem_range.2 him, hb⟩))) (fun n hn => hz n (by
        simp only [DataW.weights, ht]
        exact List.mem_cons_of_mem _ (List.mem_append_left _ (weights_all (List.mem_map.2 ⟨i, List.mem_range.2 hil, rfl⟩) n hn))))
      exact ⟨cs', y, fun j hj => cells_at hat j (by omega), hcl, hy, hzy⟩
    have hlen : ∃ xs : List α, xs.length = len ∧ ∀ i x, xs[i]? = some x → ∃ es, (∀ j, j < es.length → W.cell? (a.add (i * size + j)) = es[j]?) ∧ es.length = size ∧ El W (· < W.heap.size) es x ∧ Z x := by
      have : ∀ k, k ≤ len → ∃ xs : List α, xs.length = k ∧ ∀ i x, xs[i]? = some x → ∃ es, (∀ j, j < es.length → W.cell? (a.add (i * size + j)) = es[j]?) ∧ es.length = size ∧ El W (· < W.heap.size) es x ∧ Z x := by
        intro k
        induction k with
        | zero => exact fun _ => ⟨[], rfl, fun i x h => by simp at h⟩
        | succ k ih =>
          intro hk
          obtain ⟨xs, hxl, hx⟩ := ih (by omega)
          obtain ⟨es, y, h1, h2, h3, h4⟩ := key k (by omega)
          refine ⟨xs ++ [y], by simp [hxl], fun i x hix => ?_⟩
          by_cases hik : i < xs.length
          · rw [List.getElem?_append_left hik] at hix
            exact hx i x hix
          · rw [List.getElem?_append_right (by omega)] at hix
            have h0 : i - xs.length = 0 := by
              have := (List.getElem?_eq_some_iff.1 hix).1
              simp at this; omega
            rw [h0] at hix
            simp at hix
            subst hix
            have : i = k := by omega
            subst this
            exact ⟨es, h1, h2, h3, h4⟩
      exact this len (Nat.le_refl _)
    obtain ⟨xs, rfl, hx⟩ := hlen
    refine ⟨xs, ⟨some a, m, rfl, hl, hm, fun hn => ?_⟩, fun x hx' => ?_⟩
    · have h0 := hx 0 xs[0] (List.getElem?_eq_getElem hn)
      obtain ⟨es0, hc0, hl0, _⟩ := h0
      have hcell0 := hc0 0 (by omega)
      rw [List.getElem?_eq_getElem (by omega)] at hcell0
      obtain ⟨b, off, spot⟩ := a
      have hspot : spot = none := by simpa [Addr.add] using World.cell?_spot hcell0
      subst hspot
      have hmem : ∀ q, q < m * size → MemPlace.cell b (off + q) ∈ MemPlace.row ⟨b, off, none⟩ (m * size) := fun q hq => MemPlace.mem_row.2 ⟨q, hq, rfl⟩
      have hms : 0 < m * size := Nat.mul_pos (by omega) hs
      refine ⟨b, off, rfl, hlt _ (List.mem_append_left _ (hmem 0 hms)), fun i x hix => ?_⟩
      obtain ⟨es, hc, hlE, hel, _⟩ := hx i x hix
      have hil : i < xs.length := (List.getElem?_eq_some_iff.1 hix).1
      refine ⟨es, hel, hlt _ (List.mem_append_left _ (hmem 0 hms)), fun j u hu => ?_⟩
      have hj : j < es.length := (List.getElem?_eq_some_iff.1 hu).1
      have e1 := hc j hj
      rw [add_plain] at e1
      rw [Addr.add_lit, Nat.add_assoc]
      refine ⟨e1.trans hu, hfz _ _ (List.mem_append_left _ (hmem (i * size + j) ?_))⟩
      have : i * size + size ≤ m * size := by rw [← Nat.succ_mul]; exact Nat.mul_le_mul_right _ (by omega)
      omega
    · obtain ⟨i, hi1, hi2⟩ := List.mem_iff_getElem.1 hx'
      obtain ⟨_, _, _, _, hz4⟩ := hx i x (by rw [List.getElem?_eq_getElem hi1, hi2])
      exact hz4
theorem take_drop_one (cs : List Value) (a n : Nat) : cs.drop a = (cs.drop a).take n ++ cs.drop (a + n) := by
  rw [← List.drop_drop, List.take_append_drop]
def szLine (x : XLine) : Prop := True
theorem opLine : Opens enc W 57 (LineC W (· < W.heap.size)) szLine := fun fuel cs x h hfz hz => by
  obtain ⟨xs, n, _, rfl, hcl, hxl, hf⟩ := DataW.trod_struct Try.underlying57 h
  have hcl2 : cs.length = 3 := hcl.trans (by kernel_rfl)
  have hw : ∀ (j : Nat) (t : TypeId) (y : DataW H × List MemPlace), ([3, 3, 3] : List TypeId)[j]? = some t → xs[j]? = some y → ∀ n ∈ y.1.weights Try.prog t, n ≤ reachBytes := fun j t y ht hy n hn => hz n (by
    simp only [DataW.weights, Try.underlying57]
    exact DataW.weights_mem_each (j := j) (t := t) (d := y.1) ht (by rw [List.getElem?_map, hy]; rfl) n hn)
  have h0 := hf 0 _ rfl
  obtain ⟨y0, hy0⟩ : ∃ y, xs[0]? = some y := ⟨_, List.getElem?_eq_getElem (by rw [hxl]; decide)⟩
  obtain ⟨a0, q0, z0⟩ := opInt _ _ _ (h0.trans hy0) (fun b off hb => hfz b off (List.mem_flatMap.2 ⟨y0, List.mem_of_getElem? hy0, hb⟩)) (hw 0 _ y0 rfl hy0)
  have h1 := hf 1 _ rfl
  obtain ⟨y1, hy1⟩ : ∃ y, xs[1]? = some y := ⟨_, List.getElem?_eq_getElem (by rw [hxl]; decide)⟩
  obtain ⟨a1, q1, z1⟩ := opInt _ _ _ (h1.trans hy1) (fun b off hb => hfz b off (List.mem_flatMap.2 ⟨y1, List.mem_of_getElem? hy1, hb⟩)) (hw 1 _ y1 rfl hy1)
  have h2 := hf 2 _ rfl
  obtain ⟨y2, hy2⟩ : ∃ y, xs[2]? = some y := ⟨_, List.getElem?_eq_getElem (by rw [hxl]; decide)⟩
  obtain ⟨a2, q2, z2⟩ := opInt _ _ _ (h2.trans hy2) (fun b off hb => hfz b off (List.mem_flatMap.2 ⟨y2, List.mem_of_getElem? hy2, hb⟩)) (hw 2 _ y2 rfl hy2)
  refine ⟨⟨a0, a1, a2⟩, ⟨_, _, _, ?_, q0, q1, q2⟩, trivial⟩
  have e0 : (cs.drop 0).take (Try.prog.cellsOf 3) = (cs.drop 0).take 1 := by rw [show Try.prog.cellsOf 3 = 1 from by kernel_rfl]
  have e1 : (cs.drop 1).take (Try.prog.cellsOf 3) = (cs.drop 1).take 1 := by rw [show Try.prog.cellsOf 3 = 1 from by kernel_rfl]
  have e2 : (cs.drop 2).take (Try.prog.cellsOf 3) = (cs.drop 2).take 1 := by rw [show Try.prog.cellsOf 3 = 1 from by kernel_rfl]
  show cs = (cs.drop 0).take (Try.prog.cellsOf 3) ++ (cs.drop 1).take (Try.prog.cellsOf 3) ++ (cs.drop 2).take (Try.prog.cellsOf 3)
  rw [e0, e1, e2]
  have z : cs = cs.drop 0 := rfl
  have t0 := take_drop_one cs 0 1
  have t1 := take_drop_one cs 1 1
  have t2 := take_drop_one cs 2 1
  have tn : cs.drop 3 = [] := List.drop_eq_nil_of_le (by omega)
  simp only [Nat.reduceAdd] at t0 t1 t2
  have r2 := t2.trans (by rw [tn, List.append_nil])
  have r1 := t1.trans (congrArg (_ ++ ·) r2)
  have r0 := t0.trans (congrArg (_ ++ ·) r1)
  refine z.trans (r0.trans ?_)
  simp only [List.append_assoc]
theorem opLLine : Opens enc W 51 (ListC LineC 3 W (· < W.heap.size)) (zList szLine) := opList Try.underlying51 (by kernel_rfl) (by decide) opLine
def szEntry (x : XEntry) : Prop := x.text.size ≤ 140737488355327
theorem opEntry : Opens enc W 53 (EntryC W (· < W.heap.size)) szEntry := fun fuel cs x h hfz hz => by
  obtain ⟨xs, n, _, rfl, hcl, hxl, hf⟩ := DataW.trod_struct Try.underlying53 h
  have hcl2 : cs.length = 7 := hcl.trans (by kernel_rfl)
  have hw : ∀ (j : Nat) (t : TypeId) (y : DataW H × List MemPlace), ([3, 3, 3, 3, 3, 9, 51] : List TypeId)[j]? = some t → xs[j]? = some y → ∀ n ∈ y.1.weights Try.prog t, n ≤ reachBytes := fun j t y ht hy n hn => hz n (by
    simp only [DataW.weights, Try.underlying53]
    exact DataW.weights_mem_each (j := j) (t := t) (d := y.1) ht (by rw [List.getElem?_map, hy]; rfl) n hn)
  have h0 := hf 0 _ rfl
  obtain ⟨y0, hy0⟩ : ∃ y, xs[0]? = some y := ⟨_, List.getElem?_eq_getElem (by rw [hxl]; decide)⟩
  obtain ⟨a0, q0, z0⟩ := opInt _ _ _ (h0.trans hy0) (fun b off hb => hfz b off (List.mem_flatMap.2 ⟨y0, List.mem_of_getElem? hy0, hb⟩)) (hw 0 _ y0 rfl hy0)
  have h1 := hf 1 _ rfl
  obtain ⟨y1, hy1⟩ : ∃ y, xs[1]? = some y := ⟨_, List.getElem?_eq_getElem (by rw [hxl]; decide)⟩
  obtain ⟨a1, q1, z1⟩ := opInt _ _ _ (h1.trans hy1) (fun b off hb => hfz b off (List.mem_flatMap.2 ⟨y1, List.mem_of_getElem? hy1, hb⟩)) (hw 1 _ y1 rfl hy1)
  have h2 := hf 2 _ rfl
  obtain ⟨y2, hy2⟩ : ∃ y, xs[2]? = some y := ⟨_, List.getElem?_eq_getElem (by rw [hxl]; decide)⟩
  obtain ⟨a2, q2, z2⟩ := opInt _ _ _ (h2.trans hy2) (fun b off hb => hfz b off (List.mem_flatMap.2 ⟨y2, List.mem_of_getElem? hy2, hb⟩)) (hw 2 _ y2 rfl hy2)
  have h3 := hf 3 _ rfl
  obtain ⟨y3, hy3⟩ : ∃ y, xs[3]? = some y := ⟨_, List.getElem?_eq_getElem (by rw [hxl]; decide)⟩
  obtain ⟨a3, q3, z3⟩ := opInt _ _ _ (h3.trans hy3) (fun b off hb => hfz b off (List.mem_flatMap.2 ⟨y3, List.mem_of_getElem? hy3, hb⟩)) (hw 3 _ y3 rfl hy3)
  have h4 := hf 4 _ rfl
  obtain ⟨y4, hy4⟩ : ∃ y, xs[4]? = some y := ⟨_, List.getElem?_eq_getElem (by rw [hxl]; decide)⟩
  obtain ⟨a4, q4, z4⟩ := opInt _ _ _ (h4.trans hy4) (fun b off hb => hfz b off (List.mem_flatMap.2 ⟨y4, List.mem_of_getElem? hy4, hb⟩)) (hw 4 _ y4 rfl hy4)
  have h5 := hf 5 _ rfl
  obtain ⟨y5, hy5⟩ : ∃ y, xs[5]? = some y := ⟨_, List.getElem?_eq_getElem (by rw [hxl]; decide)⟩
  obtain ⟨a5, q5, z5⟩ := opStr _ _ _ (h5.trans hy5) (fun b off hb => hfz b off (List.mem_flatMap.2 ⟨y5, List.mem_of_getElem? hy5, hb⟩)) (hw 5 _ y5 rfl hy5)
  have h6 := hf 6 _ rfl
  obtain ⟨y6, hy6⟩ : ∃ y, xs[6]? = some y := ⟨_, List.getElem?_eq_getElem (by rw [hxl]; decide)⟩
  obtain ⟨a6, q6, z6⟩ := opLLine _ _ _ (h6.trans hy6) (fun b off hb => hfz b off (List.mem_flatMap.2 ⟨y6, List.mem_of_getElem? hy6, hb⟩)) (hw 6 _ y6 rfl hy6)
  refine ⟨⟨a0, a1, a2, a3, a4, a5, a6⟩, ⟨_, _, _, _, _, _, _, ?_, q0, q1, q2, q3, q4, q5, q6⟩, z5⟩
  have e0 : (cs.drop 0).take (Try.prog.cellsOf 3) = (cs.drop 0).take 1 := by rw [show Try.prog.cellsOf 3 = 1 from by kernel_rfl]
  have e1 : (cs.drop 1).take (Try.prog.cellsOf 3) = (cs.drop 1).take 1 := by rw [show Try.prog.cellsOf 3 = 1 from by kernel_rfl]
  have e2 : (cs.drop 2).take (Try.prog.cellsOf 3) = (cs.drop 2).take 1 := by rw [show Try.prog.cellsOf 3 = 1 from by kernel_rfl]
  have e3 : (cs.drop 3).take (Try.prog.cellsOf 3) = (cs.drop 3).take 1 := by rw [show Try.prog.cellsOf 3 = 1 from by kernel_rfl]
  have e4 : (cs.drop 4).take (Try.prog.cellsOf 3) = (cs.drop 4).take 1 := by rw [show Try.prog.cellsOf 3 = 1 from by kernel_rfl]
  have e5 : (cs.drop 5).take (Try.prog.cellsOf 9) = (cs.drop 5).take 1 := by rw [show Try.prog.cellsOf 9 = 1 from by kernel_rfl]
  have e6 : (cs.drop 6).take (Try.prog.cellsOf 51) = (cs.drop 6).take 1 := by rw [show Try.prog.cellsOf 51 = 1 from by kernel_rfl]
  show cs = (cs.drop 0).take (Try.prog.cellsOf 3) ++ (cs.drop 1).take (Try.prog.cellsOf 3) ++ (cs.drop 2).take (Try.prog.cellsOf 3) ++ (cs.drop 3).take (Try.prog.cellsOf 3) ++ (cs.drop 4).take (Try.prog.cellsOf 3) ++ (cs.drop 5).take (Try.prog.cellsOf 9) ++ (cs.drop 6).take (Try.prog.cellsOf 51)
  rw [e0, e1, e2, e3, e4, e5, e6]
  have z : cs = cs.drop 0 := rfl
  have t0 := take_drop_one cs 0 1
  have t1 := take_drop_one cs 1 1
  have t2 := take_drop_one cs 2 1
  have t3 := take_drop_one cs 3 1
  have t4 := take_drop_one cs 4 1
  have t5 := take_drop_one cs 5 1
  have t6 := take_drop_one cs 6 1
  have tn : cs.drop 7 = [] := List.drop_eq_nil_of_le (by omega)
  simp only [Nat.reduceAdd] at t0 t1 t2 t3 t4 t5 t6
  have r6 := t6.trans (by rw [tn, List.append_nil])
  have r5 := t5.trans (congrArg (_ ++ ·) r6)
  have r4 := t4.trans (congrArg (_ ++ ·) r5)
  have r3 := t3.trans (congrArg (_ ++ ·) r4)
  have r2 := t2.trans (congrArg (_ ++ ·) r3)
  have r1 := t1.trans (congrArg (_ ++ ·) r2)
  have r0 := t0.trans (congrArg (_ ++ ·) r1)
  refine z.trans (r0.trans ?_)
  simp only [List.append_assoc]
theorem opLEntry : Opens enc W 61 (ListC EntryC 7 W (· < W.heap.size)) (zList szEntry) := opList Try.underlying61 (by kernel_rfl) (by decide) opEntry
def szAccount (x : XAccount) : Prop := True
theorem opAccount : Opens enc W 157 (AccountC W (· < W.heap.size)) szAccount := fun fuel cs x h hfz hz => by
  obtain ⟨xs, n, _, rfl, hcl, hxl, hf⟩ := DataW.trod_struct Try.underlying157 h
  have hcl2 : cs.length = 4 := hcl.trans (by kernel_rfl)
  have hw : ∀ (j : Nat) (t : TypeId) (y : DataW H × List MemPlace), ([3, 3, 3, 3] : List TypeId)[j]? = some t → xs[j]? = some y → ∀ n ∈ y.1.weights Try.prog t, n ≤ reachBytes := fun j t y ht hy n hn => hz n (by
    simp only [DataW.weights, Try.underlying157]
    exact DataW.weights_mem_each (j := j) (t := t) (d := y.1) ht (by rw [List.getElem?_map, hy]; rfl) n hn)
  have h0 := hf 0 _ rfl
  obtain ⟨y0, hy0⟩ : ∃ y, xs[0]? = some y := ⟨_, List.getElem?_eq_getElem (by rw [hxl]; decide)⟩
  obtain ⟨a0, q0, z0⟩ := opInt _ _ _ (h0.trans hy0) (fun b off hb => hfz b off (List.mem_flatMap.2 ⟨y0, List.mem_of_getElem? hy0, hb⟩)) (hw 0 _ y0 rfl hy0)
  have h1 := hf 1 _ rfl
  obtain ⟨y1, hy1⟩ : ∃ y, xs[1]? = some y := ⟨_, List.getElem?_eq_getElem (by rw [hxl]; decide)⟩
  obtain ⟨a1, q1, z1⟩ := opInt _ _ _ (h1.trans hy1) (fun b off hb => hfz b off (List.mem_flatMap.2 ⟨y1, List.mem_of_getElem? hy1, hb⟩)) (hw 1 _ y1 rfl hy1)
  have h2 := hf 2 _ rfl
  obtain ⟨y2, hy2⟩ : ∃ y, xs[2]? = some y := ⟨_, List.getElem?_eq_getElem (by rw [hxl]; decide)⟩
  obtain ⟨a2, q2, z2⟩ := opInt _ _ _ (h2.trans hy2) (fun b off hb => hfz b off (List.mem_flatMap.2 ⟨y2, List.mem_of_getElem? hy2, hb⟩)) (hw 2 _ y2 rfl hy2)
  have h3 := hf 3 _ rfl
  obtain ⟨y3, hy3⟩ : ∃ y, xs[3]? = some y := ⟨_, List.getElem?_eq_getElem (by rw [hxl]; decide)⟩
  obtain ⟨a3, q3, z3⟩ := opInt _ _ _ (h3.trans hy3) (fun b off hb => hfz b off (List.mem_flatMap.2 ⟨y3, List.mem_of_getElem? hy3, hb⟩)) (hw 3 _ y3 rfl hy3)
  refine ⟨⟨a0, a1, a2, a3⟩, ⟨_, _, _, _, ?_, q0, q1, q2, q3⟩, trivial⟩
  have e0 : (cs.drop 0).take (Try.prog.cellsOf 3) = (cs.drop 0).take 1 := by rw [show Try.prog.cellsOf 3 = 1 from by kernel_rfl]
  have e1 : (cs.drop 1).take (Try.prog.cellsOf 3) = (cs.drop 1).take 1 := by rw [show Try.prog.cellsOf 3 = 1 from by kernel_rfl]
  have e2 : (cs.drop 2).take (Try.prog.cellsOf 3) = (cs.drop 2).take 1 := by rw [show Try.prog.cellsOf 3 = 1 from by kernel_rfl]
  have e3 : (cs.drop 3).take (Try.prog.cellsOf 3) = (cs.drop 3).take 1 := by rw [show Try.prog.cellsOf 3 = 1 from by kernel_rfl]
  show cs = (cs.drop 0).take (Try.prog.cellsOf 3) ++ (cs.drop 1).take (Try.prog.cellsOf 3) ++ (cs.drop 2).take (Try.prog.cellsOf 3) ++ (cs.drop 3).take (Try.prog.cellsOf 3)
  rw [e0, e1, e2, e3]
  have z : cs = cs.drop 0 := rfl
  have t0 := take_drop_one cs 0 1
  have t1 := take_drop_one cs 1 1
  have t2 := take_drop_one cs 2 1
  have t3 := take_drop_one cs 3 1
  have tn : cs.drop 4 = [] := List.drop_eq_nil_of_le (by omega)
  simp only [Nat.reduceAdd] at t0 t1 t2 t3
  have r3 := t3.trans (by rw [tn, List.append_nil])
  have r2 := t2.trans (congrArg (_ ++ ·) r3)
  have r1 := t1.trans (congrArg (_ ++ ·) r2)
  have r0 := t0.trans (congrArg (_ ++ ·) r1)
  refine z.trans (r0.trans ?_)
  simp only [List.append_assoc]
theorem opLAccount : Opens enc W 24 (ListC AccountC 4 W (· < W.heap.size)) (zList szAccount) := opList Try.underlying24 (by kernel_rfl) (by decide) opAccount
def szLink (x : XLink) : Prop := True
theorem opLink : Opens enc W 182 (LinkC W (· < W.heap.size)) szLink := fun fuel cs x h hfz hz => by
  obtain ⟨xs, n, _, rfl, hcl, hxl, hf⟩ := DataW.trod_struct Try.underlying182 h
  have hcl2 : cs.length = 3 := hcl.trans (by kernel_rfl)
  have hw : ∀ (j : Nat) (t : TypeId) (y : DataW H × List MemPlace), ([3, 3, 3] : List TypeId)[j]? = some t → xs[j]? = some y → ∀ n ∈ y.1.weights Try.prog t, n ≤ reachBytes := fun j t y ht hy n hn => hz n (by
    simp only [DataW.weights, Try.underlying182]
    exact DataW.weights_mem_each (j := j) (t := t) (d := y.1) ht (by rw [List.getElem?_map, hy]; rfl) n hn)
  have h0 := hf 0 _ rfl
  obtain ⟨y0, hy0⟩ : ∃ y, xs[0]? = some y := ⟨_, List.getElem?_eq_getElem (by rw [hxl]; decide)⟩
  obtain ⟨a0, q0, z0⟩ := opInt _ _ _ (h0.trans hy0) (fun b off hb => hfz b off (List.mem_flatMap.2 ⟨y0, List.mem_of_getElem? hy0, hb⟩)) (hw 0 _ y0 rfl hy0)
  have h1 := hf 1 _ rfl
  obtain ⟨y1, hy1⟩ : ∃ y, xs[1]? = some y := ⟨_, List.getElem?_eq_getElem (by rw [hxl]; decide)⟩
  obtain ⟨a1, q1, z1⟩ := opInt _ _ _ (h1.trans hy1) (fun b off hb => hfz b off (List.mem_flatMap.2 ⟨y1, List.mem_of_getElem? hy1, hb⟩)) (hw 1 _ y1 rfl hy1)
  have h2 := hf 2 _ rfl
  obtain ⟨y2, hy2⟩ : ∃ y, xs[2]? = some y := ⟨_, List.getElem?_eq_getElem (by rw [hxl]; decide)⟩
  obtain ⟨a2, q2, z2⟩ := opInt _ _ _ (h2.trans hy2) (fun b off hb => hfz b off (List.mem_flatMap.2 ⟨y2, List.mem_of_getElem? hy2, hb⟩)) (hw 2 _ y2 rfl hy2)
  refine ⟨⟨a0, a1, a2⟩, ⟨_, _, _, ?_, q0, q1, q2⟩, trivial⟩
  have e0 : (cs.drop 0).take (Try.prog.cellsOf 3) = (cs.drop 0).take 1 := by rw [show Try.prog.cellsOf 3 = 1 from by kernel_rfl]
  have e1 : (cs.drop 1).take (Try.prog.cellsOf 3) = (cs.drop 1).take 1 := by rw [show Try.prog.cellsOf 3 = 1 from by kernel_rfl]
  have e2 : (cs.drop 2).take (Try.prog.cellsOf 3) = (cs.drop 2).take 1 := by rw [show Try.prog.cellsOf 3 = 1 from by kernel_rfl]
  show cs = (cs.drop 0).take (Try.prog.cellsOf 3) ++ (cs.drop 1).take (Try.prog.cellsOf 3) ++ (cs.drop 2).take (Try.prog.cellsOf 3)
  rw [e0, e1, e2]
  have z : cs = cs.drop 0 := rfl
  have t0 := take_drop_one cs 0 1
  have t1 := take_drop_one cs 1 1
  have t2 := take_drop_one cs 2 1
  have tn : cs.drop 3 = [] := List.drop_eq_nil_of_le (by omega)
  simp only [Nat.reduceAdd] at t0 t1 t2
  have r2 := t2.trans (by rw [tn, List.append_nil])
  have r1 := t1.trans (congrArg (_ ++ ·) r2)
  have r0 := t0.trans (congrArg (_ ++ ·) r1)
  refine z.trans (r0.trans ?_)
  simp only [List.append_assoc]
theorem opLLink : Opens enc W 111 (ListC LinkC 3 W (· < W.heap.size)) (zList szLink) := opList Try.underlying111 (by kernel_rfl) (by decide) opLink
theorem opEntity : Opens enc W 113 (EntityC W (· < W.heap.size)) szE := fun fuel cs x h hfz hz => by
  obtain ⟨xs, n, _, rfl, hcl, hxl, hf⟩ := DataW.trod_struct Try.underlying113 h
  have hcl2 : cs.length = 5 := hcl.trans (by kernel_rfl)
  have hw : ∀ (j : Nat) (t : TypeId) (y : DataW H × List MemPlace), ([9, 9, 24, 111, 4] : List TypeId)[j]? = some t → xs[j]? = some y → ∀ n ∈ y.1.weights Try.prog t, n ≤ reachBytes := fun j t y ht hy n hn => hz n (by
    simp only [DataW.weights, Try.underlying113]
    exact DataW.weights_mem_each (j := j) (t := t) (d := y.1) ht (by rw [List.getElem?_map, hy]; rfl) n hn)
  have h0 := hf 0 _ rfl
  obtain ⟨y0, hy0⟩ : ∃ y, xs[0]? = some y := ⟨_, List.getElem?_eq_getElem (by rw [hxl]; decide)⟩
  obtain ⟨a0, q0, z0⟩ := opStr _ _ _ (h0.trans hy0) (fun b off hb => hfz b off (List.mem_flatMap.2 ⟨y0, List.mem_of_getElem? hy0, hb⟩)) (hw 0 _ y0 rfl hy0)
  have h1 := hf 1 _ rfl
  obtain ⟨y1, hy1⟩ : ∃ y, xs[1]? = some y := ⟨_, List.getElem?_eq_getElem (by rw [hxl]; decide)⟩
  obtain ⟨a1, q1, z1⟩ := opStr _ _ _ (h1.trans hy1) (fun b off hb => hfz b off (List.mem_flatMap.2 ⟨y1, List.mem_of_getElem? hy1, hb⟩)) (hw 1 _ y1 rfl hy1)
  have h2 := hf 2 _ rfl
  obtain ⟨y2, hy2⟩ : ∃ y, xs[2]? = some y := ⟨_, List.getElem?_eq_getElem (by rw [hxl]; decide)⟩
  obtain ⟨a2, q2, z2⟩ := opLAccount _ _ _ (h2.trans hy2) (fun b off hb => hfz b off (List.mem_flatMap.2 ⟨y2, List.mem_of_getElem? hy2, hb⟩)) (hw 2 _ y2 rfl hy2)
  have h3 := hf 3 _ rfl
  obtain ⟨y3, hy3⟩ : ∃ y, xs[3]? = some y := ⟨_, List.getElem?_eq_getElem (by rw [hxl]; decide)⟩
  obtain ⟨a3, q3, z3⟩ := opLLink _ _ _ (h3.trans hy3) (fun b off hb => hfz b off (List.mem_flatMap.2 ⟨y3, List.mem_of_getElem? hy3, hb⟩)) (hw 3 _ y3 rfl hy3)
  have h4 := hf 4 _ rfl
  obtain ⟨y4, hy4⟩ : ∃ y, xs[4]? = some y := ⟨_, List.getElem?_eq_getElem (by rw [hxl]; decide)⟩
  obtain ⟨a4, q4, z4⟩ := opBool _ _ _ (h4.trans hy4) (fun b off hb => hfz b off (List.mem_flatMap.2 ⟨y4, List.mem_of_getElem? hy4, hb⟩)) (hw 4 _ y4 rfl hy4)
  refine ⟨⟨a0, a1, a2, a3, a4⟩, ⟨_, _, _, _, _, ?_, q0, q1, q2, q3, q4⟩, ⟨z0, z1⟩⟩
  have e0 : (cs.drop 0).take (Try.prog.cellsOf 9) = (cs.drop 0).take 1 := by rw [show Try.prog.cellsOf 9 = 1 from by kernel_rfl]
  have e1 : (cs.drop 1).take (Try.prog.cellsOf 9) = (cs.drop 1).take 1 := by rw [show Try.prog.cellsOf 9 = 1 from by kernel_rfl]
  have e2 : (cs.drop 2).take (Try.prog.cellsOf 24) = (cs.drop 2).take 1 := by rw [show Try.prog.cellsOf 24 = 1 from by kernel_rfl]
  have e3 : (cs.drop 3).take (Try.prog.cellsOf 111) = (cs.drop 3).take 1 := by rw [show Try.prog.cellsOf 111 = 1 from by kernel_rfl]
  have e4 : (cs.drop 4).take (Try.prog.cellsOf 4) = (cs.drop 4).take 1 := by rw [show Try.prog.cellsOf 4 = 1 from by kernel_rfl]
  show cs = (cs.drop 0).take (Try.prog.cellsOf 9) ++ (cs.drop 1).take (Try.prog.cellsOf 9) ++ (cs.drop 2).take (Try.prog.cellsOf 24) ++ (cs.drop 3).take (Try.prog.cellsOf 111) ++ (cs.drop 4).take (Try.prog.cellsOf 4)
  rw [e0, e1, e2, e3, e4]
  have z : cs = cs.drop 0 := rfl
  have t0 := take_drop_one cs 0 1
  have t1 := take_drop_one cs 1 1
  have t2 := take_drop_one cs 2 1
  have t3 := take_drop_one cs 3 1
  have t4 := take_drop_one cs 4 1
  have tn : cs.drop 5 = [] := List.drop_eq_nil_of_le (by omega)
  simp only [Nat.reduceAdd] at t0 t1 t2 t3 t4
  have r4 := t4.trans (by rw [tn, List.append_nil])
  have r3 := t3.trans (congrArg (_ ++ ·) r4)
  have r2 := t2.trans (congrArg (_ ++ ·) r3)
  have r1 := t1.trans (congrArg (_ ++ ·) r2)
  have r0 := t0.trans (congrArg (_ ++ ·) r1)
  refine z.trans (r0.trans ?_)
  simp only [List.append_assoc]
theorem opLEntity : Opens enc W 27 (ListC EntityC 5 W (· < W.heap.size)) (zList szE) := opList Try.underlying27 (by kernel_rfl) (by decide) opEntity
def szCal (x : XCal) : Prop := True
theorem opCal : Opens enc W 23 (CalC W (· < W.heap.size)) szCal := fun fuel cs x h hfz hz => by
  obtain ⟨xs, n, _, rfl, hcl, hxl, hf⟩ := DataW.trod_struct Try.underlying23 h
  have hcl2 : cs.length = 3 := hcl.trans (by kernel_rfl)
  have hw : ∀ (j : Nat) (t : TypeId) (y : DataW H × List MemPlace), ([3, 3, 3] : List TypeId)[j]? = some t → xs[j]? = some y → ∀ n ∈ y.1.weights Try.prog t, n ≤ reachBytes := fun j t y ht hy n hn => hz n (by
    simp only [DataW.weights, Try.underlying23]
    exact DataW.weights_mem_each (j := j) (t := t) (d := y.1) ht (by rw [List.getElem?_map, hy]; rfl) n hn)
  have h0 := hf 0 _ rfl
  obtain ⟨y0, hy0⟩ : ∃ y, xs[0]? = some y := ⟨_, List.getElem?_eq_getElem (by rw [hxl]; decide)⟩
  obtain ⟨a0, q0, z0⟩ := opInt _ _ _ (h0.trans hy0) (fun b off hb => hfz b off (List.mem_flatMap.2 ⟨y0, List.mem_of_getElem? hy0, hb⟩)) (hw 0 _ y0 rfl hy0)
  have h1 := hf 1 _ rfl
  obtain ⟨y1, hy1⟩ : ∃ y, xs[1]? = some y := ⟨_, List.getElem?_eq_getElem (by rw [hxl]; decide)⟩
  obtain ⟨a1, q1, z1⟩ := opInt _ _ _ (h1.trans hy1) (fun b off hb => hfz b off (List.mem_flatMap.2 ⟨y1, List.mem_of_getElem? hy1, hb⟩)) (hw 1 _ y1 rfl hy1)
  have h2 := hf 2 _ rfl
  obtain ⟨y2, hy2⟩ : ∃ y, xs[2]? = some y := ⟨_, List.getElem?_eq_getElem (by rw [hxl]; decide)⟩
  obtain ⟨a2, q2, z2⟩ := opInt _ _ _ (h2.trans hy2) (fun b off hb => hfz b off (List.mem_flatMap.2 ⟨y2, List.mem_of_getElem? hy2, hb⟩)) (hw 2 _ y2 rfl hy2)
  refine ⟨⟨a0, a1, a2⟩, ⟨_, _, _, ?_, q0, q1, q2⟩, trivial⟩
  have e0 : (cs.drop 0).take (Try.prog.cellsOf 3) = (cs.drop 0).take 1 := by rw [show Try.prog.cellsOf 3 = 1 from by kernel_rfl]
  have e1 : (cs.drop 1).take (Try.prog.cellsOf 3) = (cs.drop 1).take 1 := by rw [show Try.prog.cellsOf 3 = 1 from by kernel_rfl]
  have e2 : (cs.drop 2).take (Try.prog.cellsOf 3) = (cs.drop 2).take 1 := by rw [show Try.prog.cellsOf 3 = 1 from by kernel_rfl]
  show cs = (cs.drop 0).take (Try.prog.cellsOf 3) ++ (cs.drop 1).take (Try.prog.cellsOf 3) ++ (cs.drop 2).take (Try.prog.cellsOf 3)
  rw [e0, e1, e2]
  have z : cs = cs.drop 0 := rfl
  have t0 := take_drop_one cs 0 1
  have t1 := take_drop_one cs 1 1
  have t2 := take_drop_one cs 2 1
  have tn : cs.drop 3 = [] := List.drop_eq_nil_of_le (by omega)
  simp only [Nat.reduceAdd] at t0 t1 t2
  have r2 := t2.trans (by rw [tn, List.append_nil])
  have r1 := t1.trans (congrArg (_ ++ ·) r2)
  have r0 := t0.trans (congrArg (_ ++ ·) r1)
  refine z.trans (r0.trans ?_)
  simp only [List.append_assoc]
def szRoles (x : XRoles) : Prop := True
theorem opRoles : Opens enc W 26 (RolesC W (· < W.heap.size)) szRoles := fun fuel cs x h hfz hz => by
  obtain ⟨xs, n, _, rfl, hcl, hxl, hf⟩ := DataW.trod_struct Try.underlying26 h
  have hcl2 : cs.length = 15 := hcl.trans (by kernel_rfl)
  have hw : ∀ (j : Nat) (t : TypeId) (y : DataW H × List MemPlace), ([3, 3, 3, 3, 3, 3, 3, 3, 3, 3, 3, 3, 3, 3, 3] : List TypeId)[j]? = some t → xs[j]? = some y → ∀ n ∈ y.1.weights Try.prog t, n ≤ reachBytes := fun j t y ht hy n hn => hz n (by
    simp only [DataW.weights, Try.underlying26]
    exact DataW.weights_mem_each (j := j) (t := t) (d := y.1) ht (by rw [List.getElem?_map, hy]; rfl) n hn)
  have h0 := hf 0 _ rfl
  obtain ⟨y0, hy0⟩ : ∃ y, xs[0]? = some y := ⟨_, List.getElem?_eq_getElem (by rw [hxl]; decide)⟩
  obtain ⟨a0, q0, z0⟩ := opInt _ _ _ (h0.trans hy0) (fun b off hb => hfz b off (List.mem_flatMap.2 ⟨y0, List.mem_of_getElem? hy0, hb⟩)) (hw 0 _ y0 rfl hy0)
  have h1 := hf 1 _ rfl
  obtain ⟨y1, hy1⟩ : ∃ y, xs[1]? = some y := ⟨_, List.getElem?_eq_getElem (by rw [hxl]; decide)⟩
  obtain ⟨a1, q1, z1⟩ := opInt _ _ _ (h1.trans hy1) (fun b off hb => hfz b off (List.mem_flatMap.2 ⟨y1, List.mem_of_getElem? hy1, hb⟩)) (hw 1 _ y1 rfl hy1)
  have h2 := hf 2 _ rfl
  obtain ⟨y2, hy2⟩ : ∃ y, xs[2]? = some y := ⟨_, List.getElem?_eq_getElem (by rw [hxl]; decide)⟩
  obtain ⟨a2, q2, z2⟩ := opInt _ _ _ (h2.trans hy2) (fun b off hb => hfz b off (List.mem_flatMap.2 ⟨y2, List.mem_of_getElem? hy2, hb⟩)) (hw 2 _ y2 rfl hy2)
  have h3 := hf 3 _ rfl
  obtain ⟨y3, hy3⟩ : ∃ y, xs[3]? = some y := ⟨_, List.getElem?_eq_getElem (by rw [hxl]; decide)⟩
  obtain ⟨a3, q3, z3⟩ := opInt _ _ _ (h3.trans hy3) (fun b off hb => hfz b off (List.mem_flatMap.2 ⟨y3, List.mem_of_getElem? hy3, hb⟩)) (hw 3 _ y3 rfl hy3)
  have h4 := hf 4 _ rfl
  obtain ⟨y4, hy4⟩ : ∃ y, xs[4]? = some y := ⟨_, List.getElem?_eq_getElem (by rw [hxl]; decide)⟩
  obtain ⟨a4, q4, z4⟩ := opInt _ _ _ (h4.trans hy4) (fun b off hb => hfz b off (List.mem_flatMap.2 ⟨y4, List.mem_of_getElem? hy4, hb⟩)) (hw 4 _ y4 rfl hy4)
  have h5 := hf 5 _ rfl
  obtain ⟨y5, hy5⟩ : ∃ y, xs[5]? = some y := ⟨_, List.getElem?_eq_getElem (by rw [hxl]; decide)⟩
  obtain ⟨a5, q5, z5⟩ := opInt _ _ _ (h5.trans hy5) (fun b off hb => hfz b off (List.mem_flatMap.2 ⟨y5, List.mem_of_getElem? hy5, hb⟩)) (hw 5 _ y5 rfl hy5)
  have h6 := hf 6 _ rfl
  obtain ⟨y6, hy6⟩ : ∃ y, xs[6]? = some y := ⟨_, List.getElem?_eq_getElem (by rw [hxl]; decide)⟩
  obtain ⟨a6, q6, z6⟩ := opInt _ _ _ (h6.trans hy6) (fun b off hb => hfz b off (List.mem_flatMap.2 ⟨y6, List.mem_of_getElem? hy6, hb⟩)) (hw 6 _ y6 rfl hy6)
  have h7 := hf 7 _ rfl
  obtain ⟨y7, hy7⟩ : ∃ y, xs[7]? = some y := ⟨_, List.getElem?_eq_getElem (by rw [hxl]; decide)⟩
  obtain ⟨a7, q7, z7⟩ := opInt _ _ _ (h7.trans hy7) (fun b off hb => hfz b off (List.mem_flatMap.2 ⟨y7, List.mem_of_getElem? hy7, hb⟩)) (hw 7 _ y7 rfl hy7)
  have h8 := hf 8 _ rfl
  obtain ⟨y8, hy8⟩ : ∃ y, xs[8]? = some y := ⟨_, List.getElem?_eq_getElem (by rw [hxl]; decide)⟩
  obtain ⟨a8, q8, z8⟩ := opInt _ _ _ (h8.trans hy8) (fun b off hb => hfz b off (List.mem_flatMap.2 ⟨y8, List.mem_of_getElem? hy8, hb⟩)) (hw 8 _ y8 rfl hy8)
  have h9 := hf 9 _ rfl
  obtain ⟨y9, hy9⟩ : ∃ y, xs[9]? = some y := ⟨_, List.getElem?_eq_getElem (by rw [hxl]; decide)⟩
  obtain ⟨a9, q9, z9⟩ := opInt _ _ _ (h9.trans hy9) (fun b off hb => hfz b off (List.mem_flatMap.2 ⟨y9, List.mem_of_getElem? hy9, hb⟩)) (hw 9 _ y9 rfl hy9)
  have h10 := hf 10 _ rfl
  obtain ⟨y10, hy10⟩ : ∃ y, xs[10]? = some y := ⟨_, List.getElem?_eq_getElem (by rw [hxl]; decide)⟩
  obtain ⟨a10, q10, z10⟩ := opInt _ _ _ (h10.trans hy10) (fun b off hb => hfz b off (List.mem_flatMap.2 ⟨y10, List.mem_of_getElem? hy10, hb⟩)) (hw 10 _ y10 rfl hy10)
  have h11 := hf 11 _ rfl
  obtain ⟨y11, hy11⟩ : ∃ y, xs[11]? = some y := ⟨_, List.getElem?_eq_getElem (by rw [hxl]; decide)⟩
  obtain ⟨a11, q11, z11⟩ := opInt _ _ _ (h11.trans hy11) (fun b off hb => hfz b off (List.mem_flatMap.2 ⟨y11, List.mem_of_getElem? hy11, hb⟩)) (hw 11 _ y11 rfl hy11)
  have h12 := hf 12 _ rfl
  obtain ⟨y12, hy12⟩ : ∃ y, xs[12]? = some y := ⟨_, List.getElem?_eq_getElem (by rw [hxl]; decide)⟩
  obtain ⟨a12, q12, z12⟩ := opInt _ _ _ (h12.trans hy12) (fun b off hb => hfz b off (List.mem_flatMap.2 ⟨y12, List.mem_of_getElem? hy12, hb⟩)) (hw 12 _ y12 rfl hy12)
  have h13 := hf 13 _ rfl
  obtain ⟨y13, hy13⟩ : ∃ y, xs[13]? = some y := ⟨_, List.getElem?_eq_getElem (by rw [hxl]; decide)⟩
  obtain ⟨a13, q13, z13⟩ := opInt _ _ _ (h13.trans hy13) (fun b off hb => hfz b off (List.mem_flatMap.2 ⟨y13, List.mem_of_getElem? hy13, hb⟩)) (hw 13 _ y13 rfl hy13)
  have h14 := hf 14 _ rfl
  obtain ⟨y14, hy14⟩ : ∃ y, xs[14]? = some y := ⟨_, List.getElem?_eq_getElem (by rw [hxl]; decide)⟩
  obtain ⟨a14, q14, z14⟩ := opInt _ _ _ (h14.trans hy14) (fun b off hb => hfz b off (List.mem_flatMap.2 ⟨y14, List.mem_of_getElem? hy14, hb⟩)) (hw 14 _ y14 rfl hy14)
  refine ⟨⟨a0, a1, a2, a3, a4, a5, a6, a7, a8, a9, a10, a11, a12, a13, a14⟩, ⟨_, _, _, _, _, _, _, _, _, _, _, _, _, _, _, ?_, q0, q1, q2, q3, q4, q5, q6, q7, q8, q9, q10, q11, q12, q13, q14⟩, trivial⟩
  have e0 : (cs.drop 0).take (Try.prog.cellsOf 3) = (cs.drop 0).take 1 := by rw [show Try.prog.cellsOf 3 = 1 from by kernel_rfl]
  have e1 : (cs.drop 1).take (Try.prog.cellsOf 3) = (cs.drop 1).take 1 := by rw [show Try.prog.cellsOf 3 = 1 from by kernel_rfl]
  have e2 : (cs.drop 2).take (Try.prog.cellsOf 3) = (cs.drop 2).take 1 := by rw [show Try.prog.cellsOf 3 = 1 from by kernel_rfl]
  have e3 : (cs.drop 3).take (Try.prog.cellsOf 3) = (cs.drop 3).take 1 := by rw [show Try.prog.cellsOf 3 = 1 from by kernel_rfl]
  have e4 : (cs.drop 4).take (Try.prog.cellsOf 3) = (cs.drop 4).take 1 := by rw [show Try.prog.cellsOf 3 = 1 from by kernel_rfl]
  have e5 : (cs.drop 5).take (Try.prog.cellsOf 3) = (cs.drop 5).take 1 := by rw [show Try.prog.cellsOf 3 = 1 from by kernel_rfl]
  have e6 : (cs.drop 6).take (Try.prog.cellsOf 3) = (cs.drop 6).take 1 := by rw [show Try.prog.cellsOf 3 = 1 from by kernel_rfl]
  have e7 : (cs.drop 7).take (Try.prog.cellsOf 3) = (cs.drop 7).take 1 := by rw [show Try.prog.cellsOf 3 = 1 from by kernel_rfl]
  have e8 : (cs.drop 8).take (Try.prog.cellsOf 3) = (cs.drop 8).take 1 := by rw [show Try.prog.cellsOf 3 = 1 from by kernel_rfl]
  have e9 : (cs.drop 9).take (Try.prog.cellsOf 3) = (cs.drop 9).take 1 := by rw [show Try.prog.cellsOf 3 = 1 from by kernel_rfl]
  have e10 : (cs.drop 10).take (Try.prog.cellsOf 3) = (cs.drop 10).take 1 := by rw [show Try.prog.cellsOf 3 = 1 from by kernel_rfl]
  have e11 : (cs.drop 11).take (Try.prog.cellsOf 3) = (cs.drop 11).take 1 := by rw [show Try.prog.cellsOf 3 = 1 from by kernel_rfl]
  have e12 : (cs.drop 12).take (Try.prog.cellsOf 3) = (cs.drop 12).take 1 := by rw [show Try.prog.cellsOf 3 = 1 from by kernel_rfl]
  have e13 : (cs.drop 13).take (Try.prog.cellsOf 3) = (cs.drop 13).take 1 := by rw [show Try.prog.cellsOf 3 = 1 from by kernel_rfl]
  have e14 : (cs.drop 14).take (Try.prog.cellsOf 3) = (cs.drop 14).take 1 := by rw [show Try.prog.cellsOf 3 = 1 from by kernel_rfl]
  show cs = (cs.drop 0).take (Try.prog.cellsOf 3) ++ (cs.drop 1).take (Try.prog.cellsOf 3) ++ (cs.drop 2).take (Try.prog.cellsOf 3) ++ (cs.drop 3).take (Try.prog.cellsOf 3) ++ (cs.drop 4).take (Try.prog.cellsOf 3) ++ (cs.drop 5).take (Try.prog.cellsOf 3) ++ (cs.drop 6).take (Try.prog.cellsOf 3) ++ (cs.drop 7).take (Try.prog.cellsOf 3) ++ (cs.drop 8).take (Try.prog.cellsOf 3) ++ (cs.drop 9).take (Try.prog.cellsOf 3) ++ (cs.drop 10).take (Try.prog.cellsOf 3) ++ (cs.drop 11).take (Try.prog.cellsOf 3) ++ (cs.drop 12).take (Try.prog.cellsOf 3) ++ (cs.drop 13).take (Try.prog.cellsOf 3) ++ (cs.drop 14).take (Try.prog.cellsOf 3)
  rw [e0, e1, e2, e3, e4, e5, e6, e7, e8, e9, e10, e11, e12, e13, e14]
  have z : cs = cs.drop 0 := rfl
  have t0 := take_drop_one cs 0 1
  have t1 := take_drop_one cs 1 1
  have t2 := take_drop_one cs 2 1
  have t3 := take_drop_one cs 3 1
  have t4 := take_drop_one cs 4 1
  have t5 := take_drop_one cs 5 1
  have t6 := take_drop_one cs 6 1
  have t7 := take_drop_one cs 7 1
  have t8 := take_drop_one cs 8 1
  have t9 := take_drop_one cs 9 1
  have t10 := take_drop_one cs 10 1
  have t11 := take_drop_one cs 11 1
  have t12 := take_drop_one cs 12 1
  have t13 := take_drop_one cs 13 1
  have t14 := take_drop_one cs 14 1
  have tn : cs.drop 15 = [] := List.drop_eq_nil_of_le (by omega)
  simp only [Nat.reduceAdd] at t0 t1 t2 t3 t4 t5 t6 t7 t8 t9 t10 t11 t12 t13 t14
  have r14 := t14.trans (by rw [tn, List.append_nil])
  have r13 := t13.trans (congrArg (_ ++ ·) r14)
  have r12 := t12.trans (congrArg (_ ++ ·) r13)
  have r11 := t11.trans (congrArg (_ ++ ·) r12)
  have r10 := t10.trans (congrArg (_ ++ ·) r11)
  have r9 := t9.trans (congrArg (_ ++ ·) r10)
  have r8 := t8.trans (congrArg (_ ++ ·) r9)
  have r7 := t7.trans (congrArg (_ ++ ·) r8)
  have r6 := t6.trans (congrArg (_ ++ ·) r7)
  have r5 := t5.trans (congrArg (_ ++ ·) r6)
  have r4 := t4.trans (congrArg (_ ++ ·) r5)
  have r3 := t3.trans (congrArg (_ ++ ·) r4)
  have r2 := t2.trans (congrArg (_ ++ ·) r3)
  have r1 := t1.trans (congrArg (_ ++ ·) r2)
  have r0 := t0.trans (congrArg (_ ++ ·) r1)
  refine z.trans (r0.trans ?_)
  simp only [List.append_assoc]
theorem opGroup : Opens enc W 29 (GroupC W (· < W.heap.size)) szG := fun fuel cs x h hfz hz => by
  obtain ⟨xs, n, _, rfl, hcl, hxl, hf⟩ := DataW.trod_struct Try.underlying29 h
  have hcl2 : cs.length = 21 := hcl.trans (by kernel_rfl)
  have hw : ∀ (j : Nat) (t : TypeId) (y : DataW H × List MemPlace), ([9, 23, 24, 26, 27] : List TypeId)[j]? = some t → xs[j]? = some y → ∀ n ∈ y.1.weights Try.prog t, n ≤ reachBytes := fun j t y ht hy n hn => hz n (by
    simp only [DataW.weights, Try.underlying29]
    exact DataW.weights_mem_each (j := j) (t := t) (d := y.1) ht (by rw [List.getElem?_map, hy]; rfl) n hn)
  have h0 := hf 0 _ rfl
  obtain ⟨y0, hy0⟩ : ∃ y, xs[0]? = some y := ⟨_, List.getElem?_eq_getElem (by rw [hxl]; decide)⟩
  obtain ⟨a0, q0, z0⟩ := opStr _ _ _ (h0.trans hy0) (fun b off hb => hfz b off (List.mem_flatMap.2 ⟨y0, List.mem_of_getElem? hy0, hb⟩)) (hw 0 _ y0 rfl hy0)
  have h1 := hf 1 _ rfl
  obtain ⟨y1, hy1⟩ : ∃ y, xs[1]? = some y := ⟨_, List.getElem?_eq_getElem (by rw [hxl]; decide)⟩
  obtain ⟨a1, q1, z1⟩ := opCal _ _ _ (h1.trans hy1) (fun b off hb => hfz b off (List.mem_flatMap.2 ⟨y1, List.mem_of_getElem? hy1, hb⟩)) (hw 1 _ y1 rfl hy1)
  have h2 := hf 2 _ rfl
  obtain ⟨y2, hy2⟩ : ∃ y, xs[2]? = some y := ⟨_, List.getElem?_eq_getElem (by rw [hxl]; decide)⟩
  obtain ⟨a2, q2, z2⟩ := opLAccount _ _ _ (h2.trans hy2) (fun b off hb => hfz b off (List.mem_flatMap.2 ⟨y2, List.mem_of_getElem? hy2, hb⟩)) (hw 2 _ y2 rfl hy2)
  have h3 := hf 3 _ rfl
  obtain ⟨y3, hy3⟩ : ∃ y, xs[3]? = some y := ⟨_, List.getElem?_eq_getElem (by rw [hxl]; decide)⟩
  obtain ⟨a3, q3, z3⟩ := opRoles _ _ _ (h3.trans hy3) (fun b off hb => hfz b off (List.mem_flatMap.2 ⟨y3, List.mem_of_getElem? hy3, hb⟩)) (hw 3 _ y3 rfl hy3)
  have h4 := hf 4 _ rfl
  obtain ⟨y4, hy4⟩ : ∃ y, xs[4]? = some y := ⟨_, List.getElem?_eq_getElem (by rw [hxl]; decide)⟩
  obtain ⟨a4, q4, z4⟩ := opLEntity _ _ _ (h4.trans hy4) (fun b off hb => hfz b off (List.mem_flatMap.2 ⟨y4, List.mem_of_getElem? hy4, hb⟩)) (hw 4 _ y4 rfl hy4)
  refine ⟨⟨a0, a1, a2, a3, a4⟩, ⟨_, _, _, _, _, ?_, q0, q1, q2, q3, q4⟩, ⟨z0, z4⟩⟩
  have e0 : (cs.drop 0).take (Try.prog.cellsOf 9) = (cs.drop 0).take 1 := by rw [show Try.prog.cellsOf 9 = 1 from by kernel_rfl]
  have e1 : (cs.drop 1).take (Try.prog.cellsOf 23) = (cs.drop 1).take 3 := by rw [show Try.prog.cellsOf 23 = 3 from by kernel_rfl]
  have e2 : (cs.drop 4).take (Try.prog.cellsOf 24) = (cs.drop 4).take 1 := by rw [show Try.prog.cellsOf 24 = 1 from by kernel_rfl]
  have e3 : (cs.drop 5).take (Try.prog.cellsOf 26) = (cs.drop 5).take 15 := by rw [show Try.prog.cellsOf 26 = 15 from by kernel_rfl]
  have e4 : (cs.drop 20).take (Try.prog.cellsOf 27) = (cs.drop 20).take 1 := by rw [show Try.prog.cellsOf 27 = 1 from by kernel_rfl]
  show cs = (cs.drop 0).take (Try.prog.cellsOf 9) ++ (cs.drop 1).take (Try.prog.cellsOf 23) ++ (cs.drop 4).take (Try.prog.cellsOf 24) ++ (cs.drop 5).take (Try.prog.cellsOf 26) ++ (cs.drop 20).take (Try.prog.cellsOf 27)
  rw [e0, e1, e2, e3, e4]
  have z : cs = cs.drop 0 := rfl
  have t0 := take_drop_one cs 0 1
  have t1 := take_drop_one cs 1 3
  have t2 := take_drop_one cs 4 1
  have t3 := take_drop_one cs 5 15
  have t4 := take_drop_one cs 20 1
  have tn : cs.drop 21 = [] := List.drop_eq_nil_of_le (by omega)
  simp only [Nat.reduceAdd] at t0 t1 t2 t3 t4
  have r4 := t4.trans (by rw [tn, List.append_nil])
  have r3 := t3.trans (congrArg (_ ++ ·) r4)
  have r2 := t2.trans (congrArg (_ ++ ·) r3)
  have r1 := t1.trans (congrArg (_ ++ ·) r2)
  have r0 := t0.trans (congrArg (_ ++ ·) r1)
  refine z.trans (r0.trans ?_)
  simp only [List.append_assoc]
def szRef (x : XRef) : Prop := True
theorem opRef : Opens enc W 74 (RefC W (· < W.heap.size)) szRef := fun fuel cs x h hfz hz => by
  obtain ⟨xs, n, _, rfl, hcl, hxl, hf⟩ := DataW.trod_struct Try.underlying74 h
  have hcl2 : cs.length = 2 := hcl.trans (by kernel_rfl)
  have hw : ∀ (j : Nat) (t : TypeId) (y : DataW H × List MemPlace), ([3, 3] : List TypeId)[j]? = some t → xs[j]? = some y → ∀ n ∈ y.1.weights Try.prog t, n ≤ reachBytes := fun j t y ht hy n hn => hz n (by
    simp only [DataW.weights, Try.underlying74]
    exact DataW.weights_mem_each (j := j) (t := t) (d := y.1) ht (by rw [List.getElem?_map, hy]; rfl) n hn)
  have h0 := hf 0 _ rfl
  obtain ⟨y0, hy0⟩ : ∃ y, xs[0]? = some y := ⟨_, List.getElem?_eq_getElem (by rw [hxl]; decide)⟩
  obtain ⟨a0, q0, z0⟩ := opInt _ _ _ (h0.trans hy0) (fun b off hb => hfz b off (List.mem_flatMap.2 ⟨y0, List.mem_of_getElem? hy0, hb⟩)) (hw 0 _ y0 rfl hy0)
  have h1 := hf 1 _ rfl
  obtain ⟨y1, hy1⟩ : ∃ y, xs[1]? = some y := ⟨_, List.getElem?_eq_getElem (by rw [hxl]; decide)⟩
  obtain ⟨a1, q1, z1⟩ := opInt _ _ _ (h1.trans hy1) (fun b off hb => hfz b off (List.mem_flatMap.2 ⟨y1, List.mem_of_getElem? hy1, hb⟩)) (hw 1 _ y1 rfl hy1)
  refine ⟨⟨a0, a1⟩, ⟨_, _, ?_, q0, q1⟩, trivial⟩
  have e0 : (cs.drop 0).take (Try.prog.cellsOf 3) = (cs.drop 0).take 1 := by rw [show Try.prog.cellsOf 3 = 1 from by kernel_rfl]
  have e1 : (cs.drop 1).take (Try.prog.cellsOf 3) = (cs.drop 1).take 1 := by rw [show Try.prog.cellsOf 3 = 1 from by kernel_rfl]
  show cs = (cs.drop 0).take (Try.prog.cellsOf 3) ++ (cs.drop 1).take (Try.prog.cellsOf 3)
  rw [e0, e1]
  have z : cs = cs.drop 0 := rfl
  have t0 := take_drop_one cs 0 1
  have t1 := take_drop_one cs 1 1
  have tn : cs.drop 2 = [] := List.drop_eq_nil_of_le (by omega)
  simp only [Nat.reduceAdd] at t0 t1
  have r1 := t1.trans (by rw [tn, List.append_nil])
  have r0 := t0.trans (congrArg (_ ++ ·) r1)
  refine z.trans (r0.trans ?_)
  simp only [List.append_assoc]
def szItem (x : XItem) : Prop := True
theorem opItem : Opens enc W 110 (ItemC W (· < W.heap.size)) szItem := fun fuel cs x h hfz hz => by
  obtain ⟨xs, n, _, rfl, hcl, hxl, hf⟩ := DataW.trod_struct Try.underlying110 h
  have hcl2 : cs.length = 7 := hcl.trans (by kernel_rfl)
  have hw : ∀ (j : Nat) (t : TypeId) (y : DataW H × List MemPlace), ([74, 3, 3, 3, 3, 3] : List TypeId)[j]? = some t → xs[j]? = some y → ∀ n ∈ y.1.weights Try.prog t, n ≤ reachBytes := fun j t y ht hy n hn => hz n (by
    simp only [DataW.weights, Try.underlying110]
    exact DataW.weights_mem_each (j := j) (t := t) (d := y.1) ht (by rw [List.getElem?_map, hy]; rfl) n hn)
  have h0 := hf 0 _ rfl
  obtain ⟨y0, hy0⟩ : ∃ y, xs[0]? = some y := ⟨_, List.getElem?_eq_getElem (by rw [hxl]; decide)⟩
  obtain ⟨a0, q0, z0⟩ := opRef _ _ _ (h0.trans hy0) (fun b off hb => hfz b off (List.mem_flatMap.2 ⟨y0, List.mem_of_getElem? hy0, hb⟩)) (hw 0 _ y0 rfl hy0)
  have h1 := hf 1 _ rfl
  obtain ⟨y1, hy1⟩ : ∃ y, xs[1]? = some y := ⟨_, List.getElem?_eq_getElem (by rw [hxl]; decide)⟩
  obtain ⟨a1, q1, z1⟩ := opInt _ _ _ (h1.trans hy1) (fun b off hb => hfz b off (List.mem_flatMap.2 ⟨y1, List.mem_of_getElem? hy1, hb⟩)) (hw 1 _ y1 rfl hy1)
  have h2 := hf 2 _ rfl
  obtain ⟨y2, hy2⟩ : ∃ y, xs[2]? = some y := ⟨_, List.getElem?_eq_getElem (by rw [hxl]; decide)⟩
  obtain ⟨a2, q2, z2⟩ := opInt _ _ _ (h2.trans hy2) (fun b off hb => hfz b off (List.mem_flatMap.2 ⟨y2, List.mem_of_getElem? hy2, hb⟩)) (hw 2 _ y2 rfl hy2)
  have h3 := hf 3 _ rfl
  obtain ⟨y3, hy3⟩ : ∃ y, xs[3]? = some y := ⟨_, List.getElem?_eq_getElem (by rw [hxl]; decide)⟩
  obtain ⟨a3, q3, z3⟩ := opInt _ _ _ (h3.trans hy3) (fun b off hb => hfz b off (List.mem_flatMap.2 ⟨y3, List.mem_of_getElem? hy3, hb⟩)) (hw 3 _ y3 rfl hy3)
  have h4 := hf 4 _ rfl
  obtain ⟨y4, hy4⟩ : ∃ y, xs[4]? = some y := ⟨_, List.getElem?_eq_getElem (by rw [hxl]; decide)⟩
  obtain ⟨a4, q4, z4⟩ := opInt _ _ _ (h4.trans hy4) (fun b off hb => hfz b off (List.mem_flatMap.2 ⟨y4, List.mem_of_getElem? hy4, hb⟩)) (hw 4 _ y4 rfl hy4)
  have h5 := hf 5 _ rfl
  obtain ⟨y5, hy5⟩ : ∃ y, xs[5]? = some y := ⟨_, List.getElem?_eq_getElem (by rw [hxl]; decide)⟩
  obtain ⟨a5, q5, z5⟩ := opInt _ _ _ (h5.trans hy5) (fun b off hb => hfz b off (List.mem_flatMap.2 ⟨y5, List.mem_of_getElem? hy5, hb⟩)) (hw 5 _ y5 rfl hy5)
  refine ⟨⟨a0, a1, a2, a3, a4, a5⟩, ⟨_, _, _, _, _, _, ?_, q0, q1, q2, q3, q4, q5⟩, trivial⟩
  have e0 : (cs.drop 0).take (Try.prog.cellsOf 74) = (cs.drop 0).take 2 := by rw [show Try.prog.cellsOf 74 = 2 from by kernel_rfl]
  have e1 : (cs.drop 2).take (Try.prog.cellsOf 3) = (cs.drop 2).take 1 := by rw [show Try.prog.cellsOf 3 = 1 from by kernel_rfl]
  have e2 : (cs.drop 3).take (Try.prog.cellsOf 3) = (cs.drop 3).take 1 := by rw [show Try.prog.cellsOf 3 = 1 from by kernel_rfl]
  have e3 : (cs.drop 4).take (Try.prog.cellsOf 3) = (cs.drop 4).take 1 := by rw [show Try.prog.cellsOf 3 = 1 from by kernel_rfl]
  have e4 : (cs.drop 5).take (Try.prog.cellsOf 3) = (cs.drop 5).take 1 := by rw [show Try.prog.cellsOf 3 = 1 from by kernel_rfl]
  have e5 : (cs.drop 6).take (Try.prog.cellsOf 3) = (cs.drop 6).take 1 := by rw [show Try.prog.cellsOf 3 = 1 from by kernel_rfl]
  show cs = (cs.drop 0).take (Try.prog.cellsOf 74) ++ (cs.drop 2).take (Try.prog.cellsOf 3) ++ (cs.drop 3).take (Try.prog.cellsOf 3) ++ (cs.drop 4).take (Try.prog.cellsOf 3) ++ (cs.drop 5).take (Try.prog.cellsOf 3) ++ (cs.drop 6).take (Try.prog.cellsOf 3)
  rw [e0, e1, e2, e3, e4, e5]
  have z : cs = cs.drop 0 := rfl
  have t0 := take_drop_one cs 0 2
  have t1 := take_drop_one cs 2 1
  have t2 := take_drop_one cs 3 1
  have t3 := take_drop_one cs 4 1
  have t4 := take_drop_one cs 5 1
  have t5 := take_drop_one cs 6 1
  have tn : cs.drop 7 = [] := List.drop_eq_nil_of_le (by omega)
  simp only [Nat.reduceAdd] at t0 t1 t2 t3 t4 t5
  have r5 := t5.trans (by rw [tn, List.append_nil])
  have r4 := t4.trans (congrArg (_ ++ ·) r5)
  have r3 := t3.trans (congrArg (_ ++ ·) r4)
  have r2 := t2.trans (congrArg (_ ++ ·) r3)
  have r1 := t1.trans (congrArg (_ ++ ·) r2)
  have r0 := t0.trans (congrArg (_ ++ ·) r1)
  refine z.trans (r0.trans ?_)
  simp only [List.append_assoc]
theorem opLItem : Opens enc W 30 (ListC ItemC 7 W (· < W.heap.size)) (zList szItem) := opList Try.underlying30 (by kernel_rfl) (by decide) opItem
def szStep (x : XStep) : Prop := True
theorem opStep : Opens enc W 49 (StepC W (· < W.heap.size)) szStep := fun fuel cs x h hfz hz => by
  obtain ⟨xs, n, _, rfl, hcl, hxl, hf⟩ := DataW.trod_struct Try.underlying49 h
  have hcl2 : cs.length = 3 := hcl.trans (by kernel_rfl)
  have hw : ∀ (j : Nat) (t : TypeId) (y : DataW H × List MemPlace), ([3, 3, 4] : List TypeId)[j]? = some t → xs[j]? = some y → ∀ n ∈ y.1.weights Try.prog t, n ≤ reachBytes := fun j t y ht hy n hn => hz n (by
    simp only [DataW.weights, Try.underlying49]
    exact DataW.weights_mem_each (j := j) (t := t) (d := y.1) ht (by rw [List.getElem?_map, hy]; rfl) n hn)
  have h0 := hf 0 _ rfl
  obtain ⟨y0, hy0⟩ : ∃ y, xs[0]? = some y := ⟨_, List.getElem?_eq_getElem (by rw [hxl]; decide)⟩
  obtain ⟨a0, q0, z0⟩ := opInt _ _ _ (h0.trans hy0) (fun b off hb => hfz b off (List.mem_flatMap.2 ⟨y0, List.mem_of_getElem? hy0, hb⟩)) (hw 0 _ y0 rfl hy0)
  have h1 := hf 1 _ rfl
  obtain ⟨y1, hy1⟩ : ∃ y, xs[1]? = some y := ⟨_, List.getElem?_eq_getElem (by rw [hxl]; decide)⟩
  obtain ⟨a1, q1, z1⟩ := opInt _ _ _ (h1.trans hy1) (fun b off hb => hfz b off (List.mem_flatMap.2 ⟨y1, List.mem_of_getElem? hy1, hb⟩)) (hw 1 _ y1 rfl hy1)
  have h2 := hf 2 _ rfl
  obtain ⟨y2, hy2⟩ : ∃ y, xs[2]? = some y := ⟨_, List.getElem?_eq_getElem (by rw [hxl]; decide)⟩
  obtain ⟨a2, q2, z2⟩ := opBool _ _ _ (h2.trans hy2) (fun b off hb => hfz b off (List.mem_flatMap.2 ⟨y2, List.mem_of_getElem? hy2, hb⟩)) (hw 2 _ y2 rfl hy2)
  refine ⟨⟨a0, a1, a2⟩, ⟨_, _, _, ?_, q0, q1, q2⟩, trivial⟩
  have e0 : (cs.drop 0).take (Try.prog.cellsOf 3) = (cs.drop 0).take 1 := by rw [show Try.prog.cellsOf 3 = 1 from by kernel_rfl]
  have e1 : (cs.drop 1).take (Try.prog.cellsOf 3) = (cs.drop 1).take 1 := by rw [show Try.prog.cellsOf 3 = 1 from by kernel_rfl]
  have e2 : (cs.drop 2).take (Try.prog.cellsOf 4) = (cs.drop 2).take 1 := by rw [show Try.prog.cellsOf 4 = 1 from by kernel_rfl]
  show cs = (cs.drop 0).take (Try.prog.cellsOf 3) ++ (cs.drop 1).take (Try.prog.cellsOf 3) ++ (cs.drop 2).take (Try.prog.cellsOf 4)
  rw [e0, e1, e2]
  have z : cs = cs.drop 0 := rfl
  have t0 := take_drop_one cs 0 1
  have t1 := take_drop_one cs 1 1
  have t2 := take_drop_one cs 2 1
  have tn : cs.drop 3 = [] := List.drop_eq_nil_of_le (by omega)
  simp only [Nat.reduceAdd] at t0 t1 t2
  have r2 := t2.trans (by rw [tn, List.append_nil])
  have r1 := t1.trans (congrArg (_ ++ ·) r2)
  have r0 := t0.trans (congrArg (_ ++ ·) r1)
  refine z.trans (r0.trans ?_)
  simp only [List.append_assoc]
theorem opLStep : Opens enc W 44 (ListC StepC 3 W (· < W.heap.size)) (zList szStep) := opList Try.underlying44 (by kernel_rfl) (by decide) opStep
end
end Go.Proofs.Ytnigokmjehemaaa
