/- (*stream).flag writes a bool. -/
import Derived.Test.YtgdibeegheddmaaB4TextW
import Derived.Deep.DrawnRows
import Derived.Deep.RegionLaw
namespace Go.Proofs.Ytgdibeegheddmaa
open Go Go.RowKit
attribute [local go_sem ↓] Go.wp_at_zero Go.wp_at_succ

theorem set_same {w : World} {a : Addr} {u : Value} (h : w.cell? a = some u) : w.setCell a u = w := by
  have hs : a.spot = none := World.cell?_spot h
  have key : (w.setCell a u).heap = w.heap := by
    unfold World.setCell
    apply Array.ext
    · simp
    · intro i h1 h2
      simp only [Array.getElem_modify]
      split
      · rename_i hi
        subst hi
        have hb : w.heap[a.block]? = some w.heap[a.block] := Array.getElem?_eq_getElem h2
        unfold World.cell? at h
        rw [hb] at h
        cases hc : w.heap[a.block] with
        | cells c e f =>
          rw [hc] at h
          simp only [hs] at h
          simp only [hs]
          simp at h ⊢
          apply Array.ext
          · simp
          · intro j j1 j2
            by_cases hj : a.off = j
            · subst hj
              rw [Array.getElem?_eq_getElem j2] at h
              rw [Array.getElem_setIfInBounds_self]
              injection h with h
              exact h.symm
            · rw [Array.getElem_setIfInBounds_ne _ hj]
        | _ => simp
      · rfl
  have e : w.setCell a u = { w with heap := (w.setCell a u).heap } := rfl
  rw [e, key]


theorem oth_new {w : World} {g : Nat} {v : Value} {L : List UInt8} {rd bad : Bool} (hs : SS w g v L rd bad) (o : Obj) : Oth (w.alloc o) g v w.heap.size :=
  ⟨by simp, fun e => by have := hs.lt; omega, fun e => by have := hs.2.lt e; omega⟩

theorem num_wv1 (g : Nat) (v : Value) (L : List UInt8) (bad : Bool) (n : Int) {w W : World} {H : Nat} (a : Addr) (hH : W.heap.size = H) 
    (hst : Step g w v W v) (ha : Oth W g v a.block) (hc : W.cell? a = some (.int .i64 n)) (hbd : intBd n) (hL : L.length + (enc n).length ≤ Lim) (hsW : SS W g v L false bad) :
    Calls Try.prog 33 #[.pointer (some ⟨g, 0, none⟩), .slice (some ⟨H, 0, none⟩) 1 1] (W.alloc (.cells #[.pointer (some a)] 83)) fun e w' => e = .returned (.tuple #[]) ∧
      ∃ v', SS w' g v' (L ++ enc n) false bad ∧ Step g w v w' v' ∧ Step g W v w' v' := by
  refine (num_wv g v L bad [(a, n)] hH (by rfl) (by rfl) hsW ?_ ?_ ?_).mono ?_
  · simp only [List.mem_singleton, forall_eq]
    exact ⟨ha, hc, hbd⟩
  · simpa using hL
  · simp
  rintro e w' ⟨rfl, v', h1, h2⟩
  simp only [List.flatMap_cons, List.flatMap_nil, List.append_nil] at h1
  exact ⟨rfl, v', h1, hst.trans h2, h2⟩

set_option maxHeartbeats 400000 in
theorem flag_w (g : Nat) (v : Value) (L : List UInt8) (bad : Bool) (t : Addr) (b : Bool) (w : World)
    (hs : SS w g v L false bad) (hqt : Oth w g v t.block) (hc : w.cell? t = some (.bool b)) (hf : w.frozen? t = false)
    (hL : L.length + (enc (if b then 1 else 0)).length ≤ Lim) :
    Calls Try.prog 89 #[.pointer (some ⟨g, 0, none⟩), .pointer (some t)] w fun e w' => e = .returned (.tuple #[]) ∧
      ∃ v', SS w' g v' (L ++ enc (if b then 1 else 0)) false bad ∧ Step g w v w' v' := by
  have hgl := hs.lt
  have htl := hqt.1
  have HL := Lib.hid hL
  clear hL
  cases b
  · have hst0 := Step.alloc g w v (.cells #[.int .i64 0] 3)
    have hs0 := hs.alloc (.cells #[.int .i64 0] 3)
    have hc0 : (w.alloc (.cells #[.int .i64 0] 3)).cell? t = some (.bool false) := (hst0.fr.cell hqt).trans hc
    go_enter Try.func89, Try.ntmps89
    go_wp2_with fail
    refine (num_wv1 g v L bad 0 _ (by simp) hst0 (oth_new hs _) (by simp [World.cell?_alloc_new]) (by unfold intBd; omega) (by simpa using HL.out) hs0).mono ?_
    rintro e w1 ⟨rfl, v1, hs1, hst1, hstW⟩
    have hn : w1.cell? ⟨w.heap.size, 0, none⟩ = some (.int .i64 0) := (hstW.fr.cell (p := ⟨w.heap.size, 0, none⟩) (oth_new hs _)).trans (by simp [World.cell?_alloc_new])
    have hct : w1.cell? t = some (.bool false) := (hst1.fr.cell hqt).trans hc
    have hft : w1.frozen? t = false := (hst1.fr.frozen hqt).trans hf
    go_wp2_with fail
    go_end0
    refine ⟨rfl, v1, ?_, ?_⟩
    · rw [set_same hct]; exact hs1
    · rw [set_same hct]; exact hst1
  · have hst0 := Step.alloc g w v (.cells #[.int .i64 1] 3)
    have hs0 := hs.alloc (.cells #[.int .i64 1] 3)
    have hc0 : (w.alloc (.cells #[.int .i64 1] 3)).cell? t = some (.bool true) := (hst0.fr.cell hqt).trans hc
    go_enter Try.func89, Try.ntmps89
    go_wp2_with fail
    refine (num_wv1 g v L bad 1 _ (by simp) hst0 (oth_new hs _) (by simp [World.cell?_alloc_new]) (by unfold intBd; omega) (by simpa using HL.out) hs0).mono ?_
    rintro e w1 ⟨rfl, v1, hs1, hst1, hstW⟩
    have hn : w1.cell? ⟨w.heap.size, 0, none⟩ = some (.int .i64 1) := (hstW.fr.cell (p := ⟨w.heap.size, 0, none⟩) (oth_new hs _)).trans (by simp [World.cell?_alloc_new])
    have hct : w1.cell? t = some (.bool true) := (hst1.fr.cell hqt).trans hc
    have hft : w1.frozen? t = false := (hst1.fr.frozen hqt).trans hf
    go_wp2_with fail
    go_end0
    refine ⟨rfl, v1, ?_, ?_⟩
    · rw [set_same hct]; exact hs1
    · rw [set_same hct]; exact hst1
end Go.Proofs.Ytgdibeegheddmaa
