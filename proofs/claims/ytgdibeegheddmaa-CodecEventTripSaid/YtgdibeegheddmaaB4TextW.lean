/- (*stream).text writes a string; num called with its pointers in a new row. -/
import Derived.Test.YtgdibeegheddmaaB3NumW
import Derived.Test.YtgdibeegheddmaaA4Str
import Derived.Deep.DrawnRows
import Derived.Deep.RegionLaw
namespace Go.Proofs.Ytgdibeegheddmaa
open Go Go.RowKit
attribute [local go_sem ↓] Go.wp_at_zero Go.wp_at_succ

def encS (s : ByteArray) : List UInt8 := enc s.size ++ sb s

theorem SS.lt {w : World} {g : Nat} {v : Value} {L : List UInt8} {rd bad : Bool} (h : SS w g v L rd bad) : g < w.heap.size := blk_lt h.1
theorem SS.fr {Q : Nat → Prop} {w w' : World} {g : Nat} {v : Value} {L : List UInt8} {rd bad : Bool} (h : SS w g v L rd bad) (hf : Fr Q w w') (hg : Q g) (hv : ∀ k, v.ownBlock = some k → Q k) : SS w' g v L rd bad :=
  ⟨(hf.block g hg).trans h.1, h.2.fr hf hv⟩
theorem SS.alloc {w : World} {g : Nat} {v : Value} {L : List UInt8} {rd bad : Bool} (h : SS w g v L rd bad) (o : Obj) : SS (w.alloc o) g v L rd bad :=
  h.fr (Q := fun k => k < w.heap.size) (Fr.alloc (Fr.refl _ _) (fun _ hk => hk) o) h.lt fun _ hk => h.2.lt hk
theorem SS.drew {w : World} {g : Nat} {v : Value} {L : List UInt8} {rd bad : Bool} (h : SS w g v L rd bad) : SS w.drew g v L rd bad := h
/-- A step that only makes a new block. -/
theorem Step.alloc (g : Nat) (w : World) (v : Value) (o : Obj) : Step g w v (w.alloc o) v :=
  ⟨Fr.alloc (Fr.refl _ _) (fun _ hk => hk.1) o, fun _ h => .inl h⟩
/-- A store into a block that is not there yet. -/
theorem Step.set {g : Nat} {a w : World} {va v : Value} (h : Step g a va w v) {p : Addr} (hp : a.heap.size ≤ p.block ∨ p.block = g) (u : Value) : Step g a va (w.setCell p u) v :=
  ⟨Fr.setCell h.fr (fun hq => by rcases hp with hp | hp; have := hq.1; omega; exact hq.2.1 hp) u, h.own⟩

/-- The call of num with its pointers in a new row. -/
theorem num_wv (g : Nat) (v : Value) (L : List UInt8) (bad : Bool) (ps : List (Addr × Int)) {w : World} {H n : Nat} {row : Array Value}
    (hH : w.heap.size = H) (hn : ps.length = n) (hrow : (ps.map fun p => Value.pointer (some p.1)).toArray = row) (hs : SS w g v L false bad)
    (hp : ∀ p ∈ ps, Oth w g v p.1.block ∧ w.cell? p.1 = some (.int .i64 p.2) ∧ intBd p.2)
    (hL : L.length + (ps.flatMap fun p => enc p.2).length ≤ Lim) (hm : ps.length ≤ 1000) :
    Calls Try.prog 33 #[.pointer (some ⟨g, 0, none⟩), .slice (some ⟨H, 0, none⟩) n n] (w.alloc (.cells row 83)) fun e w' => e = .returned (.tuple #[]) ∧
      ∃ v', SS w' g v' (L ++ ps.flatMap fun p => enc p.2) false bad ∧ Step g w v w' v' := by
  subst hH hn hrow
  have hst := Step.alloc g w v (.cells (ps.map fun p => Value.pointer (some p.1)).toArray 83)
  refine (num_w g v L bad ps (some ⟨w.heap.size, 0, none⟩) ps.length _ (fun k => Oth w g v k ∨ k = w.heap.size) (hs.alloc _) ?_ ?_ ?_ hL hm).mono ?_
  · rintro k (hk | rfl)
    · exact hst.oth hk
    · exact ⟨by simp, by have := hs.lt; omega, fun e => by have := hs.2.lt e; omega⟩
  · refine ⟨by simp, fun _ => ⟨_, rfl, .inr rfl, fun j u hu => ?_⟩⟩
    have ha : (⟨w.heap.size, 0, none⟩ : Addr).add j = ⟨w.heap.size, j, none⟩ := by unfold Addr.add; split <;> simp_all
    rw [ha, blk_cell (heap_alloc_new w _) j, blk_frozen (heap_alloc_new w _) j]
    exact ⟨by simpa using hu, rfl⟩
  · intro p hpm
    obtain ⟨h1, h2, h3⟩ := hp p hpm
    exact ⟨.inl h1, (hst.fr.cell h1).trans h2, h3⟩
  · rintro e w' ⟨he, v', hs', hst'⟩
    exact ⟨he, v', hs', hst.trans hst'⟩

set_option maxHeartbeats 400000 in
theorem text_w (g : Nat) (v : Value) (L : List UInt8) (bad : Bool) (t : Addr) (s : ByteArray) (w : World)
    (hs : SS w g v L false bad) (hqt : Oth w g v t.block) (hc : w.cell? t = some (.string s))
    (hL : L.length + (encS s).length ≤ Lim) :
    Calls Try.prog 63 #[.pointer (some ⟨g, 0, none⟩), .pointer (some t)] w fun e w' => e = .returned (.tuple #[]) ∧
      ∃ v', SS w' g v' (L ++ encS s) false bad ∧ Step g w v w' v' := by
  have hL2 : L.length + ((enc s.size).length + (sb s).length) ≤ Lim := by simpa [encS] using hL
  have hsz : (s.size : Int) ≤ 1000000000000 := by have := sb_length s; unfold Lim at hL2; omega
  have HL := Lib.hid hL2
  clear hL hL2
  have hst0 := Step.alloc g w v (.cells #[.int .i64 (s.size : Int)] 3)
  go_enter Try.func63, Try.ntmps63
  go_wp2_with fail
  have hn1 := hs.lt
  refine (num_wv g v L bad [(⟨w.heap.size, 0, none⟩, (s.size : Int))] (by simp) (by rfl) (by rfl) (hs.alloc _) ?_ ?_ ?_).mono ?_
  · simp only [List.mem_singleton, forall_eq]
    exact ⟨⟨by simp, by omega, fun e => by have := hs.2.lt e; omega⟩, by simp [World.cell?_alloc_new], by unfold intBd; omega⟩
  · simp only [List.flatMap_cons, List.flatMap_nil, List.append_nil]; have := HL.out; omega
  · simp
  rintro e w1 ⟨rfl, v1, hs1, hst1⟩
  simp only [List.flatMap_cons, List.flatMap_nil, List.append_nil] at hs1
  have hst := hst0.trans hst1
  have hb0 := blk_cell hs1.1 0
  have hb1 := blk_cell hs1.1 1
  have hct : w1.cell? t = some (.string s) := (hst.fr.cell hqt).trans hc
  go_wp2_with fail
  have hgt : t ≠ ⟨g, 0, none⟩ := fun e => hqt.2.1 (by rw [e])
  have hqt1 := hst.oth hqt
  go_region_law (refine step_appS _ (by rfl) _ _ (by rfl) v1 (L ++ enc s.size) (by rfl) (by exact Bytes.drew hs1.2) s (by rfl) (by have := HL.out; rw [List.length_append]; omega) ?_; intro v2 w2 hby2 hg2 hat2; obtain ⟨A2, n2, c2, rfl⟩ := hby2.shape; have hG2 := (hg2.block g hs1.lt (Ne.symm hs1.ne)).trans hs1.1; have hc2 := blk_cell hG2 0; have hf2 := blk_frozen hG2 0)
  all_goals
    go_wp2_with fail
    refine bodyPost_ret (results_none rfl _ _ _) rfl ⟨rfl, .slice A2 n2 c2, ?_, hst.trans ⟨?_, fun i hi => ?_⟩⟩
    · rw [show L ++ encS s = L ++ enc s.size ++ sb s from by rw [encS, List.append_assoc]]
      exact ⟨by simp [World.setCell, Array.getElem?_modify, hG2], hby2.set81 hG2 (by decide) 0 _⟩
    · exact Fr.setCell (Fr.ofDrew (Fr.grown (Fr.refl _ _) hg2 (fun _ (h : Oth w1 g v1 _) => h.1) fun i hi (h : Oth w1 g v1 i) => h.2.2 hi)) (fun (h : Oth w1 g v1 g) => h.2.1 rfl) _
    · rcases hat2 with e | e
      · exact .inl (by rw [← e]; exact hi)
      · rw [e] at hi
        injection hi with hi
        exact .inr (by rw [← hi]; exact Nat.le_refl _)
end Go.Proofs.Ytgdibeegheddmaa
