/- The reference writer: holding, stock. -/
import Derived.Test.YtgdibeegheddmaaH2RefW
namespace Go.Proofs.Ytgdibeegheddmaa
open Go Go.RowKit
set_option linter.unusedVariables false
set_option linter.unusedSimpArgs false
attribute [local go_sem ↓] Go.wp_at_zero Go.wp_at_succ
theorem row_rd (w : World) (us : List Value) (t : TypeId) (b n : Nat) (hb : b = w.heap.size) (hn : us.length = n) : Rd (w.alloc (.cells us.toArray t)) (· < (w.alloc (.cells us.toArray t)).heap.size) (some ⟨b, 0, none⟩) n 1 us := by
  subst hb hn
  refine ⟨by simp, fun _ => ⟨_, rfl, by simp, fun j x hx => ?_⟩⟩
  rw [Addr.add_lit, Nat.zero_add, blk_cell (heap_alloc_new w _) j, blk_frozen (heap_alloc_new w _) j]
  exact ⟨by simpa using hx, rfl⟩
theorem NewP.below {w w1 w2 : World} {L : List UInt8} {e : Ending} (h : NewP w1 L e w2) (hb : Below w.heap.size w w1) : NewP w L e w2 := by
  obtain ⟨v, rfl, h1, h2, h3⟩ := h
  exact ⟨v, rfl, h1, fun k hk => Nat.le_trans hb.size (h2 k hk), hb.trans (h3.mono hb.size)⟩
theorem ints_n (A : Option Addr) (len c : Nat) (ns : List Int) (L : List UInt8) (w : World) (hn : ns.length = len) (hL : ns.flatMap enc = L) (h : Rd w (· < w.heap.size) A len 1 (iv ns)) (hb : ∀ n ∈ ns, intBd n) (hl : ns.length ≤ 1000000000) :
    Calls Try.prog 41 #[.slice A len c] w (NewP w L) := by subst hn hL; exact ints_c A c ns w h hb hl


theorem below1 (w : World) (o : Obj) : Below w.heap.size w (w.alloc o) := (Below.refl _ _).alloc (Nat.le_refl _) o
theorem below2 (w : World) (o o' : Obj) : Below w.heap.size w ((w.alloc o).alloc o') := (below1 w o).alloc (by simp) o'

set_option maxRecDepth 100000 in
theorem rHolding_n (a b c d : Int) (w : World) (ha : intBd a) (hb : intBd b) (hc : intBd c) (hd : intBd d) (L : List UInt8) (hL : enc a ++ enc b ++ enc c ++ enc d = L) :
    Calls Try.prog 37 #[.agg #[.int .i64 a, .int .i64 b, .int .i64 c, .int .i64 d]] w (NewP w L) := by
  have HL := Lib.hid hL
  clear hL
  go_enter Try.func37, Try.ntmps37
  go_wp2_with fail
  refine (ints_n _ 4 4 [a, b, c, d] L _ rfl (by rw [← HL.out]; simp [List.flatMap]) (row_rd _ (iv [a, b, c, d]) 3 _ 4 (by simp) rfl) (by simp [ha, hb, hc, hd]) (by simp)).mono ?_
  rintro e w1 h1
  obtain ⟨v, rfl, hn⟩ := h1.below (below2 w _ _)
  go_wp2_with fail
  go_ret
  exact ⟨v, rfl, hn⟩
set_option maxRecDepth 100000 in
theorem rStock_n (a b c d f : Int) (w : World) (ha : intBd a) (hb : intBd b) (hc : intBd c) (hd : intBd d) (hf : intBd f) (L : List UInt8) (hL : enc a ++ enc b ++ enc c ++ enc d ++ enc f = L) :
    Calls Try.prog 39 #[.agg #[.int .i64 a, .int .i64 b, .int .i64 c, .int .i64 d, .int .i64 f]] w (NewP w L) := by
  have HL := Lib.hid hL
  clear hL
  go_enter Try.func39, Try.ntmps39
  go_wp2_with fail
  refine (ints_n _ 5 5 [a, b, c, d, f] L _ rfl (by rw [← HL.out]; simp [List.flatMap]) (row_rd _ (iv [a, b, c, d, f]) 3 _ 5 (by simp) rfl) (by simp [ha, hb, hc, hd, hf]) (by simp)).mono ?_
  rintro e w1 h1
  obtain ⟨v, rfl, hn⟩ := h1.below (below2 w _ _)
  go_wp2_with fail
  go_ret
  exact ⟨v, rfl, hn⟩
end Go.Proofs.Ytgdibeegheddmaa
