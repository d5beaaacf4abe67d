/- Groups: the roles. Written by gen_b18.py. -/
import Derived.Test.YtnigokmjehemaaaProg
import Derived.Test.YtnigokmjehemaaaB0Base
namespace Go.Proofs.Ytnigokmjehemaaa
open Go Go.RowKit
set_option linter.unusedVariables false
set_option linter.unusedSimpArgs false
set_option maxRecDepth 4000
attribute [local go_sem ↓] Go.wp_at_zero Go.wp_at_succ
structure XRole where
  name : ByteArray := ByteArray.empty
  code : Int := 0
  kind : Int := 0
  basis : Int := 0
  mapped : Bool := false
def roleL (q : XRole) : List Value := [.string q.name, .int .i64 q.code, .int .i64 q.kind, .int .i64 q.basis, .bool q.mapped]
def RoleC (_ : World) (_ : Nat → Prop) (cs : List Value) (q : XRole) : Prop := cs = roleL q
def rolesL (r0 r1 r2 r3 r4 r5 r6 r7 r8 r9 r10 r11 r12 r13 r14 : Int) : List XRole := [{ name := ⟨#[105, 110, 118, 101, 115, 116, 109, 101, 110, 116]⟩, code := r0, kind := 1, basis := 3, mapped := true }, { name := ⟨#[103, 111, 111, 100, 119, 105, 108, 108]⟩, code := r1, kind := 1, basis := 3, mapped := false }, { name := ⟨#[97, 115, 115, 111, 99, 105, 97, 116, 101, 115]⟩, code := r2, kind := 1, basis := 3, mapped := false }, { name := ⟨#[105, 110, 118, 101, 110, 116, 111, 114, 121]⟩, code := r3, kind := 1, basis := 1, mapped := true }, { name := ⟨#[114, 101, 115, 101, 114, 118, 101]⟩, code := r4, kind := 3, basis := 3, mapped := false }, { name := ⟨#[109, 105, 110, 111, 114, 105, 116, 121]⟩, code := r5, kind := 3, basis := 3, mapped := false }, { name := ⟨#[114, 101, 116, 97, 105, 110, 101, 100]⟩, code := r6, kind := 3, basis := 3, mapped := true }, { name := ⟨#[97, 99, 113, 117, 105, 114, 101, 100]⟩, code := r7, kind := 3, basis := 3, mapped := false }, { name := ⟨#[111, 119, 110, 101, 114, 115]⟩, code := r8, kind := 3, basis := 3, mapped := false }, { name := ⟨#[100, 105, 115, 112, 111, 115, 97, 108]⟩, code := r9, kind := 4, basis := 2, mapped := false }, { name := ⟨#[97, 115, 115, 111, 99, 105, 97, 116, 101, 80, 114, 111, 102, 105, 116]⟩, code := r10, kind := 4, basis := 2, mapped := false }, { name := ⟨#[100, 105, 118, 105, 100, 101, 110, 100, 115]⟩, code := r11, kind := 4, basis := 2, mapped := true }, { name := ⟨#[109, 105, 110, 111, 114, 105, 116, 121, 80, 114, 111, 102, 105, 116]⟩, code := r12, kind := 5, basis := 2, mapped := false }, { name := ⟨#[100, 105, 102, 102, 101, 114, 101, 110, 99, 101]⟩, code := r13, kind := 5, basis := 2, mapped := false }, { name := ⟨#[109, 97, 114, 103, 105, 110]⟩, code := r14, kind := 5, basis := 2, mapped := false }]
theorem flat_at {β : Type} {w : World} {Q : Nat → Prop} {b sz : Nat} (f : β → List Value) (hf : ∀ x, (f x).length = sz) : ∀ (xs : List β) (o : Nat), At w Q ⟨b, o, none⟩ (xs.flatMap f) → ∀ i x, xs[i]? = some x → At w Q ⟨b, o + i * sz, none⟩ (f x)
  | [], _, _, i, x, h => by simp at h
  | y :: xs, o, ha, i, x, h => by
    rw [List.flatMap_cons] at ha
    obtain ⟨h1, h2⟩ := ha.split
    cases i with
    | zero =>
      simp only [List.getElem?_cons_zero, Option.some.injEq] at h
      subst h
      simpa using h1
    | succ i =>
      simp only [List.getElem?_cons_succ] at h
      rw [hf y] at h2
      have := flat_at f hf xs (o + sz) h2 i x h
      rwa [show o + (i + 1) * sz = o + sz + i * sz from by rw [Nat.succ_mul]; omega]
theorem roles_made {w : World} {Q : Nat → Prop} {g : Nat} {t : TypeId} {xs : List XRole} {arr : Array Value} {n : Nat} (h : w.heap[g]? = some (.cells arr t (0, 0))) (hQ : Q g) (ha : arr = (xs.flatMap roleL).toArray) (hn : xs.length = n) (hm : n ≤ 1000) : ListC RoleC 5 w Q [.slice (some ⟨g, 0, none⟩) n n] xs := by
  subst hn ha
  have hat : At w Q ⟨g, 0, none⟩ (xs.flatMap roleL) := by
    have h2 := box_at (cs := xs.flatMap roleL) h
    exact ⟨hQ, h2.2⟩
  exact ⟨_, _, rfl, Nat.le_refl _, by unfold maxLen; omega, fun _ => ⟨g, 0, rfl, hQ, fun i x hx => ⟨roleL x, rfl, flat_at roleL (fun _ => rfl) xs 0 hat i x hx⟩⟩⟩
set_option maxHeartbeats 1000000 in
theorem roles_c (r0 r1 r2 r3 r4 r5 r6 r7 r8 r9 r10 r11 r12 r13 r14 : Int) (w : World) : Calls Try.prog 165 #[.agg #[.int .i64 r0, .int .i64 r1, .int .i64 r2, .int .i64 r3, .int .i64 r4, .int .i64 r5, .int .i64 r6, .int .i64 r7, .int .i64 r8, .int .i64 r9, .int .i64 r10, .int .i64 r11, .int .i64 r12, .int .i64 r13, .int .i64 r14]] w (fun e w' => ∃ v, e = .returned v ∧ (∃ A c, v = .slice A 15 c) ∧ ListC RoleC 5 w' (fun k => w.heap.size ≤ k ∧ k < w'.heap.size) [v] (rolesL r0 r1 r2 r3 r4 r5 r6 r7 r8 r9 r10 r11 r12 r13 r14) ∧ Below w.heap.size w w') := by
  go_enter Try.func165, Try.ntmps165
  go_upto_region 1 with fail
  have H0 := heap_alloc_new w (.cells #[.int .i64 r0, .int .i64 r1, .int .i64 r2, .int .i64 r3, .int .i64 r4, .int .i64 r5, .int .i64 r6, .int .i64 r7, .int .i64 r8, .int .i64 r9, .int .i64 r10, .int .i64 r11, .int .i64 r12, .int .i64 r13, .int .i64 r14] 26)
  have HB := below1 w (.cells #[.int .i64 r0, .int .i64 r1, .int .i64 r2, .int .i64 r3, .int .i64 r4, .int .i64 r5, .int .i64 r6, .int .i64 r7, .int .i64 r8, .int .i64 r9, .int .i64 r10, .int .i64 r11, .int .i64 r12, .int .i64 r13, .int .i64 r14] 26)
  generalize hW : w.alloc (Obj.cells #[.int .i64 r0, .int .i64 r1, .int .i64 r2, .int .i64 r3, .int .i64 r4, .int .i64 r5, .int .i64 r6, .int .i64 r7, .int .i64 r8, .int .i64 r9, .int .i64 r10, .int .i64 r11, .int .i64 r12, .int .i64 r13, .int .i64 r14] 26) = W at *
  have d0 := blk_cell H0 0
  have d1 := blk_cell H0 1
  have d2 := blk_cell H0 2
  have d3 := blk_cell H0 3
  have d4 := blk_cell H0 4
  have d5 := blk_cell H0 5
  have d6 := blk_cell H0 6
  have d7 := blk_cell H0 7
  have d8 := blk_cell H0 8
  have d9 := blk_cell H0 9
  have d10 := blk_cell H0 10
  have d11 := blk_cell H0 11
  have d12 := blk_cell H0 12
  have d13 := blk_cell H0 13
  have d14 := blk_cell H0 14
  clear hW H0
  go_wp2_with fail
  go_ret
  exact ⟨_, rfl, ⟨_, _, rfl⟩, roles_made (heap_alloc_new W _) ⟨HB.size, by simp⟩ rfl rfl (by omega), HB.alloc HB.size _⟩
set_option maxHeartbeats 1000000 in
theorem rRoles_c (r0 r1 r2 r3 r4 r5 r6 r7 r8 r9 r10 r11 r12 r13 r14 : Int) (w : World) : Calls Try.prog 128 #[.agg #[.int .i64 r0, .int .i64 r1, .int .i64 r2, .int .i64 r3, .int .i64 r4, .int .i64 r5, .int .i64 r6, .int .i64 r7, .int .i64 r8, .int .i64 r9, .int .i64 r10, .int .i64 r11, .int .i64 r12, .int .i64 r13, .int .i64 r14]] w (fun e w' => ∃ v, e = .returned v ∧ (∃ A c, v = .slice A 15 c) ∧ ListC RoleC 5 w' (fun k => w.heap.size ≤ k ∧ k < w'.heap.size) [v] (rolesL r0 r1 r2 r3 r4 r5 r6 r7 r8 r9 r10 r11 r12 r13 r14) ∧ Below w.heap.size w w') := by
  go_enter Try.func128, Try.ntmps128
  go_upto_region 1 with fail
  have H0 := heap_alloc_new w (.cells #[.int .i64 r0, .int .i64 r1, .int .i64 r2, .int .i64 r3, .int .i64 r4, .int .i64 r5, .int .i64 r6, .int .i64 r7, .int .i64 r8, .int .i64 r9, .int .i64 r10, .int .i64 r11, .int .i64 r12, .int .i64 r13, .int .i64 r14] 26)
  have HB := below1 w (.cells #[.int .i64 r0, .int .i64 r1, .int .i64 r2, .int .i64 r3, .int .i64 r4, .int .i64 r5, .int .i64 r6, .int .i64 r7, .int .i64 r8, .int .i64 r9, .int .i64 r10, .int .i64 r11, .int .i64 r12, .int .i64 r13, .int .i64 r14] 26)
  generalize hW : w.alloc (Obj.cells #[.int .i64 r0, .int .i64 r1, .int .i64 r2, .int .i64 r3, .int .i64 r4, .int .i64 r5, .int .i64 r6, .int .i64 r7, .int .i64 r8, .int .i64 r9, .int .i64 r10, .int .i64 r11, .int .i64 r12, .int .i64 r13, .int .i64 r14] 26) = W at *
  have d0 := blk_cell H0 0
  have d1 := blk_cell H0 1
  have d2 := blk_cell H0 2
  have d3 := blk_cell H0 3
  have d4 := blk_cell H0 4
  have d5 := blk_cell H0 5
  have d6 := blk_cell H0 6
  have d7 := blk_cell H0 7
  have d8 := blk_cell H0 8
  have d9 := blk_cell H0 9
  have d10 := blk_cell H0 10
  have d11 := blk_cell H0 11
  have d12 := blk_cell H0 12
  have d13 := blk_cell H0 13
  have d14 := blk_cell H0 14
  clear hW H0
  go_wp2_with fail
  go_ret
  exact ⟨_, rfl, ⟨_, _, rfl⟩, roles_made (heap_alloc_new W _) ⟨HB.size, by simp⟩ rfl rfl (by omega), HB.alloc HB.size _⟩
end Go.Proofs.Ytnigokmjehemaaa
