/- Groups: the basis of an account. Written by gen_b17.py. -/
import Derived.Test.YtekelchdbkjjjaaGreatG20xB0B2
import Derived.Test.YtekelchdbkjjjaaGreatG20xB3B8
import Derived.Test.YtekelchdbkjjjaaGreatG20xB9B13
import Derived.Test.YtekelchdbkjjjaaGreatG20xB14
import Derived.Test.YtekelchdbkjjjaaGreatG20xB15
import Derived.Test.YtekelchdbkjjjaaGreatG20xB16
import Derived.Test.YtekelchdbkjjjaaGreatProg
set_option linter.unusedVariables false
set_option linter.unusedSimpArgs false
set_option maxRecDepth 4000
attribute [local go_sem ↓] Go.wp_at_zero Go.wp_at_succ
namespace Go.Proofs.YtekelchdbkjjjaaGreat
open Go Go.RowKit
def basedB (a : XAccount) : Bool := if a.kind = 1 ∨ a.kind = 2 then decide (a.basis = 1 ∨ a.basis = 3) else if a.kind = 3 then decide (a.basis = 3) else decide (a.basis = 2)
set_option maxHeartbeats 1000000 in
theorem based_c (a : XAccount) (w : World) : Calls Tryz.prog 90 #[.agg (accL a).toArray] w (Quiet w (.bool (basedB a))) := by
 obtain ⟨r, hr⟩ : ∃ r, basedB a = r := ⟨_, rfl⟩
 rw [hr]
 have HR := Lib.hid hr
 clear hr
 obtain ⟨c1, c2, c3, c4⟩ := a
 go_enter Tryz.func90, Tryz.ntmps90
 go_upto_region 1 with fail
 have H0 := heap_alloc_new w (.cells #[.int .i64 c1, .int .i64 c2, .int .i64 c3, .int .i64 c4] 87)
 have HB := below1 w (.cells #[.int .i64 c1, .int .i64 c2, .int .i64 c3, .int .i64 c4] 87)
 generalize hW : w.alloc (Obj.cells #[.int .i64 c1, .int .i64 c2, .int .i64 c3, .int .i64 c4] 87) = W at *
 have d1 := blk_cell H0 1
 have d2 := blk_cell H0 2
 clear hW H0
 by_cases k1 : c2 = 1
 · subst k1
   by_cases b1 : c3 = 1
   · subst b1
     have hf := Lib.hid (show r = true by rw [← HR.out]; unfold basedB; simp)
     go_wp2_with fail
     go_ret
     exact ⟨by rw [hf.out]; first | done | rfl, HB⟩
   · have b1' : (c3 == 1) = false := by simpa using b1
     by_cases b3 : c3 = 3
     · subst b3
       have hf := Lib.hid (show r = true by rw [← HR.out]; unfold basedB; simp)
       go_wp2_with fail
       go_ret
       exact ⟨by rw [hf.out]; first | done | rfl, HB⟩
     · have b3' : (c3 == 3) = false := by simpa using b3
       have hf := Lib.hid (show r = false by rw [← HR.out]; unfold basedB; simp [b1, b3])
       go_wp2_with fail
       go_ret
       exact ⟨by rw [hf.out]; first | done | rfl, HB⟩
 · have k1' : (c2 == 1) = false := by simpa using k1
   by_cases k2 : c2 = 2
   · subst k2
     by_cases b1 : c3 = 1
     · subst b1
       have hf := Lib.hid (show r = true by rw [← HR.out]; unfold basedB; simp)
       go_wp2_with fail
       go_ret
       exact ⟨by rw [hf.out]; first | done | rfl, HB⟩
     · have b1' : (c3 == 1) = false := by simpa using b1
       by_cases b3 : c3 = 3
       · subst b3
         have hf := Lib.hid (show r = true by rw [← HR.out]; unfold basedB; simp)
         go_wp2_with fail
         go_ret
         exact ⟨by rw [hf.out]; first | done | rfl, HB⟩
       · have b3' : (c3 == 3) = false := by simpa using b3
         have hf := Lib.hid (show r = false by rw [← HR.out]; unfold basedB; simp [b1, b3])
         go_wp2_with fail
         go_ret
         exact ⟨by rw [hf.out]; first | done | rfl, HB⟩
   · have k2' : (c2 == 2) = false := by simpa using k2
     by_cases k3 : c2 = 3
     · subst k3
       by_cases b3 : c3 = 3
       · subst b3
         have hf := Lib.hid (show r = true by rw [← HR.out]; unfold basedB; simp)
         go_wp2_with fail
         go_ret
         exact ⟨by rw [hf.out]; first | done | rfl, HB⟩
       · have b3' : (c3 == 3) = false := by simpa using b3
         have hf := Lib.hid (show r = false by rw [← HR.out]; unfold basedB; simp [b3])
         go_wp2_with fail
         go_ret
         exact ⟨by rw [hf.out]; first | done | rfl, HB⟩
     · have k3' : (c2 == 3) = false := by simpa using k3
       by_cases b2 : c3 = 2
       · subst b2
         have hf := Lib.hid (show r = true by rw [← HR.out]; unfold basedB; simp [k1, k2, k3])
         go_wp2_with fail
         go_ret
         exact ⟨by rw [hf.out]; first | done | rfl, HB⟩
       · have b2' : (c3 == 2) = false := by simpa using b2
         have hf := Lib.hid (show r = false by rw [← HR.out]; unfold basedB; simp [k1, k2, k3, b2])
         go_wp2_with fail
         go_ret
         exact ⟨by rw [hf.out]; first | done | rfl, HB⟩
set_option maxHeartbeats 1000000 in
theorem rbasis_c (a : XAccount) (w : World) : Calls Tryz.prog 98 #[.agg (accL a).toArray] w (Quiet w (.bool (basedB a))) := by
 obtain ⟨r, hr⟩ : ∃ r, basedB a = r := ⟨_, rfl⟩
 rw [hr]
 have HR := Lib.hid hr
 clear hr
 obtain ⟨c1, c2, c3, c4⟩ := a
 go_enter Tryz.func98, Tryz.ntmps98
 go_upto_region 1 with fail
 have H0 := heap_alloc_new w (.cells #[.int .i64 c1, .int .i64 c2, .int .i64 c3, .int .i64 c4] 87)
 have HB := below1 w (.cells #[.int .i64 c1, .int .i64 c2, .int .i64 c3, .int .i64 c4] 87)
 generalize hW : w.alloc (Obj.cells #[.int .i64 c1, .int .i64 c2, .int .i64 c3, .int .i64 c4] 87) = W at *
 have d1 := blk_cell H0 1
 have d2 := blk_cell H0 2
 clear hW H0
 by_cases k1 : c2 = 1
 · subst k1
   by_cases b1 : c3 = 1
   · subst b1
     have hf := Lib.hid (show r = true by rw [← HR.out]; unfold basedB; simp)
     go_wp2_with fail
     go_ret
     exact ⟨by rw [hf.out]; first | done | rfl, HB⟩
   · have b1' : (c3 == 1) = false := by simpa using b1
     by_cases b3 : c3 = 3
     · subst b3
       have hf := Lib.hid (show r = true by rw [← HR.out]; unfold basedB; simp)
       go_wp2_with fail
       go_ret
       exact ⟨by rw [hf.out]; first | done | rfl, HB⟩
     · have b3' : (c3 == 3) = false := by simpa using b3
       have hf := Lib.hid (show r = false by rw [← HR.out]; unfold basedB; simp [b1, b3])
       go_wp2_with fail
       go_ret
       exact ⟨by rw [hf.out]; first | done | rfl, HB⟩
 · have k1' : (c2 == 1) = false := by simpa using k1
   by_cases k2 : c2 = 2
   · subst k2
     by_cases b1 : c3 = 1
     · subst b1
       have hf := Lib.hid (show r = true by rw [← HR.out]; unfold basedB; simp)
       go_wp2_with fail
       go_ret
       exact ⟨by rw [hf.out]; first | done | rfl, HB⟩
     · have b1' : (c3 == 1) = false := by simpa using b1
       by_cases b3 : c3 = 3
       · subst b3
         have hf := Lib.hid (show r = true by rw [← HR.out]; unfold basedB; simp)
         go_wp2_with fail
         go_ret
         exact ⟨by rw [hf.out]; first | done | rfl, HB⟩
       · have b3' : (c3 == 3) = false := by simpa using b3
         have hf := Lib.hid (show r = false by rw [← HR.out]; unfold basedB; simp [b1, b3])
         go_wp2_with fail
         go_ret
         exact ⟨by rw [hf.out]; first | done | rfl, HB⟩
   · have k2' : (c2 == 2) = false := by simpa using k2
     by_cases k3 : c2 = 3
     · subst k3
       by_cases b3 : c3 = 3
       · subst b3
         have hf := Lib.hid (show r = true by rw [← HR.out]; unfold basedB; simp)
         go_wp2_with fail
         go_ret
         exact ⟨by rw [hf.out]; first | done | rfl, HB⟩
       · have b3' : (c3 == 3) = false := by simpa using b3
         have hf := Lib.hid (show r = false by rw [← HR.out]; unfold basedB; simp [b3])
         go_wp2_with fail
         go_ret
         exact ⟨by rw [hf.out]; first | done | rfl, HB⟩
     · have k3' : (c2 == 3) = false := by simpa using k3
       by_cases b2 : c3 = 2
       · subst b2
         have hf := Lib.hid (show r = true by rw [← HR.out]; unfold basedB; simp [k1, k2, k3])
         go_wp2_with fail
         go_ret
         exact ⟨by rw [hf.out]; first | done | rfl, HB⟩
       · have b2' : (c3 == 2) = false := by simpa using b2
         have hf := Lib.hid (show r = false by rw [← HR.out]; unfold basedB; simp [k1, k2, k3, b2])
         go_wp2_with fail
         go_ret
         exact ⟨by rw [hf.out]; first | done | rfl, HB⟩
structure XRole where
 name : ByteArray := ByteArray.empty
 code : Int := 0
 kind : Int := 0
 basis : Int := 0
 mapped : Bool := false
def roleL (q : XRole) : List Value := [.string q.name, .int .i64 q.code, .int .i64 q.kind, .int .i64 q.basis, .bool q.mapped]
def RoleC (_ : World) (_ : Nat → Prop) (cs : List Value) (q : XRole) : Prop := cs = roleL q
def rolesL (r0 r1 r2 r3 r4 r5 r6 r7 r8 r9 r10 r11 r12 r13 r14 : Int) : List XRole := [{ name := ⟨#[105, 110, 118, 101, 115, 116, 109, 101, 110, 116]⟩, code := r0, kind := 1, basis := 3, mapped := true }, { name := ⟨#[103, 111, 111, 100, 119, 105, 108, 108]⟩, code := r1, kind := 1, basis := 3, mapped := false }, { name := ⟨#[97, 115, 115, 111, 99, 105, 97, 116, 101, 115]⟩, code := r2, kind := 1, basis := 3, mapped := false }, { name := ⟨#[105, 110, 118, 101, 110, 116, 111, 114, 121]⟩, code := r3, kind := 1, basis := 1, mapped := true }, { name := ⟨#[114, 101, 115, 101, 114, 118, 101]⟩, code := r4, kind := 3, basis := 3, mapped := false }, { name := ⟨#[109, 105, 110, 111, 114, 105, 116, 121]⟩, code := r5, kind := 3, basis := 3, mapped := false }, { name := ⟨#[114, 101, 116, 97, 105, 110, 101, 100]⟩, code := r6, kind := 3, basis := 3, mapped := true }, { name := ⟨#[97, 99, 113, 117, 105, 114, 101, 100]⟩, code := r7, kind := 3, basis := 3, mapped := false }, { name := ⟨#[111, 119, 110, 101, 114, 115]⟩, code := r8, kind := 3, basis := 3, mapped := false }, { name := ⟨#[100, 105, 115, 112, 111, 115, 97, 108]⟩, code := r9, kind := 4, basis := 2, mapped := false }, { name := ⟨#[97, 115, 115, 111, 99, 105, 97, 116, 101, 80, 114, 111, 102, 105, 116]⟩, code := r10, kind := 4, basis := 2, mapped := false }, { name := ⟨#[100, 105, 118, 105, 100, 101, 110, 100, 115]⟩, code := r11, kind := 4, basis := 2, mapped := true }, { name := ⟨#[109, 105, 110, 111, 114, 105, 116, 121, 80, 114, 111, 102, 105, 116]⟩, code := r12, kind := 5, basis := 2, mapped := false }, { name := ⟨#[100, 105, 102, 102, 101, 114, 101, 110, 99, 101]⟩, code := r13, kind := 5, basis := 2, mapped := false }, { name := ⟨#[109, 97, 114, 103, 105, 110]⟩, code := r14, kind := 5, basis := 2, mapped := false }]
theorem flat_at {β : Type} {w : World} {Q : Nat → Prop} {b sz : Nat} (f : β → List Value) (hf : ∀ x, (f x).length = sz) : ∀ (xs : List β) (o : Nat), At w Q ⟨b, o, none⟩ (xs.flatMap f) → ∀ i x, xs[i]? = some x → At w Q ⟨b, o + i * sz, none⟩ (f x)
 | [], _, _, i, x, h => by simp at h
 | y :: xs, o, ha, i, x, h => by
  rw [List.flatMap_cons] at ha
  obtain ⟨h1, h2⟩ := ha.split
  cases i with
  | zero =>
   simp only [List.getElem?_cons_zero, Option.some.injEq] at h
   subst h
   simpa using h1
  | succ i =>
   simp only [List.getElem?_cons_succ] at h
   rw [hf y] at h2
   have := flat_at f hf xs (o + sz) h2 i x h
   rwa [show o + (i + 1) * sz = o + sz + i * sz from by rw [Nat.succ_mul]; omega]
theorem roles_made {w : World} {Q : Nat → Prop} {g : Nat} {t : TypeId} {xs : List XRole} {arr : Array Value} {n : Nat} (h : w.heap[g]? = some (.cells arr t (0, 0))) (hQ : Q g) (ha : arr = (xs.flatMap roleL).toArray) (hn : xs.length = n) (hm : n ≤ 1000) : ListC RoleC 5 w Q [.slice (some ⟨g, 0, none⟩) n n] xs := by
 subst hn ha
 have hat : At w Q ⟨g, 0, none⟩ (xs.flatMap roleL) := by
  have h2 := box_at (cs := xs.flatMap roleL) h
  exact ⟨hQ, h2.2⟩
 exact ⟨_, _, rfl, Nat.le_refl _, by unfold maxLen; omega, fun _ => ⟨g, 0, rfl, hQ, fun i x hx => ⟨roleL x, rfl, flat_at roleL (fun _ => rfl) xs 0 hat i x hx⟩⟩⟩
set_option maxHeartbeats 1000000 in
theorem roles_c (r0 r1 r2 r3 r4 r5 r6 r7 r8 r9 r10 r11 r12 r13 r14 : Int) (w : World) : Calls Tryz.prog 91 #[.agg #[.int .i64 r0, .int .i64 r1, .int .i64 r2, .int .i64 r3, .int .i64 r4, .int .i64 r5, .int .i64 r6, .int .i64 r7, .int .i64 r8, .int .i64 r9, .int .i64 r10, .int .i64 r11, .int .i64 r12, .int .i64 r13, .int .i64 r14]] w (fun e w' => ∃ v, e = .returned v ∧ (∃ A c, v = .slice A 15 c) ∧ ListC RoleC 5 w' (fun k => w.heap.size ≤ k ∧ k < w'.heap.size) [v] (rolesL r0 r1 r2 r3 r4 r5 r6 r7 r8 r9 r10 r11 r12 r13 r14) ∧ Below w.heap.size w w') := by
 go_enter Tryz.func91, Tryz.ntmps91
 go_upto_region 1 with fail
 have H0 := heap_alloc_new w (.cells #[.int .i64 r0, .int .i64 r1, .int .i64 r2, .int .i64 r3, .int .i64 r4, .int .i64 r5, .int .i64 r6, .int .i64 r7, .int .i64 r8, .int .i64 r9, .int .i64 r10, .int .i64 r11, .int .i64 r12, .int .i64 r13, .int .i64 r14] 26)
 have HB := below1 w (.cells #[.int .i64 r0, .int .i64 r1, .int .i64 r2, .int .i64 r3, .int .i64 r4, .int .i64 r5, .int .i64 r6, .int .i64 r7, .int .i64 r8, .int .i64 r9, .int .i64 r10, .int .i64 r11, .int .i64 r12, .int .i64 r13, .int .i64 r14] 26)
 generalize hW : w.alloc (Obj.cells #[.int .i64 r0, .int .i64 r1, .int .i64 r2, .int .i64 r3, .int .i64 r4, .int .i64 r5, .int .i64 r6, .int .i64 r7, .int .i64 r8, .int .i64 r9, .int .i64 r10, .int .i64 r11, .int .i64 r12, .int .i64 r13, .int .i64 r14] 26) = W at *
 have d0 := blk_cell H0 0
 have d1 := blk_cell H0 1
 have d2 := blk_cell H0 2
 have d3 := blk_cell H0 3
 have d4 := blk_cell H0 4
 have d5 := blk_cell H0 5
 have d6 := blk_cell H0 6
 have d7 := blk_cell H0 7
 have d8 := blk_cell H0 8
 have d9 := blk_cell H0 9
 have d10 := blk_cell H0 10
 have d11 := blk_cell H0 11
 have d12 := blk_cell H0 12
 have d13 := blk_cell H0 13
 have d14 := blk_cell H0 14
 clear hW H0
 go_wp2_with fail
 go_ret
 exact ⟨_, rfl, ⟨_, _, rfl⟩, roles_made (heap_alloc_new W _) ⟨HB.size, by simp⟩ rfl rfl (by omega), HB.alloc HB.size _⟩
set_option maxHeartbeats 1000000 in
theorem rRoles_c (r0 r1 r2 r3 r4 r5 r6 r7 r8 r9 r10 r11 r12 r13 r14 : Int) (w : World) : Calls Tryz.prog 99 #[.agg #[.int .i64 r0, .int .i64 r1, .int .i64 r2, .int .i64 r3, .int .i64 r4, .int .i64 r5, .int .i64 r6, .int .i64 r7, .int .i64 r8, .int .i64 r9, .int .i64 r10, .int .i64 r11, .int .i64 r12, .int .i64 r13, .int .i64 r14]] w (fun e w' => ∃ v, e = .returned v ∧ (∃ A c, v = .slice A 15 c) ∧ ListC RoleC 5 w' (fun k => w.heap.size ≤ k ∧ k < w'.heap.size) [v] (rolesL r0 r1 r2 r3 r4 r5 r6 r7 r8 r9 r10 r11 r12 r13 r14) ∧ Below w.heap.size w w') := by
 go_enter Tryz.func99, Tryz.ntmps99
 go_upto_region 1 with fail
 have H0 := heap_alloc_new w (.cells #[.int .i64 r0, .int .i64 r1, .int .i64 r2, .int .i64 r3, .int .i64 r4, .int .i64 r5, .int .i64 r6, .int .i64 r7, .int .i64 r8, .int .i64 r9, .int .i64 r10, .int .i64 r11, .int .i64 r12, .int .i64 r13, .int .i64 r14] 26)
 have HB := below1 w (.cells #[.int .i64 r0, .int .i64 r1, .int .i64 r2, .int .i64 r3, .int .i64 r4, .int .i64 r5, .int .i64 r6, .int .i64 r7, .int .i64 r8, .int .i64 r9, .int .i64 r10, .int .i64 r11, .int .i64 r12, .int .i64 r13, .int .i64 r14] 26)
 generalize hW : w.alloc (Obj.cells #[.int .i64 r0, .int .i64 r1, .int .i64 r2, .int .i64 r3, .int .i64 r4, .int .i64 r5, .int .i64 r6, .int .i64 r7, .int .i64 r8, .int .i64 r9, .int .i64 r10, .int .i64 r11, .int .i64 r12, .int .i64 r13, .int .i64 r14] 26) = W at *
 have d0 := blk_cell H0 0
 have d1 := blk_cell H0 1
 have d2 := blk_cell H0 2
 have d3 := blk_cell H0 3
 have d4 := blk_cell H0 4
 have d5 := blk_cell H0 5
 have d6 := blk_cell H0 6
 have d7 := blk_cell H0 7
 have d8 := blk_cell H0 8
 have d9 := blk_cell H0 9
 have d10 := blk_cell H0 10
 have d11 := blk_cell H0 11
 have d12 := blk_cell H0 12
 have d13 := blk_cell H0 13
 have d14 := blk_cell H0 14
 clear hW H0
 go_wp2_with fail
 go_ret
 exact ⟨_, rfl, ⟨_, _, rfl⟩, roles_made (heap_alloc_new W _) ⟨HB.size, by simp⟩ rfl rfl (by omega), HB.alloc HB.size _⟩
set_option maxHeartbeats 1000000 in
theorem notBased_c (a : XAccount) (w : World) : Calls Tryz.prog 89 #[.agg (accL a).toArray] w (Quiet w (.bool (!basedB a))) := by
 obtain ⟨c1, c2, c3, c4⟩ := a
 go_enter Tryz.func89, Tryz.ntmps89
 go_upto_region 1 with fail
 have H0 := heap_alloc_new w (.cells #[.int .i64 c1, .int .i64 c2, .int .i64 c3, .int .i64 c4] 87)
 have HB := below1 w (.cells #[.int .i64 c1, .int .i64 c2, .int .i64 c3, .int .i64 c4] 87)
 generalize hW : w.alloc (Obj.cells #[.int .i64 c1, .int .i64 c2, .int .i64 c3, .int .i64 c4] 87) = W at *
 have d0 := blk_cell H0 0
 have d1 := blk_cell H0 1
 have d2 := blk_cell H0 2
 have d3 := blk_cell H0 3
 clear hW H0
 go_wp2_with fail
 refine (based_c ⟨c1, c2, c3, c4⟩ W).mono ?_
 rintro e w2 ⟨rfl, hb2⟩
 go_wp2_with fail
 go_ret
 exact ⟨rfl, HB.trans (hb2.mono HB.size)⟩
def roleRow (ch : List XAccount) (L : List XRole) (i : Nat) : Bool := match L[i]? with
 | none => false
 | some q => match findA ch q.code with
  | none => false
  | some a => a.kind == q.kind && a.basis == q.basis && !((L.take i).any fun p => p.code == q.code)
def rolesB (ch : List XAccount) (L : List XRole) : Bool := (List.range L.length).all (roleRow ch L)
def rolesOf (r : XRoles) : List XRole := rolesL r.investment r.goodwill r.associates r.inventory r.reserve r.minority r.retained r.acquired r.owners r.disposal r.associateProfit r.dividends r.minorityProfit r.difference r.margin
def accountsB (ch : List XAccount) (r : XRoles) : Bool := chartB ch true && ch.all basedB && rolesB ch (rolesOf r)
def linkB (ec ch : List XAccount) (l : XLink) : Bool := match findA ec l.from_ with
 | none => false
 | some a => match findA ch l.to_ with
  | none => false
  | some b => a.kind == b.kind && decide (inD l.since)
def linkRow (ec ch : List XAccount) (ls : List XLink) (i : Nat) : Bool := match ls[i]? with
 | none => false
 | some l => linkB ec ch l && !((ls.take i).any fun k => k.from_ == l.from_ && k.since == l.since)
def linksB (ec ch : List XAccount) (ls : List XLink) : Bool := (List.range ls.length).all (linkRow ec ch ls)
def mappingB (e : XEntity) (ch : List XAccount) : Bool := chartB ch true && chartB e.chart false && decide (e.links.length ≤ 400) && linksB e.chart ch e.links
def closedB (L : List XRole) (c : Int) : Bool := L.any fun q => q.code == c && !q.mapped
def closedP (L : List XRole) (c : Int) : Bool := L.foldl (fun b q => if c = q.code then !q.mapped else b) false
def entityB (ch : List XAccount) (L : List XRole) (e : XEntity) : Bool := nameB e.name && curB e.currency && mappingB e ch && e.links.all fun l => !closedB L l.to_
def entRow (ch : List XAccount) (L : List XRole) (es : List XEntity) (i : Nat) : Bool := match es[i]? with
 | none => false
 | some e => !((es.take i).any fun x => decide (x.name = e.name)) && entityB ch L e
def entsB (ch : List XAccount) (L : List XRole) (es : List XEntity) : Bool := (List.range es.length).all (entRow ch L es)
def groupB (g : XGroup) : Bool := curB g.currency && calB g.calendar.year g.calendar.month g.calendar.periods && accountsB g.chart g.roles && decide (1 ≤ g.entities.length ∧ g.entities.length ≤ 12) && !(g.entities.getD 0 {}).joint && entsB g.chart (rolesOf g.roles) g.entities
theorem roles_apart {ch : List XAccount} {L : List XRole} (h : rolesB ch L = true) {i j : Nat} (hij : i < j) (hj : j < L.length) : (L[i]'(by omega)).code ≠ L[j].code := by
 unfold rolesB at h
 rw [List.all_eq_true] at h
 have h1 := h j (List.mem_range.2 hj)
 unfold roleRow at h1
 rw [List.getElem?_eq_getElem hj] at h1
 simp only at h1
 cases hf : findA ch L[j].code with
 | none => rw [hf] at h1; cases h1
 | some a =>
  rw [hf] at h1
  simp only [Bool.and_eq_true, Bool.not_eq_true', List.any_eq_false, beq_iff_eq] at h1
  refine h1.2 _ ?_
  rw [List.mem_take_iff_getElem]
  exact ⟨i, by omega, rfl⟩
theorem closed_take {L : List XRole} {c : Int} {k : Nat} (hk : k < L.length) : closedP (L.take (k + 1)) c = (if c = L[k].code then !L[k].mapped else closedP (L.take k) c) := by
 unfold closedP
 rw [List.take_add_one, List.getElem?_eq_getElem hk, List.foldl_append]; rfl
theorem closed_both {L : List XRole} (hd : ∀ i j (hij : i < j) (hj : j < L.length), (L[i]'(by omega)).code ≠ L[j].code) (c : Int) : ∀ k, k ≤ L.length → closedP (L.take k) c = closedB (L.take k) c
 | 0, _ => rfl
 | k + 1, hk => by
  have hkl : k < L.length := hk
  rw [closed_take hkl, closed_both hd c k (by omega)]
  unfold closedB
  rw [List.take_add_one, List.getElem?_eq_getElem hkl, List.any_append]
  simp only [Option.toList_some, List.any_cons, List.any_nil, Bool.or_false]
  by_cases h : c = L[k].code
  · rw [if_pos h]
    have h0 : (L.take k).any (fun q => q.code == c && !q.mapped) = false := by
     rw [List.any_eq_false]
     intro q hq
     rw [List.mem_take_iff_getElem] at hq
     obtain ⟨i, hi, rfl⟩ := hq
     have := hd i k (by omega) hkl
     rw [h]
     simp [this]
    rw [h0, h]; simp
  · rw [if_neg h]
    have : (L[k].code == c) = false := by simpa using fun e => h e.symm
    rw [this]; simp
theorem closed_eq {ch : List XAccount} {L : List XRole} (h : rolesB ch L = true) (c : Int) : closedP L c = closedB L c := by
 have := closed_both (fun i j hij hj => roles_apart h hij hj) c L.length (Nat.le_refl _)
 rwa [List.take_length] at this
theorem take_any_succ {α : Type} {L : List α} {k : Nat} (hk : k < L.length) (p : α → Bool) : (L.take (k + 1)).any p = ((L.take k).any p || p L[k]) := by
 rw [List.take_add_one, List.getElem?_eq_getElem hk, List.any_append]; simp
def chartS : List XAccount := [⟨1000, 1, 1, 0⟩, ⟨1010, 1, 1, 1000⟩, ⟨1100, 1, 1, 1000⟩, ⟨1200, 1, 1, 1000⟩, ⟨1300, 1, 3, 0⟩, ⟨1500, 1, 3, 0⟩, ⟨1600, 1, 3, 0⟩, ⟨1700, 1, 3, 0⟩, ⟨2000, 2, 1, 0⟩, ⟨2100, 2, 1, 2000⟩, ⟨3000, 3, 3, 0⟩, ⟨3100, 3, 3, 0⟩, ⟨3200, 3, 3, 0⟩, ⟨3300, 3, 3, 0⟩, ⟨3400, 3, 3, 0⟩, ⟨3500, 3, 3, 0⟩, ⟨4000, 4, 2, 0⟩, ⟨4100, 4, 2, 4000⟩, ⟨4500, 4, 2, 0⟩, ⟨4600, 4, 2, 0⟩, ⟨4700, 4, 2, 0⟩, ⟨5000, 5, 2, 0⟩, ⟨5100, 5, 2, 0⟩, ⟨5500, 5, 2, 0⟩, ⟨5600, 5, 2, 0⟩, ⟨5700, 5, 2, 0⟩]
def kindsS : List Int := [1, 1, 1, 1, 1, 2, 2, 3, 3, 4, 4, 4, 5, 5]
def tosS : List Int := [1010, 1100, 1200, 1300, 1500, 2000, 2100, 3000, 3300, 4000, 4100, 4700, 5000, 5100]
def echartS : List XAccount := [⟨10, 1, 0, 0⟩, ⟨20, 1, 0, 0⟩, ⟨30, 1, 0, 0⟩, ⟨40, 1, 0, 0⟩, ⟨50, 1, 0, 0⟩, ⟨60, 2, 0, 0⟩, ⟨70, 2, 0, 0⟩, ⟨80, 3, 0, 0⟩, ⟨90, 3, 0, 0⟩, ⟨100, 4, 0, 0⟩, ⟨110, 4, 0, 0⟩, ⟨120, 4, 0, 0⟩, ⟨130, 5, 0, 0⟩, ⟨140, 5, 0, 0⟩]
def elinksS : List XLink := [⟨10, 1010, -25567⟩, ⟨20, 1100, -25567⟩, ⟨30, 1200, -25567⟩, ⟨40, 1300, -25567⟩, ⟨50, 1500, -25567⟩, ⟨60, 2000, -25567⟩, ⟨70, 2100, -25567⟩, ⟨80, 3000, -25567⟩, ⟨90, 3300, -25567⟩, ⟨100, 4000, -25567⟩, ⟨110, 4100, -25567⟩, ⟨120, 4700, -25567⟩, ⟨130, 5000, -25567⟩, ⟨140, 5100, -25567⟩]
def entS (n c : ByteArray) (j : Bool) : XEntity := { name := n, currency := c, chart := echartS, links := elinksS, joint := j }
def rolesS : XRoles := { investment := 1500, goodwill := 1600, associates := 1700, inventory := 1200, reserve := 3100, minority := 3200, retained := 3300, acquired := 3400, owners := 3500, disposal := 4500, associateProfit := 4600, dividends := 4700, minorityProfit := 5500, difference := 5600, margin := 5700 }
def sampleG : XGroup := { currency := ⟨#[69, 85, 82]⟩, calendar := ⟨2026, 1, 36⟩, chart := chartS, roles := rolesS, entities := [entS ⟨#[112, 97, 114, 101, 110, 116]⟩ ⟨#[69, 85, 82]⟩ false, entS ⟨#[110, 111, 114, 116, 104]⟩ ⟨#[69, 85, 82]⟩ false, entS ⟨#[119, 101, 115, 116]⟩ ⟨#[85, 83, 68]⟩ false, entS ⟨#[106, 111, 105, 110, 116]⟩ ⟨#[85, 83, 68]⟩ true] }
set_option maxRecDepth 100000 in
theorem sample_valid : groupB sampleG = true := by decide +kernel
def idxI {α : Type} (p : α → Bool) (l : List α) : Int := match l.findIdx? p with
 | some k => (k : Int)
 | none => -1
theorem idx_some {α : Type} {p : α → Bool} {l : List α} {k : Nat} (hk : k < l.length) (h : p l[k] = true) (hb : ∀ j (hj : j < l.length), j < k → p l[j] = false) : idxI p l = (k : Int) := by
 unfold idxI
 have : l.findIdx? p = some k := by
  rw [List.findIdx?_eq_some_iff_getElem]
  exact ⟨hk, h, fun j hj => by simpa using hb j (by omega) hj⟩
 rw [this]
theorem idx_none {α : Type} {p : α → Bool} {l : List α} (hb : ∀ j (hj : j < l.length), p l[j] = false) : idxI p l = -1 := by
 unfold idxI
 have : l.findIdx? p = none := by
  rw [List.findIdx?_eq_none_iff]
  intro x hx
  obtain ⟨j, hj, rfl⟩ := List.getElem_of_mem hx
  exact hb j hj
 rw [this]
theorem idx_any {α : Type} (p : α → Bool) (l : List α) : decide (0 ≤ idxI p l) = l.any p := by
 unfold idxI
 cases h : l.findIdx? p with
 | none =>
  rw [List.findIdx?_eq_none_iff] at h
  have : l.any p = false := by
   rw [List.any_eq_false]
   intro x hx
   simpa using h x hx
  rw [this]; rfl
 | some k =>
  rw [List.findIdx?_eq_some_iff_getElem] at h
  obtain ⟨hk, hp, _⟩ := h
  have : l.any p = true := List.any_eq_true.2 ⟨l[k], List.getElem_mem hk, hp⟩
  rw [this]
  show decide ((0 : Int) ≤ (k : Int)) = true
  exact decide_eq_true (by omega)
set_option maxHeartbeats 1000000 in
theorem idxA_c (l : List XAccount) (A : Option Addr) (c : Nat) (w : World) (hl : ListC AccountC 4 w (· < w.heap.size) [.slice A l.length c] l) (hn : l.length ≤ 1000) : Calls Tryz.prog 118 #[.slice A l.length c, .func (.func 89) #[] #[]] w (Quiet w (.int .i64 (idxI (fun a => !basedB a) l))) := by
 obtain ⟨r, hr⟩ : ∃ r, idxI (fun a => !basedB a) l = r := ⟨_, rfl⟩
 rw [hr]
 have HR := Lib.hid hr
 clear hr
 obtain ⟨n, hnl⟩ : ∃ n, l.length = n := ⟨_, rfl⟩
 rw [hnl] at hn
 have HL := Lib.hid hl
 have HN := Lib.hid hnl
 rw [hnl]
 clear hl hnl
 go_enter Tryz.func118, Tryz.ntmps118
 go_wp2_with fail
 go_loopw [8] (fun i wr => ∃ k : Nat, k ≤ n ∧ i = .int .i64 (k : Int) ∧ Below w.heap.size w wr ∧ ∀ j (hj : j < l.length), j < k → basedB l[j] = true) (fun i _ => n - (intOf i).toNat)
 case atStart => exact ⟨0, by omega, rfl, Below.refl _ _, fun j hj h => by omega⟩
 case round =>
  obtain ⟨k, hk, rfl, hb, hall⟩ := hrel
  have HA := Lib.hid hall
  clear hall
  have hsz := hb.size
  by_cases hlt : k < n
  case pos =>
   have hltI : (k : Int) < (n : Int) := by omega
   have hkl : k < l.length := by rw [HN.out]; exact hlt
   obtain ⟨b, o, es, hAe, hbw, hes, hat⟩ := ListC.get HL.out k hkl
   subst hAe
   obtain ⟨hes1, hb1, hb2, hb3, hb4⟩ := AccountC.lit hes
   rw [hes1] at hat
   obtain ⟨ac, hac⟩ : ∃ ac, l[k] = ac := ⟨_, rfl⟩
   rw [hac] at hat
   have HAC := Lib.hid hac
   have HAR := Lib.hid ((hat.fr (Fr.ofBelow hb)).range)
   clear hes hes1 hat hac hb1 hb2 hb3 hb4
   go_wp2_with (show wpList _ _ _ (Oper.mk (some 15) _ _ _ _ _ :: _) _ _; refine wpList_load_mid rfl 87 (.tmp 14) rfl b (o + k * 4) rfl (accL ac) _ HAR.out Tryz.underlying87 rfl (info_accL _) ?_)
   refine (notBased_c ac wr).mono ?_
   rintro e w2 ⟨rfl, hb2⟩
   have hbb := hb.trans (hb2.mono hb.size)
   cases hp : basedB ac with
   | false =>
    have hf := Lib.hid (show r = (k : Int) by rw [← HR.out]; exact idx_some hkl (by rw [HAC.out, hp]; rfl) (fun j hj hjk => by rw [HA.out j hj hjk]; rfl))
    clear hp
    simp only [Bool.not_false]
    go_wp2_with fail
    go_ret
    exact ⟨by rw [hf.out]; first | done | rfl, hbb⟩
   | true =>
    have HP := Lib.hid hp
    clear hp
    simp only [Bool.not_true]
    go_wp2_with fail
    go_roundw
    case rel => exact ⟨k + 1, by omega, by go_num, hbb, fun j hj hjk => by
     rcases Nat.lt_or_ge j k with h | h
     · exact HA.out j hj h
     · have : j = k := by omega
       subst this
       rw [HAC.out]
       exact HP.out⟩
    case measure =>
     have e : wrap64 ((k : Int) + 1) = ((k + 1 : Nat) : Int) := by unfold wrap64; omega
     simp only [intOf, e]
     omega
  case neg =>
   have hltI : ¬ (k : Int) < (n : Int) := by omega
   have hf := Lib.hid (show r = -1 by rw [← HR.out]; exact idx_none (fun j hj => by rw [HA.out j hj (by have := HN.out; omega)]; rfl))
   go_wp2_with fail
   go_ret
   exact ⟨by rw [hf.out]; first | done | rfl, hb⟩
set_option maxHeartbeats 1000000 in
theorem anyA_c (l : List XAccount) (A : Option Addr) (c : Nat) (w : World) (hl : ListC AccountC 4 w (· < w.heap.size) [.slice A l.length c] l) (hn : l.length ≤ 1000) : Calls Tryz.prog 88 #[.slice A l.length c, .func (.func 89) #[] #[]] w (Quiet w (.bool (!l.all basedB))) := by
 have hcall := idxA_c l A c w hl hn
 obtain ⟨n, hnl⟩ : ∃ n, l.length = n := ⟨_, rfl⟩
 rw [hnl] at hcall ⊢
 have hh : decide (0 ≤ idxI (fun a => !basedB a) l) = !l.all basedB := by rw [idx_any, List.not_all_eq_any_not]
 obtain ⟨i, hi⟩ : ∃ i, idxI (fun a => !basedB a) l = i := ⟨_, rfl⟩
 rw [hi] at hcall hh
 rw [← hh]
 clear hh hi
 go_enter Tryz.func88, Tryz.ntmps88
 go_wp2_with fail
 refine hcall.mono ?_
 clear hcall
 rintro e w2 ⟨rfl, hb2⟩
 by_cases h : 0 ≤ i
 · have hf : decide (0 ≤ i) = true := decide_eq_true h
   have HF := Lib.hid hf
   clear hf
   go_wp2_with fail
   go_ret
   exact ⟨by rw [HF.out]; first | done | rfl, hb2⟩
 · have hf : decide (0 ≤ i) = false := decide_eq_false h
   have HF := Lib.hid hf
   clear hf
   go_wp2_with fail
   go_ret
   exact ⟨by rw [HF.out]; first | done | rfl, hb2⟩
abbrev grpL (cur : ByteArray) (y m p : Int) (Ac : Option Addr) (n cc : Nat) (r0 r1 r2 r3 r4 r5 r6 r7 r8 r9 r10 r11 r12 r13 r14 : Int) (Ae : Option Addr) (ne ce : Nat) : List Value := [.string cur, .int .i64 y, .int .i64 m, .int .i64 p, .slice Ac n cc, .int .i64 r0, .int .i64 r1, .int .i64 r2, .int .i64 r3, .int .i64 r4, .int .i64 r5, .int .i64 r6, .int .i64 r7, .int .i64 r8, .int .i64 r9, .int .i64 r10, .int .i64 r11, .int .i64 r12, .int .i64 r13, .int .i64 r14, .slice Ae ne ce]
abbrev linkL (l : XLink) : List Value := [.int .i64 l.from_, .int .i64 l.to_, .int .i64 l.since]
def linkBd (l : XLink) : Prop := intBd l.from_ ∧ intBd l.to_ ∧ intBd l.since
theorem LinkC.lit {w : World} {Q : Nat → Prop} {cs : List Value} {x : XLink} (h : LinkC w Q cs x) : cs = linkL x ∧ linkBd x := by
 obtain ⟨c0, c1, c2, rfl, ⟨rfl, h0⟩, ⟨rfl, h1⟩, ⟨rfl, h2⟩⟩ := h
 exact ⟨rfl, h0, h1, h2⟩
abbrev entL (s c : ByteArray) (Ac : Option Addr) (n cc : Nat) (Al : Option Addr) (nl cl : Nat) (j : Bool) : List Value := [.string s, .string c, .slice Ac n cc, .slice Al nl cl, .bool j]
theorem EntityC.lit {w : World} {Q : Nat → Prop} {cs : List Value} {x : XEntity} (h : EntityC w Q cs x) : ∃ Ac cc Al cl, cs = entL x.name x.currency Ac x.chart.length cc Al x.links.length cl x.joint ∧ ListC AccountC 4 w Q [.slice Ac x.chart.length cc] x.chart ∧ ListC LinkC 3 w Q [.slice Al x.links.length cl] x.links := by
 obtain ⟨c0, c1, c2, c3, c4, rfl, h0, h1, h2, h3, h4⟩ := h
 have e0 : c0 = _ := h0
 have e1 : c1 = _ := h1
 have e4 : c4 = _ := h4
 subst e0 e1 e4
 obtain ⟨A, c, e, _⟩ := h2.form
 subst e
 obtain ⟨A', c', e, _⟩ := h3.form
 subst e
 exact ⟨A, c, A', c', rfl, h2, h3⟩
def rolesBd (r : XRoles) : Prop := intBd r.investment ∧ intBd r.goodwill ∧ intBd r.associates ∧ intBd r.inventory ∧ intBd r.reserve ∧ intBd r.minority ∧ intBd r.retained ∧ intBd r.acquired ∧ intBd r.owners ∧ intBd r.disposal ∧ intBd r.associateProfit ∧ intBd r.dividends ∧ intBd r.minorityProfit ∧ intBd r.difference ∧ intBd r.margin
theorem RolesC.lit {w : World} {Q : Nat → Prop} {cs : List Value} {r : XRoles} (h : RolesC w Q cs r) : cs = [.int .i64 r.investment, .int .i64 r.goodwill, .int .i64 r.associates, .int .i64 r.inventory, .int .i64 r.reserve, .int .i64 r.minority, .int .i64 r.retained, .int .i64 r.acquired, .int .i64 r.owners, .int .i64 r.disposal, .int .i64 r.associateProfit, .int .i64 r.dividends, .int .i64 r.minorityProfit, .int .i64 r.difference, .int .i64 r.margin] ∧ rolesBd r := by
 obtain ⟨c0, c1, c2, c3, c4, c5, c6, c7, c8, c9, c10, c11, c12, c13, c14, rfl, ⟨rfl, h0⟩, ⟨rfl, h1⟩, ⟨rfl, h2⟩, ⟨rfl, h3⟩, ⟨rfl, h4⟩, ⟨rfl, h5⟩, ⟨rfl, h6⟩, ⟨rfl, h7⟩, ⟨rfl, h8⟩, ⟨rfl, h9⟩, ⟨rfl, h10⟩, ⟨rfl, h11⟩, ⟨rfl, h12⟩, ⟨rfl, h13⟩, ⟨rfl, h14⟩⟩ := h
 exact ⟨rfl, h0, h1, h2, h3, h4, h5, h6, h7, h8, h9, h10, h11, h12, h13, h14⟩
theorem CalC.lit {w : World} {Q : Nat → Prop} {cs : List Value} {x : XCal} (h : CalC w Q cs x) : cs = [.int .i64 x.year, .int .i64 x.month, .int .i64 x.periods] ∧ intBd x.year ∧ intBd x.month ∧ intBd x.periods := by
 obtain ⟨c0, c1, c2, rfl, ⟨rfl, h0⟩, ⟨rfl, h1⟩, ⟨rfl, h2⟩⟩ := h
 exact ⟨rfl, h0, h1, h2⟩
theorem GroupC.lit {w : World} {Q : Nat → Prop} {cs : List Value} {g : XGroup} (h : GroupC w Q cs g) : ∃ Ac cc Ae ce, cs = grpL g.currency g.calendar.year g.calendar.month g.calendar.periods Ac g.chart.length cc g.roles.investment g.roles.goodwill g.roles.associates g.roles.inventory g.roles.reserve g.roles.minority g.roles.retained g.roles.acquired g.roles.owners g.roles.disposal g.roles.associateProfit g.roles.dividends g.roles.minorityProfit g.roles.difference g.roles.margin Ae g.entities.length ce ∧ ListC AccountC 4 w Q [.slice Ac g.chart.length cc] g.chart ∧ ListC EntityC 5 w Q [.slice Ae g.entities.length ce] g.entities ∧ (intBd g.calendar.year ∧ intBd g.calendar.month ∧ intBd g.calendar.periods) ∧ rolesBd g.roles := by
 obtain ⟨c0, c1, c2, c3, c4, rfl, h0, h1, h2, h3, h4⟩ := h
 have e0 : c0 = _ := h0
 subst e0
 obtain ⟨rfl, b1⟩ := h1.lit
 obtain ⟨rfl, b3⟩ := h3.lit
 obtain ⟨A, c, e, _⟩ := h2.form
 subst e
 obtain ⟨A', c', e, _⟩ := h4.form
 subst e
 exact ⟨A, c, A', c', rfl, h2, h4, b1, b3⟩
theorem links_keep {w w' : World} {cs : List Value} {l : List XLink} (h : ListC LinkC 3 w (· < w.heap.size) cs l) (hb : Below w.heap.size w w') : ListC LinkC 3 w' (· < w'.heap.size) cs l :=
 (h.fr (fun h => LinkC.fr h (Fr.ofBelow hb)) (Fr.ofBelow hb)).mono (fun h => LinkC.mono h (fun k hk => by have := hb.size; omega)) (fun k hk => by have := hb.size; omega)
theorem info_roles : (Tryz.prog.info? 26).map (·.size) = some 15 := by kernel_rfl
theorem info_role : (Tryz.prog.info? 151).map (·.size) = some 5 := by kernel_rfl
theorem info_group : (Tryz.prog.info? 29).map (·.size) = some 21 := by kernel_rfl
theorem info_entity : (Tryz.prog.info? 92).map (·.size) = some 5 := by kernel_rfl
theorem info_link : (Tryz.prog.info? 135).map (·.size) = some 3 := by kernel_rfl
theorem meas_v {n k : Nat} (h : k < n) : n - (intOf (.int .i64 ((k : Int) + 1))).toNat < n - (intOf (.int .i64 (k : Int))).toNat := by
 show n - ((k : Int) + 1).toNat < n - ((k : Int)).toNat
 omega
def QX (B b k : Nat) : Prop := k < B ∧ k ≠ b
theorem acc_roles {ch : List XAccount} {r : XRoles} {L : List XRole} {k : Nat} (hL : rolesOf r = L) (hk : k < L.length) (h : roleRow ch L k = false) : accountsB ch r = false := by
 unfold accountsB rolesB
 rw [hL, all_range_false hk h, Bool.and_false]
theorem acc_all {ch : List XAccount} {r : XRoles} {L : List XRole} (hL : rolesOf r = L) (h1 : chartB ch true = true) (h2 : ch.all basedB = true) (h : ∀ k, k < L.length → roleRow ch L k = true) : accountsB ch r = true := by
 unfold accountsB rolesB
 rw [hL, all_range_true h, h1, h2]; rfl
section
variable {ch : List XAccount} {L : List XRole} {k : Nat} {q : XRole} {a : XAccount}
theorem row_none (hk : L[k]? = some q) (h : findA ch q.code = none) : roleRow ch L k = false := by unfold roleRow; rw [hk]; simp only; rw [h]
theorem row_some (hk : L[k]? = some q) (h : findA ch q.code = some a) : roleRow ch L k = (a.kind == q.kind && a.basis == q.basis && !((L.take k).any fun p => p.code == q.code)) := by unfold roleRow; rw [hk]; simp only; rw [h]
end
theorem take_seen {L : List XRole} {k : Nat} {q : XRole} (hk : L[k]? = some q) {F : Int → Bool} (hF : (fun d => (L.take k).any fun p => p.code == d) = F) (d : Int) : (if d = q.code then true else F d) = (L.take (k + 1)).any fun p => p.code == d := by
 obtain ⟨hl, rfl⟩ := List.getElem?_eq_some_iff.1 hk
 rw [take_any_succ hl, ← hF]
 by_cases h : d = L[k].code
 · rw [if_pos h, h]; simp
 · rw [if_neg h, show (L[k].code == d) = false from by simpa using fun e => h e.symm, Bool.or_false]
set_option maxHeartbeats 2000000 in
theorem accounts_c (g : XGroup) (cs : List Value) (w : World) (hg : GroupC w (· < w.heap.size) cs g) (hn : g.chart.length ≤ 1000) : Calls Tryz.prog 65 #[.agg cs.toArray] w (Quiet w (.bool (accountsB g.chart g.roles))) := by
 have hmm := @run_makeMap Tryz.prog
 obtain ⟨Ac, cc, Ae, ce, rfl, hch, hen, hcal, hro⟩ := hg.lit
 clear hg
 obtain ⟨cur, ⟨y, m, p⟩, ch, ⟨r0, r1, r2, r3, r4, r5, r6, r7, r8, r9, r10, r11, r12, r13, r14⟩, es⟩ := g
 simp only at hch hen hro hcal hn ⊢
 obtain ⟨r, hr⟩ : ∃ r, accountsB ch ⟨r0, r1, r2, r3, r4, r5, r6, r7, r8, r9, r10, r11, r12, r13, r14⟩ = r := ⟨_, rfl⟩
 rw [hr]
 have HR := Lib.hid hr
 clear hr
 obtain ⟨L, hL⟩ : ∃ L, rolesL r0 r1 r2 r3 r4 r5 r6 r7 r8 r9 r10 r11 r12 r13 r14 = L := ⟨_, rfl⟩
 have hLl : L.length = 15 := by rw [← hL]; rfl
 have HLQ := Lib.hid hL
 have HLL := Lib.hid hLl
 obtain ⟨n, hnl⟩ : ∃ n, ch.length = n := ⟨_, rfl⟩
 obtain ⟨ne, hne⟩ : ∃ ne, es.length = ne := ⟨_, rfl⟩
 have HL := Lib.hid hch
 have HN := Lib.hid hnl
 have HE := Lib.hid hen
 have HNE := Lib.hid hne
 rw [hnl, hne]
 rw [hnl] at hn
 clear hL hLl hch hen hnl hne hcal
 have hrb : ∀ q ∈ L, intBd q.code := by
  rw [← HLQ.out]
  obtain ⟨b0, b1, b2, b3, b4, b5, b6, b7, b8, b9, b10, b11, b12, b13, b14⟩ := hro
  intro q hq
  simp only [rolesL, List.mem_cons, List.not_mem_nil, or_false] at hq
  rcases hq with rfl | rfl | rfl | rfl | rfl | rfl | rfl | rfl | rfl | rfl | rfl | rfl | rfl | rfl | rfl <;> assumption
 have HRB := Lib.hid hrb
 clear hrb hro
 show Calls Tryz.prog 65 #[.agg #[.string cur, .int .i64 y, .int .i64 m, .int .i64 p, .slice Ac n cc, .int .i64 r0, .int .i64 r1, .int .i64 r2, .int .i64 r3, .int .i64 r4, .int .i64 r5, .int .i64 r6, .int .i64 r7, .int .i64 r8, .int .i64 r9, .int .i64 r10, .int .i64 r11, .int .i64 r12, .int .i64 r13, .int .i64 r14, .slice Ae ne ce]] w (Quiet w (.bool r))
 go_enter Tryz.func65, Tryz.ntmps65
 go_upto_region 1 with fail
 have H := heap_alloc_new w (.cells #[.string cur, .int .i64 y, .int .i64 m, .int .i64 p, .slice Ac n cc, .int .i64 r0, .int .i64 r1, .int .i64 r2, .int .i64 r3, .int .i64 r4, .int .i64 r5, .int .i64 r6, .int .i64 r7, .int .i64 r8, .int .i64 r9, .int .i64 r10, .int .i64 r11, .int .i64 r12, .int .i64 r13, .int .i64 r14, .slice Ae ne ce] 29)
 have HB := below1 w (.cells #[.string cur, .int .i64 y, .int .i64 m, .int .i64 p, .slice Ac n cc, .int .i64 r0, .int .i64 r1, .int .i64 r2, .int .i64 r3, .int .i64 r4, .int .i64 r5, .int .i64 r6, .int .i64 r7, .int .i64 r8, .int .i64 r9, .int .i64 r10, .int .i64 r11, .int .i64 r12, .int .i64 r13, .int .i64 r14, .slice Ae ne ce] 29)
 have HS := blk_lt H
 generalize hW : w.alloc (Obj.cells #[.string cur, .int .i64 y, .int .i64 m, .int .i64 p, .slice Ac n cc, .int .i64 r0, .int .i64 r1, .int .i64 r2, .int .i64 r3, .int .i64 r4, .int .i64 r5, .int .i64 r6, .int .i64 r7, .int .i64 r8, .int .i64 r9, .int .i64 r10, .int .i64 r11, .int .i64 r12, .int .i64 r13, .int .i64 r14, .slice Ae ne ce] 29) = W at *
 clear hW
 have d4 := blk_cell H 4
 have HAT := Lib.hid ((box_at (cs := [.string cur, .int .i64 y, .int .i64 m, .int .i64 p, .slice Ac n cc] ++ ([.int .i64 r0, .int .i64 r1, .int .i64 r2, .int .i64 r3, .int .i64 r4, .int .i64 r5, .int .i64 r6, .int .i64 r7, .int .i64 r8, .int .i64 r9, .int .i64 r10, .int .i64 r11, .int .i64 r12, .int .i64 r13, .int .i64 r14] ++ [.slice Ae ne ce])) H).split.2.split.1)
 have HH0 := Lib.hid H
 clear H
 go_wp2_with fail
 have hcall := chartValid_c ch Ac cc true W (chart_keep HL.out HB) (by rw [HN.out]; exact hn)
 rw [HN.out] at hcall
 refine hcall.mono ?_
 clear hcall
 rintro e w2 ⟨rfl, hb2⟩
 have hbb := HB.trans (hb2.mono HB.size)
 cases hc : chartB ch true with
 | false =>
  have hf := Lib.hid (show r = false by rw [← HR.out]; unfold accountsB; rw [hc]; rfl)
  clear hc
  go_wp2_with fail
  go_ret
  exact ⟨by rw [hf.out]; first | done | rfl, hbb⟩
 | true =>
  have HC := Lib.hid hc
  have G2 := (hb2.block _ HS).trans HH0.out
  have e4 := blk_cell G2 4
  clear hc d4
  go_wp2_with fail
  have hcall := anyA_c ch Ac cc w2 (chart_keep HL.out hbb) (by rw [HN.out]; exact hn)
  rw [HN.out] at hcall
  refine hcall.mono ?_
  clear hcall
  rintro e w3 ⟨rfl, hb3⟩
  have hbc := hbb.trans (hb3.mono hbb.size)
  have hs2 := hb2.size
  have hs3 := hb3.size
  have G3 := (hb3.block _ (by omega)).trans G2
  clear e4
  cases hd : ch.all basedB with
  | false =>
   have hf := Lib.hid (show r = false by rw [← HR.out]; unfold accountsB; rw [hd, Bool.and_false]; rfl)
   clear hd
   simp only [Bool.not_false]
   go_wp2_with fail
   go_ret
   exact ⟨by rw [hf.out]; first | done | rfl, hbc⟩
  | true =>
   have HD := Lib.hid hd
   clear hd
   simp only [Bool.not_true]
   go_upto_region 4 with fail
   have hs0 := SetK.made Tryz.prog 3 4 iKey w3
   have HB4 := below1 w3 (.map #[] 0)
   have HS4 : w3.heap.size + 1 = (w3.alloc (.map #[] 0)).heap.size := by simp
   have G4 := alloc_keep G3 (.map #[] 0)
   generalize hW4 : w3.alloc (Obj.map #[] 0) = W4 at *
   clear hW4
   have e5 : W4.rangeAt w.heap.size 5 [.int .i64 r0, .int .i64 r1, .int .i64 r2, .int .i64 r3, .int .i64 r4, .int .i64 r5, .int .i64 r6, .int .i64 r7, .int .i64 r8, .int .i64 r9, .int .i64 r10, .int .i64 r11, .int .i64 r12, .int .i64 r13, .int .i64 r14] := ((HAT.out.fr (Fr.ofBelow hb2)).fr ((Fr.ofBelow (hb3.trans (HB4.mono hs3))).mono (fun k (hk : k < W.heap.size) => by omega))).range
   have HRR := Lib.hid e5
   have HG4 := Lib.hid G4
   clear e5 G4 G3 G2
   go_wp2_with (show wpList _ _ _ (Oper.mk (some 19) _ _ _ _ _ :: _) _ _; refine wpList_load_mid rfl 26 (.tmp 18) rfl w.heap.size 5 rfl [.int .i64 r0, .int .i64 r1, .int .i64 r2, .int .i64 r3, .int .i64 r4, .int .i64 r5, .int .i64 r6, .int .i64 r7, .int .i64 r8, .int .i64 r9, .int .i64 r10, .int .i64 r11, .int .i64 r12, .int .i64 r13, .int .i64 r14] _ HRR.out Tryz.underlying26 rfl info_roles ?_)
   refine (roles_c r0 r1 r2 r3 r4 r5 r6 r7 r8 r9 r10 r11 r12 r13 r14 W4).mono ?_
   rintro e w5 ⟨v, rfl, ⟨A, c, rfl⟩, hrl, hb5⟩
   rw [HLQ.out] at hrl
   have HROL := Lib.hid (show ListC RoleC 5 w5 (fun k => W4.heap.size ≤ k ∧ k < w5.heap.size) [.slice A L.length c] L by rw [HLL.out]; exact hrl)
   have hs5 := hb5.size
   have hbd := hbc.trans ((HB4.mono hbc.size).trans (hb5.mono (by omega)))
   have hset5 := hs0.below hb5
   have HG5 := Lib.hid ((hb5.block _ (by omega)).trans HG4.out)
   clear hrl hs0
   go_wp2_with fail
   go_loopw [22] (fun i wr => ∃ k : Nat, k ≤ 15 ∧ i = .int .i64 (k : Int) ∧ Fr (QX w5.heap.size w3.heap.size) w5 wr ∧ SetI wr w3.heap.size k (fun d => (L.take k).any fun p => p.code == d) ∧ ∀ j, j < k → roleRow ch L j = true) (fun i _ => 15 - (intOf i).toNat)
   case atStart => exact ⟨0, by omega, rfl, Fr.refl _ _, hset5.eqv (fun _ => rfl), fun j hj => by omega⟩
   case round =>
    obtain ⟨k, hk, rfl, hfr, hset, hall⟩ := hrel
    have HA := Lib.hid hall
    have HF := Lib.hid hfr
    have hsz := hfr.size
    clear hall hfr
    have hb0 : Below w.heap.size w wr := ((Fr.ofBelow hbd).trans (HF.out.mono (fun k (hk : k < w.heap.size) => ⟨by omega, by omega⟩))).below
    by_cases hlt : k < 15
    case pos =>
     have hltI : (k : Int) < 15 := by omega
     have hkl : k < L.length := by rw [HLL.out]; exact hlt
     obtain ⟨b, o, es1, hAe, hbw, hes, hat⟩ := ListC.get HROL.out k hkl
     subst hAe
     obtain ⟨q, hq⟩ : ∃ q, L[k] = q := ⟨_, rfl⟩
     have hqb := HRB.out _ (List.getElem_mem hkl)
     rw [hq] at hes hqb
     have HQ := Lib.hid (show L[k]? = some q by rw [List.getElem?_eq_getElem hkl, hq])
     obtain ⟨qn, qc, qk, qb, qm⟩ := q
     have HQB := Lib.hid hqb
     obtain ⟨hqb1, hqb2⟩ := hqb
     have hes1 : es1 = [.string qn, .int .i64 qc, .int .i64 qk, .int .i64 qb, .bool qm] := hes
     subst hes1
     have HAR := Lib.hid ((hat.fr (HF.out.mono (fun k hk => ⟨hk.2, by omega⟩))).range)
     have G6 := (HF.out.block w.heap.size ⟨by omega, by omega⟩).trans HG5.out
     have HLW := Lib.hid (chart_keep HL.out hb0)
     obtain ⟨F, hF⟩ : ∃ F : Int → Bool, (fun d => (L.take k).any fun p => p.code == d) = F := ⟨_, rfl⟩
     rw [hF] at hset
     have HF2 := Lib.hid hF
     clear hes hat hq hF hbw
     go_upto_region 7 with (show wpList _ _ _ (Oper.mk (some 25) _ _ _ _ _ :: _) _ _; refine wpList_load_mid rfl 151 (.tmp 24) rfl b (o + k * 5) rfl [.string qn, .int .i64 qc, .int .i64 qk, .int .i64 qb, .bool qm] _ HAR.out Tryz.underlying151 rfl info_role ?_)
     have H6 := heap_alloc_new wr (.cells #[.string qn, .int .i64 qc, .int .i64 qk, .int .i64 qb, .bool qm] 151)
     have HB6 := below1 wr (.cells #[.string qn, .int .i64 qc, .int .i64 qk, .int .i64 qb, .bool qm] 151)
     have HS6 := blk_lt H6
     replace G6 := alloc_keep G6 (Obj.cells #[.string qn, .int .i64 qc, .int .i64 qk, .int .i64 qb, .bool qm] 151)
     generalize hW6 : wr.alloc (Obj.cells #[.string qn, .int .i64 qc, .int .i64 qk, .int .i64 qb, .bool qm] 151) = W6 at *
     clear hW6
     have f1 := blk_cell H6 1
     have d4 := blk_cell G6 4
     have hset6 := hset.below HB6
     have HH6 := Lib.hid H6
     have HG6 := Lib.hid G6
     have HLW6 := Lib.hid (chart_keep HLW.out HB6)
     clear H6 G6 hset
     go_wp2_with fail
     have hcall := find_c ch Ac cc qc W6 HLW6.out HQB.out (by rw [HN.out]; exact hn)
     rw [HN.out] at hcall
     refine hcall.mono ?_
     clear hcall
     rintro e w7 ⟨rfl, hb7⟩
     have hs6 := HB6.size
     have hs7 := hb7.size
     have hset7 := hset6.below hb7
     have hb67 := HB6.trans (hb7.mono HB6.size)
     have hb07 := hb0.trans (hb67.mono hb0.size)
     cases ha : findA ch qc with
     | none =>
      have e0 : findV ch qc = .tuple #[.agg (accL {}).toArray, .bool false] := findV_none ha
      rw [e0]
      have hf := Lib.hid (show r = false by rw [← HR.out]; exact acc_roles (L := L) HLQ.out hkl (row_none HQ.out ha))
      clear e0 ha
      go_wp2_with fail
      go_ret
      exact ⟨by rw [hf.out]; first | done | rfl, hb07.alloc hb07.size _⟩
     | some pa =>
      have e0 : findV ch qc = .tuple #[.agg (accL pa).toArray, .bool true] := findV_some ha
      rw [e0]
      have HROW := Lib.hid (row_some HQ.out ha)
      clear e0 ha
      obtain ⟨p1, p2, p3, p4⟩ := pa
      have G7 := (hb7.block _ (by omega)).trans HG6.out
      have K7 := (hb7.block _ HS6).trans HH6.out
      go_upto_region 8 with fail
      have H8 := heap_alloc_new w7 (.cells #[.int .i64 p1, .int .i64 p2, .int .i64 p3, .int .i64 p4] 87)
      have HB8 := below1 w7 (.cells #[.int .i64 p1, .int .i64 p2, .int .i64 p3, .int .i64 p4] 87)
      have HS8 := blk_lt H8
      replace G7 := alloc_keep G7 (Obj.cells #[.int .i64 p1, .int .i64 p2, .int .i64 p3, .int .i64 p4] 87)
      replace K7 := alloc_keep K7 (Obj.cells #[.int .i64 p1, .int .i64 p2, .int .i64 p3, .int .i64 p4] 87)
      generalize hW8 : w7.alloc (Obj.cells #[.int .i64 p1, .int .i64 p2, .int .i64 p3, .int .i64 p4] 87) = W8 at *
      clear hW8
      have g1 := blk_cell H8 1
      have g2 := blk_cell H8 2
      have f1 := blk_cell K7 1
      have f2 := blk_cell K7 2
      have f3 := blk_cell K7 3
      have hset8 := hset7.below HB8
      have hb08 := hb07.trans (HB8.mono hb07.size)
      have hb68 := hb67.trans (HB8.mono hb67.size)
      have hs8 := HB8.size
      clear H8 K7 G7 hset7
      cases hcont : F qc with
      | true =>
       have hf := Lib.hid (show r = false by rw [← HR.out]; exact acc_roles (L := L) HLQ.out hkl (by rw [HROW.out, show ((L.take k).any fun p => p.code == qc) = true from (congrFun HF2.out qc).trans hcont]; simp))
       go_wp2_with (at_lookup; refine wpList_look_set rfl _ _ 147 rfl 3 4 int_keyed3 imap_uty bool_uty (bool_zero _) w3.heap.size k F rfl hset8 _ qc rfl (iKey_of HQB.out) ?_)
       go_ret
       exact ⟨by rw [hf.out]; first | done | rfl, hb08⟩
      | false =>
      by_cases h1 : p2 = qk
      case neg =>
       have h1' : (p2 != qk) = true := by simpa using h1
       have hf := Lib.hid (show r = false by rw [← HR.out]; exact acc_roles (L := L) HLQ.out hkl (by rw [HROW.out, show (p2 == qk) = false from by simpa using h1]; rfl))
       go_wp2_with (at_lookup; refine wpList_look_set rfl _ _ 147 rfl 3 4 int_keyed3 imap_uty bool_uty (bool_zero _) w3.heap.size k F rfl hset8 _ qc rfl (iKey_of HQB.out) ?_)
       go_ret
       exact ⟨by rw [hf.out]; first | done | rfl, hb08⟩
      case pos =>
      have h1' : (p2 != qk) = false := by simpa using h1
      by_cases h2 : p3 = qb
      case neg =>
       have h2' : (p3 != qb) = true := by simpa using h2
       have hf := Lib.hid (show r = false by rw [← HR.out]; exact acc_roles (L := L) HLQ.out hkl (by rw [HROW.out, show (p3 == qb) = false from by simpa using h2, Bool.and_false]; rfl))
       go_wp2_with (at_lookup; refine wpList_look_set rfl _ _ 147 rfl 3 4 int_keyed3 imap_uty bool_uty (bool_zero _) w3.heap.size k F rfl hset8 _ qc rfl (iKey_of HQB.out) ?_)
       go_ret
       exact ⟨by rw [hf.out]; first | done | rfl, hb08⟩
      case pos =>
      have h2' : (p3 != qb) = false := by simpa using h2
      have HROW2 := Lib.hid (show roleRow ch L k = true by rw [HROW.out, show ((L.take k).any fun p => p.code == qc) = false from (congrFun HF2.out qc).trans hcont, h1, h2]; simp)
      go_wp2_with (first | (at_lookup; refine wpList_look_set rfl _ _ 147 rfl 3 4 int_keyed3 imap_uty bool_uty (bool_zero _) w3.heap.size k F rfl hset8 _ qc rfl (iKey_of HQB.out) ?_) | (at_mapUpdate; refine wpList_store_set rfl _ _ _ 147 rfl 3 4 int_keyed3 imap_uty bool_uty w3.heap.size k F rfl hset8 (by simp only [maxLen]; omega) iKey_inj iKey_lit _ qc rfl true rfl (iKey_of HQB.out) ?_; intro w9 hset9 hg9; replace hset9 := Lib.hid hset9))
      go_roundw
      case rel =>
       refine ⟨k + 1, by omega, by go_num, ?_, ?_, ?_⟩
       · exact (HF.out.trans ((Fr.ofBelow hb68).mono (fun k hk => by have := hk.1; omega))).grown hg9 (fun k hk => hk.1) (fun j hj => by injection hj with hj; exact fun h => h.2 hj.symm)
       · exact hset9.out.eqv (fun d => take_seen HQ.out HF2.out d)
       · intro j hj
         rcases Nat.lt_or_ge j k with h | h
         · exact HA.out j h
         · have : j = k := by omega
           subst this
           exact HROW2.out
      case measure =>
       exact meas_v hlt
    case neg =>
     have hltI : ¬ (k : Int) < 15 := by omega
     have hf := Lib.hid (show r = true by rw [← HR.out]; exact acc_all (L := L) HLQ.out HC.out HD.out (fun j hj => HA.out j (by have := HLL.out; omega)))
     go_wp2_with fail
     go_ret
     exact ⟨by rw [hf.out]; first | done | rfl, hb0⟩
def chainB (md : Region.Mode) (ops : Array Oper) (m : Nat) : Bool := (List.range (ops.size - m)).all (fun j => Region.ready md ops (headDone (m + j) ops.size) == [m + j]) && Region.ready md ops (headDone ops.size ops.size) == []
theorem headDone_set (m n : Nat) (h : m < n) : (headDone m n).setIfInBounds m true = headDone (m + 1) n := by
 apply Array.ext
 · simp [headDone]
 · intro i h1 h2
   simp only [headDone, List.size_toArray, List.length_map, List.length_range, Array.size_setIfInBounds] at h1 h2
   rw [Array.getElem_setIfInBounds (by simpa [headDone] using h1)]
   simp only [headDone, List.getElem_toArray, List.getElem_map, List.getElem_range]
   by_cases hi : m = i
   · subst hi; simp
   · rw [if_neg hi]
     have : (i < m) ↔ (i < m + 1) := by omega
     simp [this]
theorem wpAny_chain_aux {P : Program} {md : Region.Mode} {ops : Array Oper} {Q : Exit → Act → World → Prop} (f : Nat) : ∀ (d m : Nat) (a : Act) (w : World), m + d = ops.size → (∀ i, m ≤ i → i < ops.size → Region.ready md ops (headDone i ops.size) = [i]) → Region.ready md ops (headDone ops.size ops.size) = [] →
 wpList P ops Q (ops.toList.drop m) a w → wpAny P md ops Q (f + d) (headDone m ops.size) a w
 | 0, m, a, w, hm, hr, h0, h => by
  have hm' : m = ops.size := by omega
  subst hm'
  rw [List.drop_eq_nil_of_le (by simp)] at h
  exact wpAny_done h0 h _
 | d + 1, m, a, w, hm, hr, h0, h => by
  have hlt : m < ops.size := by omega
  refine wpAny_all (rs := [m]) (hr m (Nat.le_refl _) hlt) (by simp) (fun i hi => ?_)
  obtain rfl : i = m := by simpa using hi
  rw [headDone_set i ops.size hlt]
  have ho : ops[i]? = some ops[i] := Array.getElem?_eq_getElem hlt
  have hd : ops.toList.drop i = ops[i] :: ops.toList.drop (i + 1) := by
   rw [List.drop_eq_getElem_cons (by simpa using hlt)]; simp
  rw [hd] at h
  unfold wpOp
  rw [ho]
  simp only [wpList] at h
  have ih := fun a w => wpAny_chain_aux (P := P) (md := md) (ops := ops) (Q := Q) f d (i + 1) a w (by omega) (fun j hj => hr j (by omega)) h0
  show if Region.wanted ops[i] (yielded ops a.tmps) = true then _ else _
  split
  · rename_i hw
    rw [if_pos hw] at h
    rcases h with h | h
    · exact .inl (Oper.wp_mono ih h)
    · exact .inr h
  · rename_i hw
    rw [if_neg hw] at h
    exact ih _ _ h
theorem wpAny_chain {P : Program} {md : Region.Mode} {ops : Array Oper} {Q : Exit → Act → World → Prop} {f m : Nat} {a : Act} {w : World} (hc : chainB md ops m = true) (hm : m < ops.size) (h : wpList P ops Q (ops.toList.drop m) a w) : wpAny P md ops Q (f + (ops.size - m)) (headDone m ops.size) a w := by
 unfold chainB at hc
 simp only [Bool.and_eq_true, List.all_eq_true, beq_iff_eq, List.mem_range] at hc
 exact wpAny_chain_aux f _ m a w (by omega) (fun i h1 h2 => by have := hc.1 (i - m) (by omega); rwa [show m + (i - m) = i from by omega] at this) hc.2 h
def waitsL (md : Region.Mode) (late : Nat → Bool) (ops : Array Oper) (m : Nat) : Bool :=
 (List.range m).all fun i => late i || ((List.range ops.size).drop (i + 1)).any fun j => decide (j ≤ m) && !(decide (j < m) && late j) && match ops[j]? with
  | some o => o.after.toList.any fun e => Region.binds md e && e.on == i
  | none => false
theorem waitsL_spec {md : Region.Mode} {late : Nat → Bool} {ops : Array Oper} {V : Nat → Value → World → Prop} {S : World → Prop} {a0 : Act} {listed : Array Bool} {a : Act} {w : World} {m : Nat} (hI : Inv md ops V S a0 listed a w)
 (h : waitsL md late ops m = true) {o : Oper} (ho : ops[m]? = some o) (hd : ∀ e ∈ o.after, Region.binds md e = true → Done listed e.on) : ∀ k i, i < m → late i = false → m - i ≤ k → Done listed i
 | 0, i, hi, _, hk => absurd hk (by omega)
 | k + 1, i, hi, hl, hk => by
  simp only [waitsL, List.all_eq_true, List.mem_range] at h
  have h1 := h i hi
  rw [hl, Bool.false_or] at h1
  simp only [List.any_eq_true, Bool.and_eq_true, decide_eq_true_eq] at h1
  obtain ⟨j, hj, ⟨hjm, hlate⟩, h2⟩ := h1
  have hij : i < j := by
   rw [List.mem_drop_iff_getElem] at hj
   obtain ⟨q, hq, hq2⟩ := hj
   simp at hq2
   omega
  cases hoj : ops[j]? with
  | none => rw [hoj] at h2; simp at h2
  | some oj =>
   rw [hoj] at h2
   simp only [List.any_eq_true, Bool.and_eq_true, beq_iff_eq] at h2
   obtain ⟨e, he, hb, rfl⟩ := h2
   by_cases hjm2 : j = m
   · subst hjm2
     rw [ho] at hoj
     cases hoj
     exact hd e (by simpa using he) hb
   · have hlj : late j = false := by
      have : decide (j < m) = true := decide_eq_true (by omega)
      simpa [this] using hlate
     have := waitsL_spec hI (by simpa only [waitsL, List.all_eq_true, List.mem_range] using h) ho hd k j (by omega) hlj (by omega)
     exact hI.closed j oj hoj this e (by simpa using he) hb
theorem wpAny_inv5 {P : Program} {md : Region.Mode} {ops : Array Oper} {Q : Exit → Act → World → Prop} {V : Nat → Value → World → Prop} {S : World → Prop} {a0 : Act} {m : Nat} (late : Nat → Bool)
 (hord : ∀ (i : Nat) (o : Oper), ops[i]? = some o → ∀ e ∈ o.after, Region.binds md e = true → e.on < i)
 (hdst : ∀ (i j : Nat) (oi oj : Oper) (d : Nat), ops[i]? = some oi → ops[j]? = some oj → oi.dst = some d → oj.dst = some d → i = j)
 (hlt : ∀ (i : Nat) (o : Oper) (d : Nat), ops[i]? = some o → o.dst = some d → d < a0.tmps.size)
 (hmn : m < ops.size) (hwait : waitsB md ops m = true) (hbeh : behindB md ops m = true)
 (hstep : ∀ i o, i < m → late i = true → ops[i]? = some o → ∀ listed a w, Inv md ops V S a0 listed a w → (∀ e ∈ o.after, Region.binds md e = true → Done listed e.on) → ¬ Done listed i →
  ∀ K : Act → World → Prop, (∀ v w', S w' → V i v w' → (∀ j u, V j u w → V j u w') → K (a.put o.dst v) w') → if Region.wanted o (yielded ops a.tmps) = true then o.wp P a w K Q else K (a.put o.dst undef) w)
 (hmid : ∀ f a w, Inv md ops V S a0 (headDone m ops.size) a w → wpAny P md ops Q (f + (ops.size - m)) (headDone m ops.size) a w) :
 ∀ fuel listed a w, Inv md ops V S a0 listed a w → (∀ i, m ≤ i → i < ops.size → ¬ Done listed i) → (∀ i, i < m → late i = false → Done listed i) → left ops.size listed ≤ fuel → wpAny P md ops Q fuel listed a w := by
 intro fuel
 induction fuel with
 | zero =>
  intro listed a w hI hno hE hf
  have hr : Region.ready md ops listed = [] := by
   rw [List.eq_nil_iff_forall_not_mem]
   intro i hi
   obtain ⟨h1, o, h2, _⟩ := mem_ready.1 hi
   have := left_set hI.lsize (Array.getElem?_eq_some_iff.1 h2).1 h1
   omega
  exact absurd (all_done' hI.lsize hord hr (m + 1) m (by omega) hmn) (hno m (by omega) hmn)
 | succ fuel ih =>
  intro listed a w hI hno hE hf
  by_cases hall : ∀ i, i < m → Done listed i
  · have hl := eq_headDone hI.lsize (fun i hi _ => hall i hi) hno
    subst hl
    have h1 := left_head m ops.size ops.size (Nat.le_refl _)
    unfold left at hf
    have h2 := hmid (fuel + 1 - (ops.size - m)) a w hI
    rwa [show fuel + 1 - (ops.size - m) + (ops.size - m) = fuel + 1 from by omega] at h2
  · refine ⟨fun hr => absurd (all_done' hI.lsize hord hr (m + 1) m (by omega) hmn) (hno m (by omega) hmn), fun i hi => ?_⟩
    obtain ⟨h1, o, h2, h3⟩ := mem_ready.1 hi
    have hsz : i < ops.size := (Array.getElem?_eq_some_iff.1 h2).1
    have him : i < m := by
     refine Nat.lt_of_not_le fun hle => ?_
     by_cases he : i = m
     · subst he
       exact hall fun j hj => waits_spec hI hwait h2 h3 (i - j) j hj (Nat.le_refl _)
     · simp only [behindB, List.all_eq_true] at hbeh
       have h4 := hbeh i (by rw [List.mem_drop_iff_getElem]; exact ⟨i - (m + 1), by simp; omega, by simp; omega⟩)
       rw [h2] at h4
       simp only [List.any_eq_true, Bool.and_eq_true, decide_eq_true_eq] at h4
       obtain ⟨e, hem, ⟨hb, hme⟩, hei⟩ := h4
       exact hno e.on hme (by omega) (h3 e (by simpa using hem) hb)
    have hnd : ¬ Done listed i := by
     unfold Done
     rw [← getD_tf (by rw [hI.lsize]; exact hsz), h1]
     simp
    have hli : late i = true := by
     cases h : late i with
     | true => rfl
     | false => exact absurd (hE i him h) hnd
    refine wpOp_step h2 (fun K hK => hstep i o him hli h2 listed a w hI h3 hnd K (fun v w' hS hv hst => hK _ _ ?_))
    refine ih _ _ _ (hI.step hdst hlt h2 h3 hS hv hst) (fun j hj hjs hdj => ?_) (fun j hj hl => (hE j hj hl).set) ?_
    · rcases hdj.inv with rfl | hdj
      · omega
      · exact hno j hj hjs hdj
    · have := left_set hI.lsize hsz h1
      omega
theorem wpAny_inv6 {P : Program} {md : Region.Mode} {ops : Array Oper} {Q : Exit → Act → World → Prop} {V V2 : Nat → Value → World → Prop} {S S2 : World → Prop} {a0 : Act} {m : Nat} (late : Nat → Bool) (om : Oper) (hom : ops[m]? = some om) (hod : om.dst = none)
 (hord : ∀ (i : Nat) (o : Oper), ops[i]? = some o → ∀ e ∈ o.after, Region.binds md e = true → e.on < i)
 (hdst : ∀ (i j : Nat) (oi oj : Oper) (d : Nat), ops[i]? = some oi → ops[j]? = some oj → oi.dst = some d → oj.dst = some d → i = j)
 (hlt : ∀ (i : Nat) (o : Oper) (d : Nat), ops[i]? = some o → o.dst = some d → d < a0.tmps.size)
 (hmn : m + 1 < ops.size) (hwaitL : waitsL md late ops m = true) (hbeh : behindB md ops m = true) (hwait : waitsB md ops (m + 1) = true) (hbeh2 : behindB md ops (m + 1) = true) (hlm : late m = false)
 (hstep : ∀ i o, i < m → ops[i]? = some o → ∀ listed a w, Inv md ops V S a0 listed a w → (∀ e ∈ o.after, Region.binds md e = true → Done listed e.on) → ¬ Done listed i →
  ∀ K : Act → World → Prop, (∀ v w', S w' → V i v w' → (∀ j u, V j u w → V j u w') → K (a.put o.dst v) w') → if Region.wanted o (yielded ops a.tmps) = true then o.wp P a w K Q else K (a.put o.dst undef) w)
 (hstore : ∀ listed a w, Inv md ops V S a0 listed a w → (∀ i, i < m → late i = false → Done listed i) →
  ∀ K : Act → World → Prop, (∀ w', S2 w' → (∀ i o d u, i < m → ops[i]? = some o → o.dst = some d → a.tmps[d]? = some u → V i u w → V2 i u w') → K (a.put om.dst undef) w') → if Region.wanted om (yielded ops a.tmps) = true then om.wp P a w K Q else K (a.put om.dst undef) w)
 (hstepL : ∀ i o, i < m + 1 → late i = true → ops[i]? = some o → ∀ listed a w, Inv md ops V2 S2 a0 listed a w → (∀ e ∈ o.after, Region.binds md e = true → Done listed e.on) → ¬ Done listed i →
  ∀ K : Act → World → Prop, (∀ v w', S2 w' → V2 i v w' → (∀ j u, V2 j u w → V2 j u w') → K (a.put o.dst v) w') → if Region.wanted o (yielded ops a.tmps) = true then o.wp P a w K Q else K (a.put o.dst undef) w)
 (hmid : ∀ f a w, Inv md ops V2 S2 a0 (headDone (m + 1) ops.size) a w → wpAny P md ops Q (f + (ops.size - (m + 1))) (headDone (m + 1) ops.size) a w) :
 ∀ fuel listed a w, Inv md ops V S a0 listed a w → (∀ i, m ≤ i → i < ops.size → ¬ Done listed i) → left ops.size listed ≤ fuel → wpAny P md ops Q fuel listed a w := by
 have hm1 : m < ops.size := by omega
 intro fuel
 induction fuel with
 | zero =>
  intro listed a w hI hno hf
  have hr : Region.ready md ops listed = [] := by
   rw [List.eq_nil_iff_forall_not_mem]
   intro i hi
   obtain ⟨h1, o, h2, _⟩ := mem_ready.1 hi
   have := left_set hI.lsize (Array.getElem?_eq_some_iff.1 h2).1 h1
   omega
  exact absurd (all_done' hI.lsize hord hr (m + 1) m (by omega) hm1) (hno m (by omega) hm1)
 | succ fuel ih =>
  intro listed a w hI hno hf
  refine ⟨fun hr => absurd (all_done' hI.lsize hord hr (m + 1) m (by omega) hm1) (hno m (by omega) hm1), fun i hi => ?_⟩
  obtain ⟨h1, o, h2, h3⟩ := mem_ready.1 hi
  have hsz : i < ops.size := (Array.getElem?_eq_some_iff.1 h2).1
  have him : i ≤ m := by
   refine Nat.le_of_not_lt fun hgt => ?_
   simp only [behindB, List.all_eq_true] at hbeh
   have h4 := hbeh i (by rw [List.mem_drop_iff_getElem]; exact ⟨i - (m + 1), by simp; omega, by simp; omega⟩)
   rw [h2] at h4
   simp only [List.any_eq_true, Bool.and_eq_true, decide_eq_true_eq] at h4
   obtain ⟨e, hem, ⟨hb, hme⟩, hei⟩ := h4
   exact hno e.on hme (by omega) (h3 e (by simpa using hem) hb)
  have hnd : ¬ Done listed i := by
   unfold Done
   rw [← getD_tf (by rw [hI.lsize]; exact hsz), h1]
   simp
  have hleft := left_set hI.lsize hsz h1
  by_cases he : i = m
  · subst he
    rw [hom] at h2
    cases h2
    have hE : ∀ j, j < i → late j = false → Done listed j := fun j hj hl => waitsL_spec hI hwaitL hom h3 (i - j) j hj hl (Nat.le_refl _)
    refine wpOp_step hom (fun K hK => hstore listed a w hI hE K (fun w' hS2 hV => hK _ _ ?_))
    refine wpAny_inv5 (V := V2) (S := S2) (a0 := a0) (m := i + 1) late hord hdst hlt hmn hwait hbeh2 hstepL hmid fuel _ _ _ ?_ (fun j hj hjs hdj => ?_) (fun j hj hl => ?_) (by omega)
    · refine ⟨by simp [hI.lsize], hS2, ?_, ?_, ?_, ?_, ?_⟩
      · rw [hod]; exact hI.defers
      · rw [hod]; exact hI.size
      · intro j oj hoj hdj e hem hb
        rcases hdj.inv with rfl | hdj
        · rw [hom] at hoj; cases hoj
          exact Done.set (h3 e hem hb)
        · exact (hI.closed j oj hoj hdj e hem hb).set
      · intro j oj d hoj hjd hdj
        rcases hdj.inv with rfl | hdj
        · rw [hom] at hoj; cases hoj
          rw [hod] at hjd; cases hjd
        · obtain ⟨v, hv, hV1⟩ := hI.got j oj d hoj hjd hdj
          have hjm : j < i := Nat.lt_of_not_le fun hle => hno j hle (Array.getElem?_eq_some_iff.1 hoj).1 hdj
          exact ⟨v, by rw [hod]; exact hv, hV j oj d v hjm hoj hjd hv hV1⟩
      · intro j hj
        rw [hod]
        exact hI.old j (fun q oq hoq hqd hdq => hj q oq hoq hqd hdq.set)
    · rcases hdj.inv with rfl | hdj
      · omega
      · exact hno j (by omega) hjs hdj
    · by_cases hji : j = i
      · subst hji
        exact Done.new (by rw [hI.lsize]; exact hsz)
      · exact (hE j (by omega) hl).set
  · refine wpOp_step h2 (fun K hK => hstep i o (by omega) h2 listed a w hI h3 hnd K (fun v w' hS hv hst => hK _ _ ?_))
    refine ih _ _ _ (hI.step hdst hlt h2 h3 hS hv hst) (fun j hj hjs hdj => ?_) (by omega)
    rcases hdj.inv with rfl | hdj
    · omega
    · exact hno j hj hjs hdj
def LateStep (P : Program) (md : Region.Mode) (ops : Array Oper) (Q : Exit → Act → World → Prop) (V : Nat → Value → World → Prop) (S : World → Prop) (a0 : Act) (late : Nat → Bool) (i : Nat) (o : Oper) : Prop := late i = true → OpStep P md ops Q V S a0 i o
theorem wp_region_inv6 {P : Program} {ops : Array Oper} {Q : Exit → Act → World → Prop} (m : Nat) (late : Nat → Bool) (V : Nat → Value → World → Prop) (S : World → Prop) (V2 : Nat → Value → World → Prop) (S2 : World → Prop) {id : Nat} {a : Act} {w : World}
 (hm : P.follows .mixedOrders = true) (ho : ordB' .any ops = true) (hd : dstB ops a.tmps.size = true) (hmn : m + 1 < ops.size) (hwaitL : waitsL .any late ops m = true) (hbeh : behindB .any ops m = true) (hwait : waitsB .any ops (m + 1) = true) (hbeh2 : behindB .any ops (m + 1) = true) (hlm : late m = false) (hch : chainB .any ops (m + 1) = true)
 (om : Oper) (hom : ops[m]? = some om) (hod : om.dst = none) (hS : S w.drew)
 (hstep : AllOps (OpStep P .any ops Q V S a) 0 (ops.toList.take m))
 (hstore : ∀ listed A0 w2, Inv .any ops V S a listed A0 w2 → (∀ i, i < m → late i = false → Done listed i) →
  ∀ K : Act → World → Prop, (∀ w', S2 w' → (∀ i o d u, i < m → ops[i]? = some o → o.dst = some d → A0.tmps[d]? = some u → V i u w2 → V2 i u w') → K (A0.put om.dst undef) w') → if Region.wanted om (yielded ops A0.tmps) = true then om.wp P A0 w2 K Q else K (A0.put om.dst undef) w2)
 (hstepL : AllOps (LateStep P .any ops Q V2 S2 a late) 0 (ops.toList.take (m + 1)))
 (hmid : ∀ a' w', Inv .any ops V2 S2 a (headDone (m + 1) ops.size) a' w' → wpList P ops Q (ops.toList.drop (m + 1)) a' w') : (Code.region id ops true).wp P Q a w := by
 have hno : ∀ i, ¬ Done (Array.replicate ops.size false) i := fun i h => by
  unfold Done at h
  by_cases hi : i < ops.size <;> simp [Array.getD_eq_getD_getElem?, hi] at h
 refine wp_region_any hm (wpAny_inv6 (V := V) (S := S) (V2 := V2) (S2 := S2) (a0 := a) (m := m) late om hom hod (ordB_spec' ho) (fun i j oi oj d hi hj hid hjd => (dstB_spec hd i oi d hi hid).2 j oj hj hjd) (fun i o d hi hid => (dstB_spec hd i o d hi hid).1) hmn hwaitL hbeh hwait hbeh2 hlm
  (fun i o him hi listed a' w' hI hdn hnd K hK => ?_) hstore (fun i o him hl hi listed a' w' hI hdn hnd K hK => ?_) (fun f a' w' hI => wpAny_chain hch hmn (hmid a' w' hI)) _ _ _ _ ?_ (fun i _ _ => hno i) ?_)
 · have := AllOps.get hstep (i := i) (o := o) (by rw [List.getElem?_take_of_lt him]; simpa using hi)
   rw [Nat.zero_add] at this
   exact this listed a' w' hI hdn hnd K hK
 · have := AllOps.get hstepL (i := i) (o := o) (by rw [List.getElem?_take_of_lt him]; simpa using hi)
   rw [Nat.zero_add] at this
   exact this hl listed a' w' hI hdn hnd K hK
 · exact ⟨by simp, hS, rfl, rfl, fun i _ _ h => absurd h (hno i), fun i _ _ _ _ h => absurd h (hno i), fun _ _ => rfl⟩
 · unfold left
   exact Nat.le_trans (List.length_filter_le _ _) (by simp)
def isValB : Option Kind → Bool
 | some (.val _) => true
 | some _ => false
 | none => true
theorem Ks.store {W w w' : World} {ks : List Kind} {p i : Nat} {kn : Kind} {u : Value} (hv : ((List.range ks.length).all fun j => j == p || isValB ks[j]?) = true) (h : Ks W ks i u w) (hp : i = p → kn.holds W u w') : Ks W (ks.set p kn) i u w' := by
 intro k hk
 by_cases hip : i = p
 · subst hip
   rw [List.getElem?_set_self'] at hk
   cases hk2 : ks[i]? with
   | none => rw [hk2] at hk; cases hk
   | some k0 =>
    rw [hk2] at hk
    have hk3 : kn = k := Option.some.inj hk
    subst hk3
    exact hp rfl
 · rw [List.getElem?_set_ne (fun e => hip e.symm)] at hk
   have hlen : i < ks.length := (List.getElem?_eq_some_iff.1 hk).1
   rw [List.all_eq_true] at hv
   have h2 := hv i (List.mem_range.2 hlen)
   rw [hk] at h2
   have h3 := h k hk
   cases k with
   | val x => exact h3
   | own P hP => simp [isValB, hip] at h2
def IsNew (W : World) (arr : Array Value) (t : TypeId) (v : Value) (w : World) : Prop := ∃ g, v = .pointer (some ⟨g, 0, none⟩) ∧ W.heap.size ≤ g ∧ w.heap[g]? = some (.cells arr t (0, 0))
theorem IsNew.keep (W : World) (arr : Array Value) (t : TypeId) : ∀ v w w', Below w.heap.size w w' → IsNew W arr t v w → IsNew W arr t v w' := by
 rintro v w w' hb ⟨g, rfl, h1, h2⟩
 exact ⟨g, rfl, h1, (hb.block _ (blk_lt h2)).trans h2⟩
theorem IsNew.made {W w : World} (h : W.heap.size ≤ w.heap.size) (arr : Array Value) (t : TypeId) : IsNew W arr t (.pointer (some ⟨w.heap.size, 0, none⟩)) (w.alloc (.cells arr t)) := ⟨_, rfl, h, heap_alloc_new _ _⟩
set_option maxHeartbeats 2000000 in
theorem rAccount_c (g : XGroup) (cs : List Value) (code : Int) (w : World) (hg : GroupC w (· < w.heap.size) cs g) (hc : intBd code) (hn : g.chart.length ≤ 1000) : Calls Tryz.prog 100 #[.agg cs.toArray, .int .i64 code] w (Quiet w (findV g.chart code)) := by
 obtain ⟨Ac, cc, Ae, ce, rfl, hch, hen, hcal, hro⟩ := hg.lit
 clear hg
 obtain ⟨cur, ⟨y, m, p⟩, ch, ⟨r0, r1, r2, r3, r4, r5, r6, r7, r8, r9, r10, r11, r12, r13, r14⟩, es⟩ := g
 simp only at hch hen hro hcal hn ⊢
 have hcall0 := fun (w2 : World) (hb : Below w.heap.size w w2) => rfind_c ch Ac cc code w2 (chart_keep hch hb) hc hn
 obtain ⟨n, hnl⟩ : ∃ n, ch.length = n := ⟨_, rfl⟩
 obtain ⟨ne, hne⟩ : ∃ ne, es.length = ne := ⟨_, rfl⟩
 rw [hnl] at hcall0
 rw [hnl, hne]
 obtain ⟨o, hoo⟩ : ∃ o, accO (findA ch code) = o := ⟨_, rfl⟩
 obtain ⟨s, hss⟩ : ∃ s, (findA ch code).isSome = s := ⟨_, rfl⟩
 have e0 : findV ch code = .tuple #[.agg (accL o).toArray, .bool s] := by rw [← hoo, ← hss]; rfl
 rw [e0] at hcall0 ⊢
 have HC := Lib.hid hcall0
 clear hcall0 hnl hne hch hen hro hcal hn hoo hss e0
 show Calls Tryz.prog 100 #[.agg #[.string cur, .int .i64 y, .int .i64 m, .int .i64 p, .slice Ac n cc, .int .i64 r0, .int .i64 r1, .int .i64 r2, .int .i64 r3, .int .i64 r4, .int .i64 r5, .int .i64 r6, .int .i64 r7, .int .i64 r8, .int .i64 r9, .int .i64 r10, .int .i64 r11, .int .i64 r12, .int .i64 r13, .int .i64 r14, .slice Ae ne ce], .int .i64 code] w (Quiet w _)
 go_enter Tryz.func100, Tryz.ntmps100
 go_upto_region 1 with fail
 have H := heap_alloc_new w (.cells #[.string cur, .int .i64 y, .int .i64 m, .int .i64 p, .slice Ac n cc, .int .i64 r0, .int .i64 r1, .int .i64 r2, .int .i64 r3, .int .i64 r4, .int .i64 r5, .int .i64 r6, .int .i64 r7, .int .i64 r8, .int .i64 r9, .int .i64 r10, .int .i64 r11, .int .i64 r12, .int .i64 r13, .int .i64 r14, .slice Ae ne ce] 29)
 have HB := below1 w (.cells #[.string cur, .int .i64 y, .int .i64 m, .int .i64 p, .slice Ac n cc, .int .i64 r0, .int .i64 r1, .int .i64 r2, .int .i64 r3, .int .i64 r4, .int .i64 r5, .int .i64 r6, .int .i64 r7, .int .i64 r8, .int .i64 r9, .int .i64 r10, .int .i64 r11, .int .i64 r12, .int .i64 r13, .int .i64 r14, .slice Ae ne ce] 29)
 have HS := blk_lt H
 generalize hW : w.alloc (Obj.cells #[.string cur, .int .i64 y, .int .i64 m, .int .i64 p, .slice Ac n cc, .int .i64 r0, .int .i64 r1, .int .i64 r2, .int .i64 r3, .int .i64 r4, .int .i64 r5, .int .i64 r6, .int .i64 r7, .int .i64 r8, .int .i64 r9, .int .i64 r10, .int .i64 r11, .int .i64 r12, .int .i64 r13, .int .i64 r14, .slice Ae ne ce] 29) = W at *
 have H2 := heap_alloc_new W (.cells #[.int .i64 0, .int .i64 0, .int .i64 0, .int .i64 0] 87)
 have HB2 := below1 W (.cells #[.int .i64 0, .int .i64 0, .int .i64 0, .int .i64 0] 87)
 have H3 := alloc_keep H (Obj.cells #[.int .i64 0, .int .i64 0, .int .i64 0, .int .i64 0] 87)
 have HSS := HB.trans (HB2.mono HB.size)
 generalize hW2 : W.alloc (Obj.cells #[.int .i64 0, .int .i64 0, .int .i64 0, .int .i64 0] 87) = W2 at *
 have eW : W.heap.size = w.heap.size + 1 := by rw [← hW]; simp
 rw [eW] at H2
 clear hW hW2
 have d4 := blk_cell H3 4
 have HLT := blk_lt H2
 have HH2 := Lib.hid H2
 clear H H2 H3
 go_wp2_with fail
 refine (HC.out W2 HSS).mono ?_
 rintro e w3 ⟨rfl, hb3⟩
 have hbb := HSS.trans (hb3.mono HSS.size)
 have G0 := (hb3.block _ HLT).trans HH2.out
 obtain ⟨o1, o2, o3, o4⟩ := o
 have HG := Lib.hid G0
 clear G0
 go_wp2_with (show wpList _ _ _ (Oper.mk none (Op.store _ (Operand.tmp 4) _) _ _ _ _ :: _) _ _; refine wpList_store_row rfl 87 (.tmp 4) (.tmp 10) rfl (w.heap.size + 1) (accL ⟨o1, o2, o3, o4⟩).toArray rfl rfl 87 (accL {}).toArray HG.out (info_accS _) (accZ _) (accL_one _) ?_)
 refine bodyPost_ret (v := .tuple #[.agg (accL ⟨o1, o2, o3, o4⟩).toArray, .bool s]) (results_cell_tmp rfl _ _ (w.heap.size + 1) 87 _ (0, 0) _ rfl (heap_setRow HG.out _) Tryz.underlying87 rfl (info_accS _) _ rfl) rfl ⟨rfl, below_setRow hbb (by omega) _⟩
end Go.Proofs.YtekelchdbkjjjaaGreat
