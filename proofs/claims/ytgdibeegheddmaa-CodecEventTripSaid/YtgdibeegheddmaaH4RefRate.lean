/- The reference writer: rate, by the invariant rule. -/
import Derived.Test.YtgdibeegheddmaaH3RefS
namespace Go.Proofs.Ytgdibeegheddmaa
open Go Go.RowKit
set_option linter.unusedVariables false
set_option linter.unusedSimpArgs false
attribute [local go_sem ↓] Go.wp_at_zero Go.wp_at_succ
/-- A new row of integers; a new row of byte rows. -/
def NewInts (W w : World) (v : Value) (ns : List Int) : Prop := ∃ b, v = .slice (some ⟨b, 0, none⟩) ns.length ns.length ∧ Rd w (· < w.heap.size) (some ⟨b, 0, none⟩) ns.length 1 (iv ns)
def Parts (w : World) (vs : List Value) (Ls : List (List UInt8)) : Prop := ∀ i (hi : i < Ls.length), ∃ A c, vs[i]? = some (.slice A Ls[i].length c) ∧ Rd w (· < w.heap.size) A Ls[i].length 1 (bv Ls[i])
def NewParts (W w : World) (v : Value) (Ls : List (List UInt8)) : Prop := ∃ b vs, v = .slice (some ⟨b, 0, none⟩) Ls.length Ls.length ∧ Rd w (· < w.heap.size) (some ⟨b, 0, none⟩) Ls.length 1 vs ∧ Parts w vs Ls
theorem Parts.keep {w w' : World} {vs : List Value} {Ls : List (List UInt8)} (h : Parts w vs Ls) (hb : Below w.heap.size w w') : Parts w' vs Ls := fun i hi => by
  obtain ⟨A, c, h1, h2⟩ := h i hi
  exact ⟨A, c, h1, h2.keep hb⟩
theorem NewInts.keep {W w w' : World} {v : Value} {ns : List Int} (h : NewInts W w v ns) (hb : Below w.heap.size w w') : NewInts W w' v ns := by
  obtain ⟨b, h1, h2⟩ := h
  exact ⟨b, h1, h2.keep hb⟩
theorem NewParts.keep {W w w' : World} {v : Value} {Ls : List (List UInt8)} (h : NewParts W w v Ls) (hb : Below w.heap.size w w') : NewParts W w' v Ls := by
  obtain ⟨b, vs, h1, h2, h3⟩ := h
  exact ⟨b, vs, h1, h2.keep hb, h3.keep hb⟩
/-- What an operation's value is. -/
inductive Kind where
  | val (v : Value)
  | ints (ns : List Int)
  | row (L : List UInt8)
  | parts (Ls : List (List UInt8))
  | own (P : Value → World → Prop) (hP : ∀ v w w', Below w.heap.size w w' → P v w → P v w')
def Kind.holds (W : World) (k : Kind) (v : Value) (w : World) : Prop := match k with
  | .val u => v = u
  | .ints ns => NewInts W w v ns
  | .row L => NewBytes W w v L
  | .parts Ls => NewParts W w v Ls
  | .own P _ => P v w
theorem Kind.keep {W w w' : World} {k : Kind} {v : Value} (h : k.holds W v w) (hb : Below w.heap.size w w') : k.holds W v w' := by
  cases k with
  | val u => exact h
  | ints ns => exact NewInts.keep (W := W) h hb
  | row L => exact NewBytes.keep h hb
  | parts Ls => exact NewParts.keep (W := W) h hb
  | own P hP => exact hP v w w' hb h
def Ks (W : World) (ks : List Kind) (i : Nat) (v : Value) (w : World) : Prop := ∀ k, ks[i]? = some k → k.holds W v w
theorem Ks.keep {W w w' : World} {ks : List Kind} (hb : Below w.heap.size w w') (i : Nat) (v : Value) (h : Ks W ks i v w) : Ks W ks i v w' := fun k hk => Kind.keep (h k hk) hb

theorem Ks.of {W w : World} {ks : List Kind} {i : Nat} {k : Kind} {v : Value} (hk : ks[i]? = some k) (h : k.holds W v w) : Ks W ks i v w := fun k' hk' => by rw [hk] at hk'; cases hk'; exact h
theorem Inv.slot {md : Region.Mode} {ops : Array Oper} {V : Nat → Value → World → Prop} {S : World → Prop} {a0 : Act} {listed : Array Bool} {a : Act} {w : World} (hI : Inv md ops V S a0 listed a w) {i : Nat} (hnd : ¬ Done listed i) (j : Nat) (v : Value) (h0 : a0.tmps[j]? = some v)
    (h : (ops.toList.all fun o => o.dst != some j || o.after.toList.any fun e => Region.binds md e && e.on == i) = true) : a.tmps[j]?.getD undef = v := by
  have := hI.keep hnd j v h0 h
  simpa [Act.eval, Array.getD_eq_getD_getElem?] using this
theorem Inv.dep {md : Region.Mode} {ops : Array Oper} {W : World} {ks : List Kind} {S : World → Prop} {a0 : Act} {listed : Array Bool} {a : Act} {w : World} (hI : Inv md ops (Ks W ks) S a0 listed a w) {o : Oper} (hd : ∀ e ∈ o.after, Region.binds md e = true → Done listed e.on) (j d : Nat) {oj : Oper} {k : Kind} (hk : ks[j]? = some k) (hj : ops[j]? = some oj) (hjd : oj.dst = some d)
    (h : (o.after.toList.any fun e => Region.binds md e && e.on == j) = true) : ∃ v, a.tmps[d]?.getD undef = v ∧ k.holds W v w := by
  obtain ⟨v, hv, hV⟩ := hI.val hd j hj hjd h
  exact ⟨v, by simpa [Act.eval, Array.getD_eq_getD_getElem?] using hv, hV k hk⟩
theorem Inv.depv {md : Region.Mode} {ops : Array Oper} {W : World} {ks : List Kind} {S : World → Prop} {a0 : Act} {listed : Array Bool} {a : Act} {w : World} (hI : Inv md ops (Ks W ks) S a0 listed a w) {o : Oper} (hd : ∀ e ∈ o.after, Region.binds md e = true → Done listed e.on) (j d : Nat) {oj : Oper} (v : Value) (hk : ks[j]? = some (.val v)) (hj : ops[j]? = some oj) (hjd : oj.dst = some d)
    (h : (o.after.toList.any fun e => Region.binds md e && e.on == j) = true) : a.tmps[d]?.getD undef = v := by
  obtain ⟨u, hu, hV⟩ := hI.dep hd j d hk hj hjd h
  exact hu.trans hV
theorem NewP.from {W w w' : World} {L : List UInt8} {e : Ending} (h : NewP w L e w') (hS : Below W.heap.size W w) : ∃ v, e = .returned v ∧ Below W.heap.size W w' ∧ NewBytes W w' v L ∧ Below w.heap.size w w' := by
  obtain ⟨v, he, h1, h2, h3⟩ := h
  have hb := hS.trans (h3.mono hS.size)
  exact ⟨v, he, hb, ⟨h1, fun k hk => Nat.le_trans hS.size (h2 k hk), hb⟩, h3⟩
theorem NewInts.made {W w : World} (ns : List Int) (n : Nat) (hn : ns.length = n) (b : Nat) (hb : b = w.heap.size) (arr : Array Value) (ha : arr = (iv ns).toArray) : NewInts W (w.alloc (.cells arr 3)) (.slice (some ⟨b, 0, none⟩) n n) ns := by
  subst hn ha hb
  exact ⟨_, rfl, row_rd w (iv ns) 3 _ _ rfl (by simp [iv])⟩
theorem NewParts.made {W w : World} (vs : List Value) (Ls : List (List UInt8)) (n : Nat) (hn : Ls.length = n) (hv : vs.length = n) (b : Nat) (hb : b = w.heap.size) (arr : Array Value) (ha : arr = vs.toArray) (hp : Parts w vs Ls) : NewParts W (w.alloc (.cells arr 22)) (.slice (some ⟨b, 0, none⟩) n n) Ls := by
  subst hn ha hb
  exact ⟨_, vs, rfl, row_rd w vs 22 _ _ rfl hv, hp.keep (below1 w _)⟩
theorem Parts.nil (w : World) : Parts w [] [] := fun i hi => absurd hi (by simp)
theorem Parts.cons {W w : World} {v : Value} {vs : List Value} {L : List UInt8} {Ls : List (List UInt8)} (h : NewBytes W w v L) (hp : Parts w vs Ls) : Parts w (v :: vs) (L :: Ls) := fun i hi => by
  cases i with
  | zero =>
    obtain ⟨A, c, rfl, _, _⟩ := h.1.form
    exact ⟨A, c, rfl, (h.1.rd (fun k hk => h.1.lt hk)).2⟩
  | succ i => simpa using hp i (by simpa using hi)
theorem join_n (A : Option Addr) (len c : Nat) (vs : List Value) (Ls : List (List UInt8)) (L : List UInt8) (w : World) (hn : Ls.length = len) (hL : Ls.flatten = L) (h : Rd w (· < w.heap.size) A len 1 vs) (hp : Parts w vs Ls) (hl : L.length ≤ 100000000000) (hl2 : Ls.length ≤ 1000000000) :
    Calls Try.prog 64 #[.slice A len c] w (NewP w L) := by subst hn hL; exact join_c A c vs Ls w h hp hl hl2
theorem Inv.yield {md : Region.Mode} {ops : Array Oper} {W : World} {ks : List Kind} {S : World → Prop} {a0 : Act} {listed : Array Bool} {a : Act} {w : World} (hI : Inv md ops (Ks W ks) S a0 listed a w) {o : Oper} (hd : ∀ e ∈ o.after, Region.binds md e = true → Done listed e.on) (j d : Nat) {oj : Oper} (b : Bool) (hk : ks[j]? = some (.val (.bool b))) (hj : ops[j]? = some oj) (hjd : oj.dst = some d)
    (h : (o.after.toList.any fun e => Region.binds md e && e.on == j) = true) : yielded ops a.tmps j = some b := by
  simp only [List.any_eq_true, Bool.and_eq_true, beq_iff_eq] at h
  obtain ⟨e, he, hb, rfl⟩ := h
  obtain ⟨v, hv, hV⟩ := hI.got e.on oj d hj hjd (hd e (by simpa using he) hb)
  have h2 : v = .bool b := hV _ hk
  subst h2
  simp [yielded, hj, hjd, hv]
theorem wanted_yes {P : Program} {o : Oper} {a : Act} {w : World} {K : Act → World → Prop} {Q : Exit → Act → World → Prop} {E : Prop} {y : Nat → Option Bool} {j : Nat} {b : Bool} (hg : o.guard = some (j, b)) (hy : y j = some b) (h : o.wp P a w K Q) : if Region.wanted o y = true then o.wp P a w K Q else E := by
  rw [if_pos (by simp [Region.wanted, hg, hy])]; exact h
theorem wanted_no {P : Program} {o : Oper} {a : Act} {w : World} {K : Act → World → Prop} {Q : Exit → Act → World → Prop} {E : Prop} {y : Nat → Option Bool} {j : Nat} {b b' : Bool} (hg : o.guard = some (j, b)) (hy : y j = some b') (hne : (b' == b) = false) (h : E) : if Region.wanted o y = true then o.wp P a w K Q else E := by
  rw [if_neg (by simp only [Region.wanted, hg, hy]; cases b <;> cases b' <;> simp_all)]; exact h
theorem wanted_go {P : Program} {o : Oper} {a : Act} {w : World} {K : Act → World → Prop} {Q : Exit → Act → World → Prop} {E : Prop} {y : Nat → Option Bool} (hg : o.guard = none) (h : o.wp P a w K Q) : if Region.wanted o y = true then o.wp P a w K Q else E := by
  rw [if_pos (by simp [Region.wanted, hg])]; exact h

set_option maxRecDepth 100000 in
theorem rRate_n (s : ByteArray) (a b c : Int) (w : World) (hs : s.size ≤ 10000000000) (ha : intBd a) (hb : intBd b) (hc : intBd c) (L : List UInt8) (hL : encS s ++ enc a ++ enc b ++ enc c = L) :
    Calls Try.prog 36 #[.agg #[.string s, .int .i64 a, .int .i64 b, .int .i64 c]] w (NewP w L) := by
  have hLL : L.length ≤ 100000000000 := by
    have h1 := enc_len a
    have h2 := enc_len b
    have h3 := enc_len c
    have h4 := enc_len (s.size : Int)
    rw [← hL]
    simp only [encS, List.length_append, sb_length]
    omega
  have HL := Lib.hid hL
  have HLL := Lib.hid hLL
  clear hL hLL
  go_enter Try.func36, Try.ntmps36
  go_wp2_with fail
  have hbox : (w.alloc (Obj.cells #[.string s, .int .i64 a, .int .i64 b, .int .i64 c] 36)).heap[w.heap.size]? = some (Obj.cells #[.string s, .int .i64 a, .int .i64 b, .int .i64 c] 36) := heap_alloc_new w _
  generalize hW : w.alloc (Obj.cells #[.string s, .int .i64 a, .int .i64 b, .int .i64 c] 36) = W at *
  have hbW : Below w.heap.size w W := by rw [← hW]; exact below1 w _
  have hWs : w.heap.size < W.heap.size := by rw [← hW]; simp
  clear hW
  refine wp_region_inv (Ks W [.val (.pointer (some ⟨w.heap.size, 0, none⟩)), .val (.string s), .row (encS s), .val (.pointer (some ⟨w.heap.size, 1, none⟩)), .val (.int .i64 a),
    .val (.pointer (some ⟨w.heap.size, 2, none⟩)), .val (.int .i64 b), .val (.pointer (some ⟨w.heap.size, 3, none⟩)), .val (.int .i64 c), .ints [a, b, c], .row ([a, b, c].flatMap enc), .parts [encS s, [a, b, c].flatMap enc], .row L, .row L])
    (fun w' => Below W.heap.size W w') (by kernel_rfl) (by kernel_rfl) (by kernel_rfl) (Below.refl _ _).drew ?_ ?_
  · refine ⟨?_, ?_, ?_, ?_, ?_, ?_, ?_, ?_, ?_, ?_, ?_, ?_, ?_, ?_, trivial⟩
    · intro listed A w2 hI hd hnd K hK
      have e1 := hI.slot hnd 1 _ rfl (by kernel_rfl)
      have hS := hI.world
      refine wanted_go rfl ?_
      clear hI hd hnd
      go_simp
      exact hK.out _ _ hS (Ks.of rfl rfl) (fun _ _ h => h)
    · intro listed A w2 hI hd hnd K hK
      have e3 := hI.depv hd 0 3 _ rfl rfl rfl (by kernel_rfl)
      have hS := hI.world
      have hc := hS.block w.heap.size hWs
      rw [hbox] at hc
      have hc1 := blk_cell hc 0
      refine wanted_go rfl ?_
      clear hI hd hnd hc
      go_simp
      exact hK.out _ _ hS (Ks.of rfl rfl) (fun _ _ h => h)
    · intro listed A w2 hI hd hnd K hK
      have e4 := hI.depv hd 1 4 _ rfl rfl rfl (by kernel_rfl)
      have hS := hI.world
      refine wanted_go rfl ?_
      clear hI hd hnd
      go_simp
      go_at_call 40
      refine (text_c s w2 (by omega)).mono ?_
      rintro e w3 hP
      obtain ⟨v, rfl, h1, h2, h3⟩ := hP.from hS
      exact hK.out _ _ h1 (Ks.of rfl h2) (Ks.keep h3)
    · intro listed A w2 hI hd hnd K hK
      have e1 := hI.slot hnd 1 _ rfl (by kernel_rfl)
      have hS := hI.world
      refine wanted_go rfl ?_
      clear hI hd hnd
      go_simp
      exact hK.out _ _ hS (Ks.of rfl rfl) (fun _ _ h => h)
    · intro listed A w2 hI hd hnd K hK
      have e3 := hI.depv hd 3 6 _ rfl rfl rfl (by kernel_rfl)
      have hS := hI.world
      have hc := hS.block w.heap.size hWs
      rw [hbox] at hc
      have hc1 := blk_cell hc 1
      refine wanted_go rfl ?_
      clear hI hd hnd hc
      go_simp
      exact hK.out _ _ hS (Ks.of rfl rfl) (fun _ _ h => h)
    · intro listed A w2 hI hd hnd K hK
      have e1 := hI.slot hnd 1 _ rfl (by kernel_rfl)
      have hS := hI.world
      refine wanted_go rfl ?_
      clear hI hd hnd
      go_simp
      exact hK.out _ _ hS (Ks.of rfl rfl) (fun _ _ h => h)
    · intro listed A w2 hI hd hnd K hK
      have e3 := hI.depv hd 5 8 _ rfl rfl rfl (by kernel_rfl)
      have hS := hI.world
      have hc := hS.block w.heap.size hWs
      rw [hbox] at hc
      have hc1 := blk_cell hc 2
      refine wanted_go rfl ?_
      clear hI hd hnd hc
      go_simp
      exact hK.out _ _ hS (Ks.of rfl rfl) (fun _ _ h => h)
    · intro listed A w2 hI hd hnd K hK
      have e1 := hI.slot hnd 1 _ rfl (by kernel_rfl)
      have hS := hI.world
      refine wanted_go rfl ?_
      clear hI hd hnd
      go_simp
      exact hK.out _ _ hS (Ks.of rfl rfl) (fun _ _ h => h)
    · intro listed A w2 hI hd hnd K hK
      have e3 := hI.depv hd 7 10 _ rfl rfl rfl (by kernel_rfl)
      have hS := hI.world
      have hc := hS.block w.heap.size hWs
      rw [hbox] at hc
      have hc1 := blk_cell hc 3
      refine wanted_go rfl ?_
      clear hI hd hnd hc
      go_simp
      exact hK.out _ _ hS (Ks.of rfl rfl) (fun _ _ h => h)
    · intro listed A w2 hI hd hnd K hK
      have e4 := hI.depv hd 4 7 _ rfl rfl rfl (by kernel_rfl)
      have e5 := hI.depv hd 6 9 _ rfl rfl rfl (by kernel_rfl)
      have e6 := hI.depv hd 8 11 _ rfl rfl rfl (by kernel_rfl)
      have hS := hI.world
      refine wanted_go rfl ?_
      clear hI hd hnd
      go_simp
      exact hK.out _ _ (hS.alloc hS.size _) (Ks.of rfl (NewInts.made (W := W) [a, b, c] 3 rfl _ rfl _ rfl)) (Ks.keep (below1 w2 _))
    · intro listed A w2 hI hd hnd K hK
      obtain ⟨v12, e12, h12⟩ := hI.dep hd 9 12 rfl rfl rfl (by kernel_rfl)
      obtain ⟨bb, rfl, hr⟩ := h12
      have hS := hI.world
      refine wanted_go rfl ?_
      clear hI hd hnd
      go_simp
      go_at_call 41
      refine (ints_n _ _ _ [a, b, c] _ w2 rfl rfl hr (by simp [ha, hb, hc]) (by simp)).mono ?_
      rintro e w3 hP
      obtain ⟨v, rfl, h1, h2, h3⟩ := hP.from hS
      exact hK.out _ _ h1 (Ks.of rfl h2) (Ks.keep h3)
    · intro listed A w2 hI hd hnd K hK
      obtain ⟨v5, e5, h5⟩ := hI.dep hd 2 5 rfl rfl rfl (by kernel_rfl)
      obtain ⟨v13, e13, h13⟩ := hI.dep hd 10 13 rfl rfl rfl (by kernel_rfl)
      obtain ⟨A5, n5, c5, rfl⟩ := Bytes.shape h5.1
      obtain ⟨A13, n13, c13, rfl⟩ := Bytes.shape h13.1
      have hp := Parts.cons h5 (Parts.cons h13 (Parts.nil w2))
      have hS := hI.world
      have HPP := Lib.hid hp
      refine wanted_go rfl ?_
      clear hI hd hnd hp h5 h13
      go_simp
      exact hK.out _ _ (hS.alloc hS.size _) (Ks.of rfl (NewParts.made (W := W) _ [encS s, [a, b, c].flatMap enc] 2 rfl rfl _ rfl _ rfl HPP.out)) (Ks.keep (below1 w2 _))
    · intro listed A w2 hI hd hnd K hK
      obtain ⟨v14, e14, h14⟩ := hI.dep hd 11 14 rfl rfl rfl (by kernel_rfl)
      obtain ⟨bb, vs, rfl, hr, hp⟩ := h14
      have hS := hI.world
      have HPP := Lib.hid hp
      refine wanted_go rfl ?_
      clear hI hd hnd hp
      go_simp
      go_at_call 64
      refine (join_n _ _ _ vs [encS s, [a, b, c].flatMap enc] L w2 rfl (by rw [← HL.out]; simp [List.flatMap]) hr HPP.out HLL.out (by simp)).mono ?_
      rintro e w3 hP
      obtain ⟨v, rfl, h1, h2, h3⟩ := hP.from hS
      exact hK.out _ _ h1 (Ks.of rfl h2) (Ks.keep h3)
    · intro listed A w2 hI hd hnd K hK
      obtain ⟨v15, e15, h15⟩ := hI.dep hd 12 15 rfl rfl rfl (by kernel_rfl)
      have hS := hI.world
      refine wanted_go rfl ?_
      clear hI hd hnd
      go_simp
      exact hK.out _ _ hS (Ks.of rfl h15) (fun _ _ h => h)
  · intro listed A w2 hI hall
    obtain ⟨x0, g0, h0⟩ := hI.got 0 _ 3 rfl rfl (hall 0 (by decide))
    obtain ⟨x1, g1, h1⟩ := hI.got 1 _ 4 rfl rfl (hall 1 (by decide))
    obtain ⟨x2, g2, h2⟩ := hI.got 2 _ 5 rfl rfl (hall 2 (by decide))
    obtain ⟨x3, g3, h3⟩ := hI.got 3 _ 6 rfl rfl (hall 3 (by decide))
    obtain ⟨x4, g4, h4⟩ := hI.got 4 _ 7 rfl rfl (hall 4 (by decide))
    obtain ⟨x5, g5, h5⟩ := hI.got 5 _ 8 rfl rfl (hall 5 (by decide))
    obtain ⟨x6, g6, h6⟩ := hI.got 6 _ 9 rfl rfl (hall 6 (by decide))
    obtain ⟨x7, g7, h7⟩ := hI.got 7 _ 10 rfl rfl (hall 7 (by decide))
    obtain ⟨x8, g8, h8⟩ := hI.got 8 _ 11 rfl rfl (hall 8 (by decide))
    obtain ⟨x9, g9, h9⟩ := hI.got 9 _ 12 rfl rfl (hall 9 (by decide))
    obtain ⟨x10, g10, h10⟩ := hI.got 10 _ 13 rfl rfl (hall 10 (by decide))
    obtain ⟨x11, g11, h11⟩ := hI.got 11 _ 14 rfl rfl (hall 11 (by decide))
    obtain ⟨x12, g12, h12⟩ := hI.got 12 _ 15 rfl rfl (hall 12 (by decide))
    obtain ⟨x13, g13, h13⟩ := hI.got 13 _ 2 rfl rfl (hall 13 (by decide))
    have hA := hI.tmps [(3, x0), (4, x1), (5, x2), (6, x3), (7, x4), (8, x5), (9, x6), (10, x7), (11, x8), (12, x9), (13, x10), (14, x11), (15, x12), (2, x13)] (by simp only [List.mem_cons, List.not_mem_nil, or_false, forall_eq_or_imp, forall_eq]; exact ⟨g0, g1, g2, g3, g4, g5, g6, g7, g8, g9, g10, g11, g12, g13⟩) (by kernel_rfl)
    have h13' : NewBytes W w2 x13 L := h13 _ rfl
    subst hA
    simp only [setAll, List.foldl, List.setIfInBounds_toArray, List.set_cons_zero, List.set_cons_succ]
    clear hI hall h0 h1 h2 h3 h4 h5 h6 h7 h8 h9 h10 h11 h12 h13 g0 g1 g2 g3 g4 g5 g6 g7 g8 g9 g10 g11 g12 g13
    obtain ⟨v, hv, hn⟩ := NewP.below ⟨x13, rfl, h13'⟩ hbW
    injection hv with hv
    subst hv
    go_wp2_with fail
    go_ret
    exact ⟨_, rfl, hn⟩
end Go.Proofs.Ytgdibeegheddmaa
