/- The reference's less and Normal. Written by gen_q2.py. -/
import Derived.Test.YtebdajkknkapcaaG6xB0B10
import Derived.Test.YtebdajkknkapcaaG6xB14E6
import Derived.Test.YtebdajkknkapcaaG6xE8F6
import Derived.Test.YtebdajkknkapcaaG6xF4I13
import Derived.Test.YtebdajkknkapcaaG6xI14Q1
import Derived.Test.YtebdajkknkapcaaProg
set_option linter.unusedVariables false
set_option linter.unusedSimpArgs false
set_option maxRecDepth 4000
attribute [local go_sem ↓] Go.wp_at_zero Go.wp_at_succ
namespace Go.Proofs.Ytebdajkknkapcaa
open Go Go.RowKit
set_option maxHeartbeats 1000000 in
theorem less_c (x y : XLine) (w : World) : Calls Try.prog 70 #[.agg (lineL x).toArray, .agg (lineL y).toArray] w (Quiet w (.bool (lessB x y))) := by
 obtain ⟨r, hr⟩ : ∃ r, lessB x y = r := ⟨_, rfl⟩
 rw [hr]
 obtain ⟨xa, xm, xp⟩ := x
 obtain ⟨ya, ym, yp⟩ := y
 have HR := Lib.hid (show r = (decide (xa < ya) || (decide (xa = ya) && decide (xp < yp))) from hr.symm)
 clear hr
 show Calls Try.prog 70 #[.agg #[.int .i64 xa, .int .i64 xm, .int .i64 xp], .agg #[.int .i64 ya, .int .i64 ym, .int .i64 yp]] w (Quiet w (.bool r))
 go_enter Try.func70, Try.ntmps70
 go_upto_region 1 with fail
 have H := heap_alloc_new w (.cells #[.int .i64 xa, .int .i64 xm, .int .i64 xp] 64)
 have HB := below1 w (.cells #[.int .i64 xa, .int .i64 xm, .int .i64 xp] 64)
 have HS : w.heap.size < (w.alloc (.cells #[.int .i64 xa, .int .i64 xm, .int .i64 xp] 64)).heap.size := blk_lt H
 generalize hW : w.alloc (Obj.cells #[.int .i64 xa, .int .i64 xm, .int .i64 xp] 64) = W at *
 have H2 := heap_alloc_new W (.cells #[.int .i64 ya, .int .i64 ym, .int .i64 yp] 64)
 have HB2 := below1 W (.cells #[.int .i64 ya, .int .i64 ym, .int .i64 yp] 64)
 have HS2 : W.heap.size < (W.alloc (.cells #[.int .i64 ya, .int .i64 ym, .int .i64 yp] 64)).heap.size := blk_lt H2
 replace H := alloc_keep H (Obj.cells #[.int .i64 ya, .int .i64 ym, .int .i64 yp] 64)
 generalize hW2 : W.alloc (Obj.cells #[.int .i64 ya, .int .i64 ym, .int .i64 yp] 64) = W2 at *
 clear hW2
 have eW : W.heap.size = w.heap.size + 1 := by rw [← hW]; simp
 rw [eW] at H2
 clear hW
 have hb2 := HB.trans (HB2.mono HB.size)
 have hs2 := HB2.size
 have LT1 := blk_lt H2
 have LT0 : w.heap.size < W2.heap.size := by omega
 have HH := Lib.hid H
 have HZ := Lib.hid H2
 have EW := Lib.hid eW
 clear H H2 eW
 have c0 := blk_cell HH.out 0
 have c2 := blk_cell HH.out 2
 have e0 := blk_cell HZ.out 0
 have e2 := blk_cell HZ.out 2
 by_cases h1 : xa < ya
 case pos =>
  have h1d : decide (xa < ya) = true := decide_eq_true h1
  have hf := Lib.hid (show r = true from by rw [HR.out, h1d]; rfl)
  go_wp2_with fail
  go_ret
  exact ⟨by rw [hf.out]; first | done | rfl, hb2⟩
 case neg =>
 have h1d : decide (xa < ya) = false := decide_eq_false h1
 by_cases h2 : xa = ya
 case neg =>
  have h2d : (xa == ya) = false := by simpa using h2
  have hf := Lib.hid (show r = false by rw [HR.out, h1d, decide_eq_false h2]; rfl)
  clear h1 h2
  go_wp2_with fail
  go_ret
  exact ⟨by rw [hf.out]; first | done | rfl, hb2⟩
 case pos =>
 have h2d : (xa == ya) = true := by simpa using h2
 have H2 := Lib.hid h2
 clear h1
 by_cases h3 : xp < yp
 case pos =>
  have h3d : decide (xp < yp) = true := decide_eq_true h3
  have hf := Lib.hid (show r = true by rw [HR.out, h1d, decide_eq_true H2.out, h3d]; rfl)
  clear h2 h3
  go_wp2_with fail
  go_ret
  exact ⟨by rw [hf.out]; first | done | rfl, hb2⟩
 case neg =>
  have h3d : decide (xp < yp) = false := decide_eq_false h3
  have hf := Lib.hid (show r = false by rw [HR.out, h1d, decide_eq_true H2.out, h3d]; rfl)
  clear h2 h3
  go_wp2_with fail
  go_ret
  exact ⟨by rw [hf.out]; first | done | rfl, hb2⟩
theorem own_take {w : World} {base ca na k : Nat} {T : TypeId} {size : Nat} {Aa : Option Addr} {xs : List Value} (h : w.ownsRow base T size (.slice Aa na ca) na xs) (hk : k ≤ na) : w.ownsRow base T size (.slice Aa k ca) k (xs.take (k * size)) := by
 refine ⟨by rw [List.length_take, h.1, Nat.min_eq_left (Nat.mul_le_mul_right _ hk)], ?_⟩
 rcases h.2 with ⟨e, h0⟩ | ⟨g, cap, cur, e, h1, h2, h3, h4, h5, h6⟩
 · simp only [Value.slice.injEq] at e
   obtain ⟨rfl, rfl, rfl⟩ := e
   have : k = 0 := by omega
   subst this
   exact .inl ⟨rfl, rfl⟩
 · simp only [Value.slice.injEq] at e
   obtain ⟨rfl, _, rfl⟩ := e
   refine .inr ⟨g, ca, cur, rfl, h1, h2, by omega, h4, h5, ?_⟩
   rw [← h6, List.take_take, Nat.min_eq_left (Nat.mul_le_mul_right _ hk)]
theorem own_set {w : World} {base g n c j : Nat} {T : TypeId} {size : Nat} {xs : List Value} (h : w.ownsRow base T size (.slice (some ⟨g, 0, none⟩) n c) n xs) (u : Value) (hj : j < n * size) : (w.setCell ⟨g, j, none⟩ u).ownsRow base T size (.slice (some ⟨g, 0, none⟩) n c) n (xs.set j u) := by
 refine ⟨by rw [List.length_set]; exact h.1, ?_⟩
 rcases h.2 with ⟨e, _⟩ | ⟨g', cap, cur, e, h1, h2, h3, h4, h5, h6⟩
 · simp at e
 · simp only [Value.slice.injEq, Option.some.injEq, Addr.mk.injEq, and_true, true_and] at e
   obtain ⟨rfl, rfl⟩ := e
   refine .inr ⟨g, c, cur.setIfInBounds j u, rfl, h1, heap_setCell_same h2 j u, h3, h4, by simpa using h5, ?_⟩
   rw [← h6, Array.toList_setIfInBounds, List.take_set]
theorem flat_set (l : List XLine) (k : Nat) (hk : k < l.length) (a : Int) : (l.flatMap lineL).set (k * 3 + 1) (.int .i64 a) = (l.take k ++ ⟨l[k].account, a, l[k].partner⟩ :: l.drop (k + 1)).flatMap lineL := by
 induction l generalizing k with
 | nil => exact absurd hk (by simp)
 | cons x l ih =>
  cases k with
  | zero => rfl
  | succ k =>
   have h := ih k (by simpa using hk)
   have e : (k + 1) * 3 + 1 = (k * 3 + 1) + 3 := by omega
   rw [e, List.flatMap_cons]
   show (lineL x ++ l.flatMap lineL).set (k * 3 + 1 + 3) _ = lineL x ++ _
   rw [List.set_append_right _ _ (by simp [lineL])]
   simp only [lineL, List.length_cons, List.length_nil]
   rw [show k * 3 + 1 + 3 - (0 + 1 + 1 + 1) = k * 3 + 1 by omega, h]
   rfl
theorem flat_take (l : List XLine) (k : Nat) : (l.flatMap lineL).take (k * 3) = (l.take k).flatMap lineL := by
 induction l generalizing k with
 | nil => simp
 | cons x l ih =>
  cases k with
  | zero => simp
  | succ k =>
   rw [List.flatMap_cons, List.take_succ_cons, List.flatMap_cons, List.take_append, ← ih k]
   simp [lineL, Nat.add_mul]
theorem flat_drop (l : List XLine) (k : Nat) : (l.flatMap lineL).drop (k * 3) = (l.drop k).flatMap lineL := by
 induction l generalizing k with
 | nil => simp
 | cons x l ih =>
  cases k with
  | zero => simp
  | succ k =>
   rw [List.flatMap_cons, List.drop_succ_cons, List.drop_append, ← ih k]
   simp [lineL, Nat.add_mul]
theorem below_fr {B : Nat} {w w1 w2 : World} {Q : Nat → Prop} (h : Below B w w1) (hf : Fr Q w1 w2) (hQ : ∀ q, q < B → Q q) : Below B w w2 :=
 h.trans ⟨hf.os, hf.tape, hf.output, hf.size, fun k hk => hf.block k (hQ k hk)⟩
theorem own_cap {w : World} {base n c : Nat} {T : TypeId} {size : Nat} {A : Option Addr} {xs : List Value} (h : w.ownsRow base T size (.slice A n c) n xs) : n ≤ c := by
 rcases h.2 with ⟨e, h0⟩ | ⟨g, cap, cur, e, h1, h2, h3, _⟩
 · omega
 · simp only [Value.slice.injEq] at e
   omega
def IsLn (W : World) (cells : List Value) (v : Value) (w : World) : Prop := ∃ g, v = .slice (some ⟨g, 0, none⟩) 1 1 ∧ W.heap.size ≤ g ∧ w.heap[g]? = some (.cells cells.toArray 64 (0, 0))
theorem IsLn.keep (W : World) (cells : List Value) : ∀ v w w', Below w.heap.size w w' → IsLn W cells v w → IsLn W cells v w' := fun v w w' hb ⟨g, e, h1, h2⟩ => ⟨g, e, h1, (hb.block g (blk_lt h2)).trans h2⟩
theorem IsLn.grow {W w w' : World} {cells : List Value} {v : Value} {row : Option Nat} (h : IsLn W cells v w) (hg : w.grownBy w' row) (hr : ∀ q, row = some q → q < W.heap.size) : IsLn W cells v w' := by
 obtain ⟨g, e, h1, h2⟩ := h
 exact ⟨g, e, h1, (hg.block g (blk_lt h2) (fun e => by have := hr g e.symm; omega)).trans h2⟩
def PL (V : World) (base : Nat) (v0 : Value) (n : Nat) (cf : List Value) (v : Value) (w : World) : Prop := ∃ W3, Fr (fun q => q < V.heap.size ∧ v0.ownBlock ≠ some q) V W3 ∧ w.ownsRow base 64 3 v n cf ∧ W3.grownBy w v0.ownBlock ∧ (v.ownBlock = v0.ownBlock ∨ v.ownBlock = some W3.heap.size)
theorem PL.keep (V : World) (base : Nat) (v0 : Value) (n : Nat) (cf : List Value) : ∀ v w w', Below w.heap.size w w' → PL V base v0 n cf v w → PL V base v0 n cf v w' := fun v w w' hb ⟨W3, h1, h3, h4, h5⟩ => ⟨W3, h1, own_below h3 hb, h4.andThen ((grown_of_below hb).but _) (fun j hj => .inr hj), h5⟩
theorem at_el {w : World} {base g n c : Nat} {T : TypeId} {AL : List XLine} (h : w.ownsRow base T 3 (.slice (some ⟨g, 0, none⟩) n c) n (AL.flatMap lineL)) (j : Nat) (hj : j < AL.length) (y : XLine) (hy : AL[j] = y) : At w (· < w.heap.size) ⟨g, j * 3, none⟩ (lineL y) := by
 have h1 := flat_at (Q := (· < w.heap.size)) (sz := 3) lineL (fun _ => rfl) AL 0 (own_at h (h.lt g rfl).2) j y (by rw [List.getElem?_eq_getElem hj, hy])
 rw [Nat.zero_add] at h1
 exact h1
def nzL (l : List XLine) : List XLine := l.filter (fun x => decide (x.amount ≠ 0))
set_option maxHeartbeats 16000000 in
theorem rnormal_c (l : List XLine) (A : Option Addr) (c : Nat) (w : World) (hl : ListC LineC 3 w (· < w.heap.size) [.slice A l.length c] l) (hs : absL l ≤ 4611686018427387904) (hn : l.length ≤ 1000) : Calls Try.prog 29 #[.slice A l.length c] w (NormPost l w) := by
 obtain ⟨ia, hia, hzia, hsia, hbia⟩ := info_parts info_lineA
 have HL := Lib.hid hl
 have HS := Lib.hid hs
 have HLB := Lib.hid (lines_bd hl)
 obtain ⟨n, hnl⟩ : ∃ n, l.length = n := ⟨_, rfl⟩
 have HN := Lib.hid hnl
 rw [hnl] at hn ⊢
 have hn9 : n ≤ 9223372036854775807 := by omega
 clear hl hs hnl
 go_enter Try.func29, Try.ntmps29
 go_wp2_with fail
 go_loopw [3, 4] (fun v i wr => ∃ k : Nat, k ≤ n ∧ i = .int .i64 (k : Int) ∧ Below w.heap.size w wr ∧ wr.ownsRow w.heap.size 64 3 v (allL (l.take k)).length ((allL (l.take k)).flatMap lineL)) (fun _ i _ => n - (intOf i).toNat)
 case atStart => exact ⟨0, by omega, rfl, Below.refl _ _, World.ownsRow_nil _ _ _ _⟩
 case round =>
  obtain ⟨k, hk, rfl, hb, how⟩ := hrel
  obtain ⟨AL, hAL⟩ : ∃ AL, allL (l.take k) = AL := ⟨_, rfl⟩
  rw [hAL] at how
  have HAL := Lib.hid hAL
  obtain ⟨Aa, na, ca, rfl⟩ := own_shape how
  obtain rfl := own_val how
  obtain ⟨na, hna⟩ : ∃ na, AL.length = na := ⟨_, rfl⟩
  have HNA := Lib.hid hna
  rw [hna] at how
  have HOW := Lib.hid how
  have HB := Lib.hid hb
  have hnk : na ≤ k := by
   have h := allL_len (l.take k)
   rw [hAL, List.length_take] at h
   omega
  rw [hna]
  clear hAL how hna
  by_cases hlt : k < n
  case pos =>
   have hltI : (k : Int) < (n : Int) := by omega
   have hkl : k < l.length := by rw [HN.out]; exact hlt
   obtain ⟨b, o, cs, hAe, hbw, hes, hat⟩ := ListC.get HL.out k hkl
   subst hAe
   have hes1 := (LineC.lit hes).1
   subst hes1
   have HAS := Lib.hid (show allL (l.take (k + 1)) = insL AL l[k] by rw [allL_succ hkl, HAL.out])
   obtain ⟨x, hx⟩ : ∃ x, l[k] = x := ⟨_, rfl⟩
   rw [hx] at hat HAS
   have HX := Lib.hid hx
   obtain ⟨la, lm, lp⟩ := x
   try simp only at hat
   have HAT0 := Lib.hid hat
   have hnz : 0 < n := by omega
   have hb0 := hb
   clear hes hat hx hb
   rename World => U
   go_wp2_with fail
   go_loopw [5] (fun i wr2 => ∃ at_ : Nat, at_ ≤ na ∧ i = .int .i64 (at_ : Int) ∧ Below U.heap.size U wr2 ∧ ∀ j (hj : j < AL.length), j < at_ → lessB AL[j] ⟨la, lm, lp⟩ = true) (fun i _ => na - (intOf i).toNat)
   case atStart => exact ⟨0, by omega, rfl, Below.refl _ _, fun j hj h => by omega⟩
   case round =>
    obtain ⟨at_, hat_, rfl, hbV, hall⟩ := hrel
    have HALLJ := Lib.hid hall
    rename World => V
    have HBU := HB
    have HBVV := Lib.hid (HB.out.trans (hbV.mono HB.out.size))
    have HOWV := Lib.hid (own_below HOW.out hbV)
    have HATLV := Lib.hid ((HAT0.out.fr (Fr.ofBelow HBVV.out)).mono (fun q hq => Nat.lt_of_lt_of_le hq HBVV.out.size))
    have HBVU := Lib.hid hbV
    clear hbV hall hb0
    rcases Nat.lt_or_eq_of_le hat_ with hlt2 | heq2
    case inl =>
     have hnap : 0 < na := by omega
     obtain ⟨gA, ca', heq0, hgA, hgAw⟩ := HOWV.out.form hnap
     simp only [Value.slice.injEq, true_and] at heq0
     obtain ⟨rfl, rfl⟩ := heq0
     have HGA := Lib.hid hgA
     have HGAW := Lib.hid hgAw
     have hjl : at_ < AL.length := by rw [HNA.out]; exact hlt2
     obtain ⟨y, hy⟩ : ∃ y, AL[at_] = y := ⟨_, rfl⟩
     have HY := Lib.hid hy
     clear hy hgA hgAw
     obtain ⟨ya, ym, yp⟩ := y
     have HATYV := Lib.hid (at_el HOWV.out at_ hjl _ HY.out)
     obtain ⟨s1, hs1⟩ : ∃ s, lessB ⟨ya, ym, yp⟩ ⟨la, lm, lp⟩ = s := ⟨_, rfl⟩
     have HS1 := Lib.hid hs1
     have HLS1 := Lib.hid (show ∀ wx, Calls Try.prog 70 #[.agg #[.int .i64 ya, .int .i64 ym, .int .i64 yp], .agg #[.int .i64 la, .int .i64 lm, .int .i64 lp]] wx (Quiet wx (.bool s1)) from fun wx => hs1 ▸ less_c ⟨ya, ym, yp⟩ ⟨la, lm, lp⟩ wx)
     obtain ⟨s2, hs2⟩ : ∃ s, lessB ⟨la, lm, lp⟩ ⟨ya, ym, yp⟩ = s := ⟨_, rfl⟩
     have HS2 := Lib.hid hs2
     have HLS2 := Lib.hid (show ∀ wx, Calls Try.prog 70 #[.agg #[.int .i64 la, .int .i64 lm, .int .i64 lp], .agg #[.int .i64 ya, .int .i64 ym, .int .i64 yp]] wx (Quiet wx (.bool s2)) from fun wx => hs2 ▸ less_c ⟨la, lm, lp⟩ ⟨ya, ym, yp⟩ wx)
     have hltI2 : (at_ : Int) < (na : Int) := by omega
     have hltd : decide ((at_ : Int) < (na : Int)) = true := decide_eq_true hltI2
     clear hs1 hs2
     go_upto_region 6 with fail
     cases s1 with
     | true =>
      refine wp_region_inv (Ks V [.val (.int .i64 (at_ : Int)), .val (.slice (some ⟨gA, 0, none⟩) na ca), .val (.int .i64 (na : Int)), .val (.bool true), .val (.bool true), .val (.slice (some ⟨gA, 0, none⟩) na ca), .val (.int .i64 (at_ : Int)), .val (.pointer (some ⟨gA, at_ * 3, none⟩)), .val (.agg #[.int .i64 ya, .int .i64 ym, .int .i64 yp]), .val (.slice (some ⟨b, o, none⟩) n c), .val (.int .i64 (k : Int)), .val (.pointer (some ⟨b, o + k * 3, none⟩)), .val (.agg #[.int .i64 la, .int .i64 lm, .int .i64 lp]), .val (.bool true), .val (.bool true)])
       (fun w' => Below V.heap.size V w') (by kernel_rfl) (by kernel_rfl) (by kernel_rfl) (Below.refl _ _).drew ?_ ?_
      · refine ⟨?_, ?_, ?_, ?_, ?_, ?_, ?_, ?_, ?_, ?_, ?_, ?_, ?_, ?_, ?_, trivial⟩
        · intro listed A0 w2 hI hd hnd K hK
          have e0 := hI.slot hnd 5 _ rfl (by kernel_rfl)
          have hS := hI.world
          refine wanted_go rfl ?_
          clear hI hd hnd
          go_simp
          exact kq hK hS rfl
        · intro listed A0 w2 hI hd hnd K hK
          have e0 := hI.slot hnd 3 _ rfl (by kernel_rfl)
          have hS := hI.world
          refine wanted_go rfl ?_
          clear hI hd hnd
          go_simp
          exact kq hK hS rfl
        · intro listed A0 w2 hI hd hnd K hK
          have e0 := hI.depv hd 1 16 _ rfl rfl rfl (by kernel_rfl)
          have hS := hI.world
          refine wanted_go rfl ?_
          clear hI hd hnd
          go_simp
          exact kq hK hS rfl
        · intro listed A0 w2 hI hd hnd K hK
          have e0 := hI.depv hd 0 15 _ rfl rfl rfl (by kernel_rfl)
          have e1 := hI.depv hd 2 17 _ rfl rfl rfl (by kernel_rfl)
          have hS := hI.world
          refine wanted_go rfl ?_
          clear hI hd hnd
          go_simp
          exact kq hK hS rfl
        · intro listed A0 w2 hI hd hnd K hK
          have e0 := hI.depv hd 3 18 _ rfl rfl rfl (by kernel_rfl)
          have hS := hI.world
          refine wanted_go rfl ?_
          clear hI hd hnd
          go_simp
          exact kq hK hS rfl
        · intro listed A0 w2 hI hd hnd K hK
          have e0 := hI.slot hnd 3 _ rfl (by kernel_rfl)
          have hS := hI.world
          refine wanted_yes rfl (hI.yield hd 4 19 true rfl rfl rfl (by kernel_rfl)) ?_
          clear hI hd hnd
          go_simp
          exact kq hK hS rfl
        · intro listed A0 w2 hI hd hnd K hK
          have e0 := hI.slot hnd 5 _ rfl (by kernel_rfl)
          have hS := hI.world
          refine wanted_yes rfl (hI.yield hd 4 19 true rfl rfl rfl (by kernel_rfl)) ?_
          clear hI hd hnd
          go_simp
          exact kq hK hS rfl
        · intro listed A0 w2 hI hd hnd K hK
          have e0 := hI.depv hd 5 20 _ rfl rfl rfl (by kernel_rfl)
          have e1 := hI.depv hd 6 21 _ rfl rfl rfl (by kernel_rfl)
          have hS := hI.world
          refine wanted_yes rfl (hI.yield hd 4 19 true rfl rfl rfl (by kernel_rfl)) ?_
          clear hI hd hnd
          go_simp
          exact kq hK hS rfl
        · intro listed A0 w2 hI hd hnd K hK
          have e0 := hI.depv hd 7 22 _ rfl rfl rfl (by kernel_rfl)
          have hS := hI.world
          have hrange : w2.rangeAt gA (at_ * 3) [.int .i64 ya, .int .i64 ym, .int .i64 yp] := (HATYV.out.fr (Fr.ofBelow hS)).range
          have hisize := info_line
          refine wanted_yes rfl (hI.yield hd 4 19 true rfl rfl rfl (by kernel_rfl)) ?_
          clear hI hd hnd
          refine wp_load_mid 64 (.tmp 22) rfl _ _ (by simpa [Act.eval, Array.getD_eq_getD_getElem?] using e0) _ _ hrange Try.underlying64 rfl hisize ?_
          exact kq hK hS rfl
        · intro listed A0 w2 hI hd hnd K hK
          have e0 := hI.slot hnd 0 _ rfl (by kernel_rfl)
          have hS := hI.world
          refine wanted_yes rfl (hI.yield hd 4 19 true rfl rfl rfl (by kernel_rfl)) ?_
          clear hI hd hnd
          go_simp
          exact kq hK hS rfl
        · intro listed A0 w2 hI hd hnd K hK
          have e0 := hI.slot hnd 4 _ rfl (by kernel_rfl)
          have hS := hI.world
          refine wanted_yes rfl (hI.yield hd 4 19 true rfl rfl rfl (by kernel_rfl)) ?_
          clear hI hd hnd
          go_simp
          exact kq hK hS rfl
        · intro listed A0 w2 hI hd hnd K hK
          have e0 := hI.depv hd 9 24 _ rfl rfl rfl (by kernel_rfl)
          have e1 := hI.depv hd 10 25 _ rfl rfl rfl (by kernel_rfl)
          have hS := hI.world
          refine wanted_yes rfl (hI.yield hd 4 19 true rfl rfl rfl (by kernel_rfl)) ?_
          clear hI hd hnd
          go_simp
          exact kq hK hS rfl
        · intro listed A0 w2 hI hd hnd K hK
          have e0 := hI.depv hd 11 26 _ rfl rfl rfl (by kernel_rfl)
          have hS := hI.world
          have hrange : w2.rangeAt b (o + k * 3) [.int .i64 la, .int .i64 lm, .int .i64 lp] := (HATLV.out.fr (Fr.ofBelow hS)).range
          have hisize := info_line
          refine wanted_yes rfl (hI.yield hd 4 19 true rfl rfl rfl (by kernel_rfl)) ?_
          clear hI hd hnd
          refine wp_load_mid 64 (.tmp 26) rfl _ _ (by simpa [Act.eval, Array.getD_eq_getD_getElem?] using e0) _ _ hrange Try.underlying64 rfl hisize ?_
          exact kq hK hS rfl
        · intro listed A0 w2 hI hd hnd K hK
          have e0 := hI.depv hd 8 23 _ rfl rfl rfl (by kernel_rfl)
          have e1 := hI.depv hd 12 27 _ rfl rfl rfl (by kernel_rfl)
          have hS := hI.world
          refine wanted_yes rfl (hI.yield hd 4 19 true rfl rfl rfl (by kernel_rfl)) ?_
          clear hI hd hnd
          go_simp
          go_at_call 70
          refine (HLS1.out w2).mono ?_
          rintro e w3 ⟨rfl, h3⟩
          exact hK.out _ _ (hS.trans (h3.mono hS.size)) (Ks.of rfl rfl) (Ks.keep h3)
        · intro listed A0 w2 hI hd hnd K hK
          have e0 := hI.depv hd 4 19 _ rfl rfl rfl (by kernel_rfl)
          have e1 := hI.depv hd 13 28 _ rfl rfl rfl (by kernel_rfl)
          have hS := hI.world
          refine wanted_go rfl ?_
          clear hI hd hnd
          go_simp
          exact kq hK hS rfl
      · intro listed A0 w2 hI hall
        obtain ⟨x0, g0, h0⟩ := hI.got 0 _ 15 rfl rfl (hall 0 (by decide))
        obtain ⟨x1, g1, h1⟩ := hI.got 1 _ 16 rfl rfl (hall 1 (by decide))
        obtain ⟨x2, g2, h2⟩ := hI.got 2 _ 17 rfl rfl (hall 2 (by decide))
        obtain ⟨x3, g3, h3⟩ := hI.got 3 _ 18 rfl rfl (hall 3 (by decide))
        obtain ⟨x4, g4, h4⟩ := hI.got 4 _ 19 rfl rfl (hall 4 (by decide))
        obtain ⟨x5, g5, h5⟩ := hI.got 5 _ 20 rfl rfl (hall 5 (by decide))
        obtain ⟨x6, g6, h6⟩ := hI.got 6 _ 21 rfl rfl (hall 6 (by decide))
        obtain ⟨x7, g7, h7⟩ := hI.got 7 _ 22 rfl rfl (hall 7 (by decide))
        obtain ⟨x8, g8, h8⟩ := hI.got 8 _ 23 rfl rfl (hall 8 (by decide))
        obtain ⟨x9, g9, h9⟩ := hI.got 9 _ 24 rfl rfl (hall 9 (by decide))
        obtain ⟨x10, g10, h10⟩ := hI.got 10 _ 25 rfl rfl (hall 10 (by decide))
        obtain ⟨x11, g11, h11⟩ := hI.got 11 _ 26 rfl rfl (hall 11 (by decide))
        obtain ⟨x12, g12, h12⟩ := hI.got 12 _ 27 rfl rfl (hall 12 (by decide))
        obtain ⟨x13, g13, h13⟩ := hI.got 13 _ 28 rfl rfl (hall 13 (by decide))
        obtain ⟨x14, g14, h14⟩ := hI.got 14 _ 29 rfl rfl (hall 14 (by decide))
        have hS := hI.world
        have hA : A0 = _ := hI.tmps [(15, x0), (16, x1), (17, x2), (18, x3), (19, x4), (20, x5), (21, x6), (22, x7), (23, x8), (24, x9), (25, x10), (26, x11), (27, x12), (28, x13), (29, x14)] (by simp only [List.mem_cons, List.not_mem_nil, or_false, forall_eq_or_imp, forall_eq]; exact ⟨g0, g1, g2, g3, g4, g5, g6, g7, g8, g9, g10, g11, g12, g13, g14⟩) (by kernel_rfl)
        obtain rfl : x14 = .bool true := h14 _ rfl
        clear h0 g0 h1 g1 h2 g2 h3 g3 h4 g4 h5 g5 h6 g6 h7 g7 h8 g8 h9 g9 h10 g10 h11 g11 h12 g12 h13 g13 h14 g14 hI hall
        simp only [setAll, List.foldl, List.setIfInBounds_toArray, List.set_cons_zero, List.set_cons_succ] at hA
        rw [hA]
        clear hA
        rename World => Va
        have HBVVa := Lib.hid (HBVV.out.trans (hS.mono HBVV.out.size))
        have HBSVa := Lib.hid hS
        have HOWVa := Lib.hid (own_below HOWV.out hS)
        have HATLVa := Lib.hid ((HATLV.out.fr (Fr.ofBelow hS)).mono (fun q hq => Nat.lt_of_lt_of_le hq hS.size))
        have HATYVa := Lib.hid (at_el HOWVa.out at_ hjl _ HY.out)
        clear hS
        go_wp2_with fail
        go_roundw
        case rel =>
         refine ⟨at_ + 1, by omega, congrArg (Value.int .i64) (by omega), HBVU.out.trans (HBSVa.out.mono HBVU.out.size), fun j hj h => ?_⟩
         rcases Nat.lt_or_ge j at_ with h3 | h3
         · exact HALLJ.out j hj h3
         · have e : j = at_ := by omega
           subst e
           rw [HY.out]
           exact HS1.out
        case measure => exact meas_v hlt2
     | false =>
      refine wp_region_inv (Ks V [.val (.int .i64 (at_ : Int)), .val (.slice (some ⟨gA, 0, none⟩) na ca), .val (.int .i64 (na : Int)), .val (.bool true), .val (.bool true), .val (.slice (some ⟨gA, 0, none⟩) na ca), .val (.int .i64 (at_ : Int)), .val (.pointer (some ⟨gA, at_ * 3, none⟩)), .val (.agg #[.int .i64 ya, .int .i64 ym, .int .i64 yp]), .val (.slice (some ⟨b, o, none⟩) n c), .val (.int .i64 (k : Int)), .val (.pointer (some ⟨b, o + k * 3, none⟩)), .val (.agg #[.int .i64 la, .int .i64 lm, .int .i64 lp]), .val (.bool false), .val (.bool false)])
       (fun w' => Below V.heap.size V w') (by kernel_rfl) (by kernel_rfl) (by kernel_rfl) (Below.refl _ _).drew ?_ ?_
      · refine ⟨?_, ?_, ?_, ?_, ?_, ?_, ?_, ?_, ?_, ?_, ?_, ?_, ?_, ?_, ?_, trivial⟩
        · intro listed A0 w2 hI hd hnd K hK
          have e0 := hI.slot hnd 5 _ rfl (by kernel_rfl)
          have hS := hI.world
          refine wanted_go rfl ?_
          clear hI hd hnd
          go_simp
          exact kq hK hS rfl
        · intro listed A0 w2 hI hd hnd K hK
          have e0 := hI.slot hnd 3 _ rfl (by kernel_rfl)
          have hS := hI.world
          refine wanted_go rfl ?_
          clear hI hd hnd
          go_simp
          exact kq hK hS rfl
        · intro listed A0 w2 hI hd hnd K hK
          have e0 := hI.depv hd 1 16 _ rfl rfl rfl (by kernel_rfl)
          have hS := hI.world
          refine wanted_go rfl ?_
          clear hI hd hnd
          go_simp
          exact kq hK hS rfl
        · intro listed A0 w2 hI hd hnd K hK
          have e0 := hI.depv hd 0 15 _ rfl rfl rfl (by kernel_rfl)
          have e1 := hI.depv hd 2 17 _ rfl rfl rfl (by kernel_rfl)
          have hS := hI.world
          refine wanted_go rfl ?_
          clear hI hd hnd
          go_simp
          exact kq hK hS rfl
        · intro listed A0 w2 hI hd hnd K hK
          have e0 := hI.depv hd 3 18 _ rfl rfl rfl (by kernel_rfl)
          have hS := hI.world
          refine wanted_go rfl ?_
          clear hI hd hnd
          go_simp
          exact kq hK hS rfl
        · intro listed A0 w2 hI hd hnd K hK
          have e0 := hI.slot hnd 3 _ rfl (by kernel_rfl)
          have hS := hI.world
          refine wanted_yes rfl (hI.yield hd 4 19 true rfl rfl rfl (by kernel_rfl)) ?_
          clear hI hd hnd
          go_simp
          exact kq hK hS rfl
        · intro listed A0 w2 hI hd hnd K hK
          have e0 := hI.slot hnd 5 _ rfl (by kernel_rfl)
          have hS := hI.world
          refine wanted_yes rfl (hI.yield hd 4 19 true rfl rfl rfl (by kernel_rfl)) ?_
          clear hI hd hnd
          go_simp
          exact kq hK hS rfl
        · intro listed A0 w2 hI hd hnd K hK
          have e0 := hI.depv hd 5 20 _ rfl rfl rfl (by kernel_rfl)
          have e1 := hI.depv hd 6 21 _ rfl rfl rfl (by kernel_rfl)
          have hS := hI.world
          refine wanted_yes rfl (hI.yield hd 4 19 true rfl rfl rfl (by kernel_rfl)) ?_
          clear hI hd hnd
          go_simp
          exact kq hK hS rfl
        · intro listed A0 w2 hI hd hnd K hK
          have e0 := hI.depv hd 7 22 _ rfl rfl rfl (by kernel_rfl)
          have hS := hI.world
          have hrange : w2.rangeAt gA (at_ * 3) [.int .i64 ya, .int .i64 ym, .int .i64 yp] := (HATYV.out.fr (Fr.ofBelow hS)).range
          have hisize := info_line
          refine wanted_yes rfl (hI.yield hd 4 19 true rfl rfl rfl (by kernel_rfl)) ?_
          clear hI hd hnd
          refine wp_load_mid 64 (.tmp 22) rfl _ _ (by simpa [Act.eval, Array.getD_eq_getD_getElem?] using e0) _ _ hrange Try.underlying64 rfl hisize ?_
          exact kq hK hS rfl
        · intro listed A0 w2 hI hd hnd K hK
          have e0 := hI.slot hnd 0 _ rfl (by kernel_rfl)
          have hS := hI.world
          refine wanted_yes rfl (hI.yield hd 4 19 true rfl rfl rfl (by kernel_rfl)) ?_
          clear hI hd hnd
          go_simp
          exact kq hK hS rfl
        · intro listed A0 w2 hI hd hnd K hK
          have e0 := hI.slot hnd 4 _ rfl (by kernel_rfl)
          have hS := hI.world
          refine wanted_yes rfl (hI.yield hd 4 19 true rfl rfl rfl (by kernel_rfl)) ?_
          clear hI hd hnd
          go_simp
          exact kq hK hS rfl
        · intro listed A0 w2 hI hd hnd K hK
          have e0 := hI.depv hd 9 24 _ rfl rfl rfl (by kernel_rfl)
          have e1 := hI.depv hd 10 25 _ rfl rfl rfl (by kernel_rfl)
          have hS := hI.world
          refine wanted_yes rfl (hI.yield hd 4 19 true rfl rfl rfl (by kernel_rfl)) ?_
          clear hI hd hnd
          go_simp
          exact kq hK hS rfl
        · intro listed A0 w2 hI hd hnd K hK
          have e0 := hI.depv hd 11 26 _ rfl rfl rfl (by kernel_rfl)
          have hS := hI.world
          have hrange : w2.rangeAt b (o + k * 3) [.int .i64 la, .int .i64 lm, .int .i64 lp] := (HATLV.out.fr (Fr.ofBelow hS)).range
          have hisize := info_line
          refine wanted_yes rfl (hI.yield hd 4 19 true rfl rfl rfl (by kernel_rfl)) ?_
          clear hI hd hnd
          refine wp_load_mid 64 (.tmp 26) rfl _ _ (by simpa [Act.eval, Array.getD_eq_getD_getElem?] using e0) _ _ hrange Try.underlying64 rfl hisize ?_
          exact kq hK hS rfl
        · intro listed A0 w2 hI hd hnd K hK
          have e0 := hI.depv hd 8 23 _ rfl rfl rfl (by kernel_rfl)
          have e1 := hI.depv hd 12 27 _ rfl rfl rfl (by kernel_rfl)
          have hS := hI.world
          refine wanted_yes rfl (hI.yield hd 4 19 true rfl rfl rfl (by kernel_rfl)) ?_
          clear hI hd hnd
          go_simp
          go_at_call 70
          refine (HLS1.out w2).mono ?_
          rintro e w3 ⟨rfl, h3⟩
          exact hK.out _ _ (hS.trans (h3.mono hS.size)) (Ks.of rfl rfl) (Ks.keep h3)
        · intro listed A0 w2 hI hd hnd K hK
          have e0 := hI.depv hd 4 19 _ rfl rfl rfl (by kernel_rfl)
          have e1 := hI.depv hd 13 28 _ rfl rfl rfl (by kernel_rfl)
          have hS := hI.world
          refine wanted_go rfl ?_
          clear hI hd hnd
          go_simp
          exact kq hK hS rfl
      · intro listed A0 w2 hI hall
        obtain ⟨x0, g0, h0⟩ := hI.got 0 _ 15 rfl rfl (hall 0 (by decide))
        obtain ⟨x1, g1, h1⟩ := hI.got 1 _ 16 rfl rfl (hall 1 (by decide))
        obtain ⟨x2, g2, h2⟩ := hI.got 2 _ 17 rfl rfl (hall 2 (by decide))
        obtain ⟨x3, g3, h3⟩ := hI.got 3 _ 18 rfl rfl (hall 3 (by decide))
        obtain ⟨x4, g4, h4⟩ := hI.got 4 _ 19 rfl rfl (hall 4 (by decide))
        obtain ⟨x5, g5, h5⟩ := hI.got 5 _ 20 rfl rfl (hall 5 (by decide))
        obtain ⟨x6, g6, h6⟩ := hI.got 6 _ 21 rfl rfl (hall 6 (by decide))
        obtain ⟨x7, g7, h7⟩ := hI.got 7 _ 22 rfl rfl (hall 7 (by decide))
        obtain ⟨x8, g8, h8⟩ := hI.got 8 _ 23 rfl rfl (hall 8 (by decide))
        obtain ⟨x9, g9, h9⟩ := hI.got 9 _ 24 rfl rfl (hall 9 (by decide))
        obtain ⟨x10, g10, h10⟩ := hI.got 10 _ 25 rfl rfl (hall 10 (by decide))
        obtain ⟨x11, g11, h11⟩ := hI.got 11 _ 26 rfl rfl (hall 11 (by decide))
        obtain ⟨x12, g12, h12⟩ := hI.got 12 _ 27 rfl rfl (hall 12 (by decide))
        obtain ⟨x13, g13, h13⟩ := hI.got 13 _ 28 rfl rfl (hall 13 (by decide))
        obtain ⟨x14, g14, h14⟩ := hI.got 14 _ 29 rfl rfl (hall 14 (by decide))
        have hS := hI.world
        have hA : A0 = _ := hI.tmps [(15, x0), (16, x1), (17, x2), (18, x3), (19, x4), (20, x5), (21, x6), (22, x7), (23, x8), (24, x9), (25, x10), (26, x11), (27, x12), (28, x13), (29, x14)] (by simp only [List.mem_cons, List.not_mem_nil, or_false, forall_eq_or_imp, forall_eq]; exact ⟨g0, g1, g2, g3, g4, g5, g6, g7, g8, g9, g10, g11, g12, g13, g14⟩) (by kernel_rfl)
        obtain rfl : x14 = .bool false := h14 _ rfl
        clear h0 g0 h1 g1 h2 g2 h3 g3 h4 g4 h5 g5 h6 g6 h7 g7 h8 g8 h9 g9 h10 g10 h11 g11 h12 g12 h13 g13 h14 g14 hI hall
        simp only [setAll, List.foldl, List.setIfInBounds_toArray, List.set_cons_zero, List.set_cons_succ] at hA
        rw [hA]
        clear hA
        rename World => Va
        have HBVVa := Lib.hid (HBVV.out.trans (hS.mono HBVV.out.size))
        have HBSVa := Lib.hid hS
        have HOWVa := Lib.hid (own_below HOWV.out hS)
        have HATLVa := Lib.hid ((HATLV.out.fr (Fr.ofBelow hS)).mono (fun q hq => Nat.lt_of_lt_of_le hq hS.size))
        have HATYVa := Lib.hid (at_el HOWVa.out at_ hjl _ HY.out)
        clear hS
        go_upto_region 8 with fail
        cases s2 with
        | false =>
         refine wp_region_inv (Ks Va [.val (.int .i64 (at_ : Int)), .val (.slice (some ⟨gA, 0, none⟩) na ca), .val (.int .i64 (na : Int)), .val (.bool true), .val (.bool true), .val (.slice (some ⟨b, o, none⟩) n c), .val (.int .i64 (k : Int)), .val (.pointer (some ⟨b, o + k * 3, none⟩)), .val (.agg #[.int .i64 la, .int .i64 lm, .int .i64 lp]), .val (.slice (some ⟨gA, 0, none⟩) na ca), .val (.int .i64 (at_ : Int)), .val (.pointer (some ⟨gA, at_ * 3, none⟩)), .val (.agg #[.int .i64 ya, .int .i64 ym, .int .i64 yp]), .val (.bool false), .val (.bool true), .val (.bool true)])
          (fun w' => Below Va.heap.size Va w') (by kernel_rfl) (by kernel_rfl) (by kernel_rfl) (Below.refl _ _).drew ?_ ?_
         · refine ⟨?_, ?_, ?_, ?_, ?_, ?_, ?_, ?_, ?_, ?_, ?_, ?_, ?_, ?_, ?_, ?_, trivial⟩
           · intro listed A0 w2 hI hd hnd K hK
             have e0 := hI.slot hnd 5 _ rfl (by kernel_rfl)
             have hS := hI.world
             refine wanted_go rfl ?_
             clear hI hd hnd
             go_simp
             exact kq hK hS rfl
           · intro listed A0 w2 hI hd hnd K hK
             have e0 := hI.slot hnd 3 _ rfl (by kernel_rfl)
             have hS := hI.world
             refine wanted_go rfl ?_
             clear hI hd hnd
             go_simp
             exact kq hK hS rfl
           · intro listed A0 w2 hI hd hnd K hK
             have e0 := hI.depv hd 1 33 _ rfl rfl rfl (by kernel_rfl)
             have hS := hI.world
             refine wanted_go rfl ?_
             clear hI hd hnd
             go_simp
             exact kq hK hS rfl
           · intro listed A0 w2 hI hd hnd K hK
             have e0 := hI.depv hd 0 32 _ rfl rfl rfl (by kernel_rfl)
             have e1 := hI.depv hd 2 34 _ rfl rfl rfl (by kernel_rfl)
             have hS := hI.world
             refine wanted_go rfl ?_
             clear hI hd hnd
             go_simp
             exact kq hK hS rfl
           · intro listed A0 w2 hI hd hnd K hK
             have e0 := hI.depv hd 3 35 _ rfl rfl rfl (by kernel_rfl)
             have hS := hI.world
             refine wanted_go rfl ?_
             clear hI hd hnd
             go_simp
             exact kq hK hS rfl
           · intro listed A0 w2 hI hd hnd K hK
             have e0 := hI.slot hnd 0 _ rfl (by kernel_rfl)
             have hS := hI.world
             refine wanted_yes rfl (hI.yield hd 4 36 true rfl rfl rfl (by kernel_rfl)) ?_
             clear hI hd hnd
             go_simp
             exact kq hK hS rfl
           · intro listed A0 w2 hI hd hnd K hK
             have e0 := hI.slot hnd 4 _ rfl (by kernel_rfl)
             have hS := hI.world
             refine wanted_yes rfl (hI.yield hd 4 36 true rfl rfl rfl (by kernel_rfl)) ?_
             clear hI hd hnd
             go_simp
             exact kq hK hS rfl
           · intro listed A0 w2 hI hd hnd K hK
             have e0 := hI.depv hd 5 37 _ rfl rfl rfl (by kernel_rfl)
             have e1 := hI.depv hd 6 38 _ rfl rfl rfl (by kernel_rfl)
             have hS := hI.world
             refine wanted_yes rfl (hI.yield hd 4 36 true rfl rfl rfl (by kernel_rfl)) ?_
             clear hI hd hnd
             go_simp
             exact kq hK hS rfl
           · intro listed A0 w2 hI hd hnd K hK
             have e0 := hI.depv hd 7 39 _ rfl rfl rfl (by kernel_rfl)
             have hS := hI.world
             have hrange : w2.rangeAt b (o + k * 3) [.int .i64 la, .int .i64 lm, .int .i64 lp] := (HATLVa.out.fr (Fr.ofBelow hS)).range
             have hisize := info_line
             refine wanted_yes rfl (hI.yield hd 4 36 true rfl rfl rfl (by kernel_rfl)) ?_
             clear hI hd hnd
             refine wp_load_mid 64 (.tmp 39) rfl _ _ (by simpa [Act.eval, Array.getD_eq_getD_getElem?] using e0) _ _ hrange Try.underlying64 rfl hisize ?_
             exact kq hK hS rfl
           · intro listed A0 w2 hI hd hnd K hK
             have e0 := hI.slot hnd 3 _ rfl (by kernel_rfl)
             have hS := hI.world
             refine wanted_yes rfl (hI.yield hd 4 36 true rfl rfl rfl (by kernel_rfl)) ?_
             clear hI hd hnd
             go_simp
             exact kq hK hS rfl
           · intro listed A0 w2 hI hd hnd K hK
             have e0 := hI.slot hnd 5 _ rfl (by kernel_rfl)
             have hS := hI.world
             refine wanted_yes rfl (hI.yield hd 4 36 true rfl rfl rfl (by kernel_rfl)) ?_
             clear hI hd hnd
             go_simp
             exact kq hK hS rfl
           · intro listed A0 w2 hI hd hnd K hK
             have e0 := hI.depv hd 9 41 _ rfl rfl rfl (by kernel_rfl)
             have e1 := hI.depv hd 10 42 _ rfl rfl rfl (by kernel_rfl)
             have hS := hI.world
             refine wanted_yes rfl (hI.yield hd 4 36 true rfl rfl rfl (by kernel_rfl)) ?_
             clear hI hd hnd
             go_simp
             exact kq hK hS rfl
           · intro listed A0 w2 hI hd hnd K hK
             have e0 := hI.depv hd 11 43 _ rfl rfl rfl (by kernel_rfl)
             have hS := hI.world
             have hrange : w2.rangeAt gA (at_ * 3) [.int .i64 ya, .int .i64 ym, .int .i64 yp] := (HATYVa.out.fr (Fr.ofBelow hS)).range
             have hisize := info_line
             refine wanted_yes rfl (hI.yield hd 4 36 true rfl rfl rfl (by kernel_rfl)) ?_
             clear hI hd hnd
             refine wp_load_mid 64 (.tmp 43) rfl _ _ (by simpa [Act.eval, Array.getD_eq_getD_getElem?] using e0) _ _ hrange Try.underlying64 rfl hisize ?_
             exact kq hK hS rfl
           · intro listed A0 w2 hI hd hnd K hK
             have e0 := hI.depv hd 8 40 _ rfl rfl rfl (by kernel_rfl)
             have e1 := hI.depv hd 12 44 _ rfl rfl rfl (by kernel_rfl)
             have hS := hI.world
             refine wanted_yes rfl (hI.yield hd 4 36 true rfl rfl rfl (by kernel_rfl)) ?_
             clear hI hd hnd
             go_simp
             go_at_call 70
             refine (HLS2.out w2).mono ?_
             rintro e w3 ⟨rfl, h3⟩
             exact hK.out _ _ (hS.trans (h3.mono hS.size)) (Ks.of rfl rfl) (Ks.keep h3)
           · intro listed A0 w2 hI hd hnd K hK
             have e0 := hI.depv hd 13 45 _ rfl rfl rfl (by kernel_rfl)
             have hS := hI.world
             refine wanted_yes rfl (hI.yield hd 4 36 true rfl rfl rfl (by kernel_rfl)) ?_
             clear hI hd hnd
             go_simp
             exact kq hK hS rfl
           · intro listed A0 w2 hI hd hnd K hK
             have e0 := hI.depv hd 4 36 _ rfl rfl rfl (by kernel_rfl)
             have e1 := hI.depv hd 14 46 _ rfl rfl rfl (by kernel_rfl)
             have hS := hI.world
             refine wanted_go rfl ?_
             clear hI hd hnd
             go_simp
             exact kq hK hS rfl
         · intro listed A0 w2 hI hall
           obtain ⟨x0, g0, h0⟩ := hI.got 0 _ 32 rfl rfl (hall 0 (by decide))
           obtain ⟨x1, g1, h1⟩ := hI.got 1 _ 33 rfl rfl (hall 1 (by decide))
           obtain ⟨x2, g2, h2⟩ := hI.got 2 _ 34 rfl rfl (hall 2 (by decide))
           obtain ⟨x3, g3, h3⟩ := hI.got 3 _ 35 rfl rfl (hall 3 (by decide))
           obtain ⟨x4, g4, h4⟩ := hI.got 4 _ 36 rfl rfl (hall 4 (by decide))
           obtain ⟨x5, g5, h5⟩ := hI.got 5 _ 37 rfl rfl (hall 5 (by decide))
           obtain ⟨x6, g6, h6⟩ := hI.got 6 _ 38 rfl rfl (hall 6 (by decide))
           obtain ⟨x7, g7, h7⟩ := hI.got 7 _ 39 rfl rfl (hall 7 (by decide))
           obtain ⟨x8, g8, h8⟩ := hI.got 8 _ 40 rfl rfl (hall 8 (by decide))
           obtain ⟨x9, g9, h9⟩ := hI.got 9 _ 41 rfl rfl (hall 9 (by decide))
           obtain ⟨x10, g10, h10⟩ := hI.got 10 _ 42 rfl rfl (hall 10 (by decide))
           obtain ⟨x11, g11, h11⟩ := hI.got 11 _ 43 rfl rfl (hall 11 (by decide))
           obtain ⟨x12, g12, h12⟩ := hI.got 12 _ 44 rfl rfl (hall 12 (by decide))
           obtain ⟨x13, g13, h13⟩ := hI.got 13 _ 45 rfl rfl (hall 13 (by decide))
           obtain ⟨x14, g14, h14⟩ := hI.got 14 _ 46 rfl rfl (hall 14 (by decide))
           obtain ⟨x15, g15, h15⟩ := hI.got 15 _ 47 rfl rfl (hall 15 (by decide))
           have hS := hI.world
           have hA : A0 = _ := hI.tmps [(32, x0), (33, x1), (34, x2), (35, x3), (36, x4), (37, x5), (38, x6), (39, x7), (40, x8), (41, x9), (42, x10), (43, x11), (44, x12), (45, x13), (46, x14), (47, x15)] (by simp only [List.mem_cons, List.not_mem_nil, or_false, forall_eq_or_imp, forall_eq]; exact ⟨g0, g1, g2, g3, g4, g5, g6, g7, g8, g9, g10, g11, g12, g13, g14, g15⟩) (by kernel_rfl)
           obtain rfl : x15 = .bool true := h15 _ rfl
           clear h0 g0 h1 g1 h2 g2 h3 g3 h4 g4 h5 g5 h6 g6 h7 g7 h8 g8 h9 g9 h10 g10 h11 g11 h12 g12 h13 g13 h14 g14 h15 g15 hI hall
           simp only [setAll, List.foldl, List.setIfInBounds_toArray, List.set_cons_zero, List.set_cons_succ] at hA
           rw [hA]
           clear hA
           rename World => Vb
           have HBVVb := Lib.hid (HBVVa.out.trans (hS.mono HBVVa.out.size))
           have HBSVb := Lib.hid hS
           have HOWVb := Lib.hid (own_below HOWVa.out hS)
           have HATLVb := Lib.hid ((HATLVa.out.fr (Fr.ofBelow hS)).mono (fun q hq => Nat.lt_of_lt_of_le hq hS.size))
           have HATYVb := Lib.hid (at_el HOWVb.out at_ hjl _ HY.out)
           clear hS
           go_upto_region 9 with fail
           have FY := Lib.hid (show Vb.cell? ⟨gA, at_ * 3 + 1, none⟩ = some (.int .i64 ym) from (HATYVb.out.2 1 _ rfl).1)
           have FZ := Lib.hid (show Vb.frozen? ⟨gA, at_ * 3 + 1, none⟩ = false from (HATYVb.out.2 1 _ rfl).2)
           have FL := Lib.hid (show Vb.cell? ⟨b, o + k * 3 + 1, none⟩ = some (.int .i64 lm) from (HATLVb.out.2 1 _ rfl).1)
           have HINS := Lib.hid (show allL (l.take (k + 1)) = AL.take at_ ++ mrgL ⟨ya, ym, yp⟩ ⟨la, lm, lp⟩ :: AL.drop (at_ + 1) by
            have h := insL_old (all := AL) (x := ⟨la, lm, lp⟩) at_ hjl HALLJ.out (by rw [HY.out]; exact HS1.out) (by rw [HY.out]; exact HS2.out)
            rw [HY.out] at h
            rw [HAS.out, h])
           have hsum : -4611686018427387904 ≤ ym + lm ∧ ym + lm ≤ 4611686018427387904 := by
            have h := allL_bd (l := l.take (k + 1)) (x := mrgL ⟨ya, ym, yp⟩ ⟨la, lm, lp⟩) (by rw [HINS.out]; simp)
            have h2 := absL_take l (k + 1)
            have h3 := HS.out
            have e : (mrgL ⟨ya, ym, yp⟩ ⟨la, lm, lp⟩).amount = ym + lm := rfl
            rw [e] at h
            omega
           have HWR := Lib.hid (show IntKind.i64.wrap (ym + lm) = ym + lm by rw [IntKind.wrap_i64]; omega)
           clear hsum
           refine wp_region_inv3 13 (Ks Vb [.val (.slice (some ⟨gA, 0, none⟩) na ca), .val (.int .i64 (at_ : Int)), .val (.pointer (some ⟨gA, at_ * 3, none⟩)), .val (.pointer (some ⟨gA, at_ * 3 + 1, none⟩)), .val (.int .i64 ym), .val (.slice (some ⟨b, o, none⟩) n c), .val (.int .i64 (k : Int)), .val (.pointer (some ⟨b, o + k * 3, none⟩)), .val (.pointer (some ⟨b, o + k * 3 + 1, none⟩)), .val (.int .i64 lm), .val (.int .i64 (ym + lm)), .val (.pointer (some ⟨gA, at_ * 3, none⟩)), .val (.pointer (some ⟨gA, at_ * 3 + 1, none⟩))])
            (fun w' => w' = Vb.drew) (by kernel_rfl) (by kernel_rfl) (by kernel_rfl) (by decide) (by kernel_rfl) (by kernel_rfl) (by kernel_rfl) rfl ?_ ?_
           · refine ⟨?_, ?_, ?_, ?_, ?_, ?_, ?_, ?_, ?_, ?_, ?_, ?_, ?_, trivial⟩
             · intro listed A0 w2 hI hd hnd K hK
               have e0 := hI.slot hnd 3 _ rfl (by kernel_rfl)
               have hS := Lib.hid (show w2 = Vb.drew from hI.world)
               refine wanted_go rfl ?_
               clear hI hd hnd
               go_simp
               exact kq hK hS.out rfl
             · intro listed A0 w2 hI hd hnd K hK
               have e0 := hI.slot hnd 5 _ rfl (by kernel_rfl)
               have hS := Lib.hid (show w2 = Vb.drew from hI.world)
               refine wanted_go rfl ?_
               clear hI hd hnd
               go_simp
               exact kq hK hS.out rfl
             · intro listed A0 w2 hI hd hnd K hK
               have e0 := hI.depv hd 0 48 _ rfl rfl rfl (by kernel_rfl)
               have e1 := hI.depv hd 1 49 _ rfl rfl rfl (by kernel_rfl)
               have hS := Lib.hid (show w2 = Vb.drew from hI.world)
               refine wanted_go rfl ?_
               clear hI hd hnd
               go_simp
               exact kq hK hS.out rfl
             · intro listed A0 w2 hI hd hnd K hK
               have e0 := hI.depv hd 2 50 _ rfl rfl rfl (by kernel_rfl)
               have hS := Lib.hid (show w2 = Vb.drew from hI.world)
               refine wanted_go rfl ?_
               clear hI hd hnd
               go_simp
               exact kq hK hS.out rfl
             · intro listed A0 w2 hI hd hnd K hK
               have e0 := hI.depv hd 3 51 _ rfl rfl rfl (by kernel_rfl)
               have hS := Lib.hid (show w2 = Vb.drew from hI.world)
               have hcc : w2.cell? ⟨gA, at_ * 3 + 1, none⟩ = some (.int .i64 ym) := by rw [hS.out]; exact FY.out
               refine wanted_go rfl ?_
               clear hI hd hnd
               go_simp
               exact kq hK hS.out rfl
             · intro listed A0 w2 hI hd hnd K hK
               have e0 := hI.slot hnd 0 _ rfl (by kernel_rfl)
               have hS := Lib.hid (show w2 = Vb.drew from hI.world)
               refine wanted_go rfl ?_
               clear hI hd hnd
               go_simp
               exact kq hK hS.out rfl
             · intro listed A0 w2 hI hd hnd K hK
               have e0 := hI.slot hnd 4 _ rfl (by kernel_rfl)
               have hS := Lib.hid (show w2 = Vb.drew from hI.world)
               refine wanted_go rfl ?_
               clear hI hd hnd
               go_simp
               exact kq hK hS.out rfl
             · intro listed A0 w2 hI hd hnd K hK
               have e0 := hI.depv hd 5 53 _ rfl rfl rfl (by kernel_rfl)
               have e1 := hI.depv hd 6 54 _ rfl rfl rfl (by kernel_rfl)
               have hS := Lib.hid (show w2 = Vb.drew from hI.world)
               refine wanted_go rfl ?_
               clear hI hd hnd
               go_simp
               exact kq hK hS.out rfl
             · intro listed A0 w2 hI hd hnd K hK
               have e0 := hI.depv hd 7 55 _ rfl rfl rfl (by kernel_rfl)
               have hS := Lib.hid (show w2 = Vb.drew from hI.world)
               refine wanted_go rfl ?_
               clear hI hd hnd
               go_simp
               exact kq hK hS.out rfl
             · intro listed A0 w2 hI hd hnd K hK
               have e0 := hI.depv hd 8 56 _ rfl rfl rfl (by kernel_rfl)
               have hS := Lib.hid (show w2 = Vb.drew from hI.world)
               have hcc : w2.cell? ⟨b, o + k * 3 + 1, none⟩ = some (.int .i64 lm) := by rw [hS.out]; exact FL.out
               refine wanted_go rfl ?_
               clear hI hd hnd
               go_simp
               exact kq hK hS.out rfl
             · intro listed A0 w2 hI hd hnd K hK
               have e0 := hI.depv hd 4 52 _ rfl rfl rfl (by kernel_rfl)
               have e1 := hI.depv hd 9 57 _ rfl rfl rfl (by kernel_rfl)
               have hS := Lib.hid (show w2 = Vb.drew from hI.world)
               have hwr := HWR.out
               refine wanted_go rfl ?_
               clear hI hd hnd
               go_simp
               exact kq hK hS.out rfl
             · intro listed A0 w2 hI hd hnd K hK
               have e0 := hI.depv hd 0 48 _ rfl rfl rfl (by kernel_rfl)
               have e1 := hI.depv hd 1 49 _ rfl rfl rfl (by kernel_rfl)
               have hS := Lib.hid (show w2 = Vb.drew from hI.world)
               refine wanted_go rfl ?_
               clear hI hd hnd
               go_simp
               exact kq hK hS.out rfl
             · intro listed A0 w2 hI hd hnd K hK
               have e0 := hI.depv hd 11 59 _ rfl rfl rfl (by kernel_rfl)
               have hS := Lib.hid (show w2 = Vb.drew from hI.world)
               refine wanted_go rfl ?_
               clear hI hd hnd
               go_simp
               exact kq hK hS.out rfl
           · intro A0 w2 hI
             obtain ⟨x0, g0, h0⟩ := hI.got 0 _ 48 rfl rfl rfl
             obtain ⟨x1, g1, h1⟩ := hI.got 1 _ 49 rfl rfl rfl
             obtain ⟨x2, g2, h2⟩ := hI.got 2 _ 50 rfl rfl rfl
             obtain ⟨x3, g3, h3⟩ := hI.got 3 _ 51 rfl rfl rfl
             obtain ⟨x4, g4, h4⟩ := hI.got 4 _ 52 rfl rfl rfl
             obtain ⟨x5, g5, h5⟩ := hI.got 5 _ 53 rfl rfl rfl
             obtain ⟨x6, g6, h6⟩ := hI.got 6 _ 54 rfl rfl rfl
             obtain ⟨x7, g7, h7⟩ := hI.got 7 _ 55 rfl rfl rfl
             obtain ⟨x8, g8, h8⟩ := hI.got 8 _ 56 rfl rfl rfl
             obtain ⟨x9, g9, h9⟩ := hI.got 9 _ 57 rfl rfl rfl
             obtain ⟨x10, g10, h10⟩ := hI.got 10 _ 58 rfl rfl rfl
             obtain ⟨x11, g11, h11⟩ := hI.got 11 _ 59 rfl rfl rfl
             obtain ⟨x12, g12, h12⟩ := hI.got 12 _ 60 rfl rfl rfl
             obtain rfl : w2 = Vb.drew := hI.world
             have hA : A0 = _ := hI.tmps [(48, x0), (49, x1), (50, x2), (51, x3), (52, x4), (53, x5), (54, x6), (55, x7), (56, x8), (57, x9), (58, x10), (59, x11), (60, x12)] (by simp only [List.mem_cons, List.not_mem_nil, or_false, forall_eq_or_imp, forall_eq]; exact ⟨g0, g1, g2, g3, g4, g5, g6, g7, g8, g9, g10, g11, g12⟩) (by kernel_rfl)
             obtain rfl : x10 = .int .i64 (ym + lm) := h10 _ rfl
             obtain rfl : x12 = .pointer (some ⟨gA, at_ * 3 + 1, none⟩) := h12 _ rfl
             clear h0 g0 h1 g1 h2 g2 h3 g3 h4 g4 h5 g5 h6 g6 h7 g7 h8 g8 h9 g9 h10 g10 h11 g11 h12 g12 hI
             simp only [setAll, List.foldl, List.setIfInBounds_toArray, List.set_cons_zero, List.set_cons_succ] at hA
             rw [hA]
             clear hA
             simp only [List.drop_succ_cons, List.drop_zero]
             have fc : Vb.drew.cell? ⟨gA, at_ * 3 + 1, none⟩ = some (.int .i64 ym) := FY.out
             have fz : Vb.drew.frozen? ⟨gA, at_ * 3 + 1, none⟩ = false := FZ.out
             go_wp2_with fail
             go_roundw
             case rel =>
              refine ⟨k + 1, by omega, congrArg (Value.int .i64) (by omega), ?_, ?_⟩
              · exact (show Below w.heap.size w Vb.drew from HBVVb.out.drew).setCell (HGA.out) _
              · have h := own_set (show Vb.drew.ownsRow _ _ _ _ _ _ from HOWVb.out.drew) (.int .i64 (ym + lm)) (j := at_ * 3 + 1) (by omega)
                rw [flat_set AL at_ hjl, HY.out] at h
                have e : (allL (l.take (k + 1))).length = na := by
                 rw [HINS.out, ← HNA.out]
                 simp
                 omega
                rw [e, HINS.out]
                exact h
             case measure => exact meas_v hlt
        | true =>
         refine wp_region_inv (Ks Va [.val (.int .i64 (at_ : Int)), .val (.slice (some ⟨gA, 0, none⟩) na ca), .val (.int .i64 (na : Int)), .val (.bool true), .val (.bool true), .val (.slice (some ⟨b, o, none⟩) n c), .val (.int .i64 (k : Int)), .val (.pointer (some ⟨b, o + k * 3, none⟩)), .val (.agg #[.int .i64 la, .int .i64 lm, .int .i64 lp]), .val (.slice (some ⟨gA, 0, none⟩) na ca), .val (.int .i64 (at_ : Int)), .val (.pointer (some ⟨gA, at_ * 3, none⟩)), .val (.agg #[.int .i64 ya, .int .i64 ym, .int .i64 yp]), .val (.bool true), .val (.bool false), .val (.bool false)])
          (fun w' => Below Va.heap.size Va w') (by kernel_rfl) (by kernel_rfl) (by kernel_rfl) (Below.refl _ _).drew ?_ ?_
         · refine ⟨?_, ?_, ?_, ?_, ?_, ?_, ?_, ?_, ?_, ?_, ?_, ?_, ?_, ?_, ?_, ?_, trivial⟩
           · intro listed A0 w2 hI hd hnd K hK
             have e0 := hI.slot hnd 5 _ rfl (by kernel_rfl)
             have hS := hI.world
             refine wanted_go rfl ?_
             clear hI hd hnd
             go_simp
             exact kq hK hS rfl
           · intro listed A0 w2 hI hd hnd K hK
             have e0 := hI.slot hnd 3 _ rfl (by kernel_rfl)
             have hS := hI.world
             refine wanted_go rfl ?_
             clear hI hd hnd
             go_simp
             exact kq hK hS rfl
           · intro listed A0 w2 hI hd hnd K hK
             have e0 := hI.depv hd 1 33 _ rfl rfl rfl (by kernel_rfl)
             have hS := hI.world
             refine wanted_go rfl ?_
             clear hI hd hnd
             go_simp
             exact kq hK hS rfl
           · intro listed A0 w2 hI hd hnd K hK
             have e0 := hI.depv hd 0 32 _ rfl rfl rfl (by kernel_rfl)
             have e1 := hI.depv hd 2 34 _ rfl rfl rfl (by kernel_rfl)
             have hS := hI.world
             refine wanted_go rfl ?_
             clear hI hd hnd
             go_simp
             exact kq hK hS rfl
           · intro listed A0 w2 hI hd hnd K hK
             have e0 := hI.depv hd 3 35 _ rfl rfl rfl (by kernel_rfl)
             have hS := hI.world
             refine wanted_go rfl ?_
             clear hI hd hnd
             go_simp
             exact kq hK hS rfl
           · intro listed A0 w2 hI hd hnd K hK
             have e0 := hI.slot hnd 0 _ rfl (by kernel_rfl)
             have hS := hI.world
             refine wanted_yes rfl (hI.yield hd 4 36 true rfl rfl rfl (by kernel_rfl)) ?_
             clear hI hd hnd
             go_simp
             exact kq hK hS rfl
           · intro listed A0 w2 hI hd hnd K hK
             have e0 := hI.slot hnd 4 _ rfl (by kernel_rfl)
             have hS := hI.world
             refine wanted_yes rfl (hI.yield hd 4 36 true rfl rfl rfl (by kernel_rfl)) ?_
             clear hI hd hnd
             go_simp
             exact kq hK hS rfl
           · intro listed A0 w2 hI hd hnd K hK
             have e0 := hI.depv hd 5 37 _ rfl rfl rfl (by kernel_rfl)
             have e1 := hI.depv hd 6 38 _ rfl rfl rfl (by kernel_rfl)
             have hS := hI.world
             refine wanted_yes rfl (hI.yield hd 4 36 true rfl rfl rfl (by kernel_rfl)) ?_
             clear hI hd hnd
             go_simp
             exact kq hK hS rfl
           · intro listed A0 w2 hI hd hnd K hK
             have e0 := hI.depv hd 7 39 _ rfl rfl rfl (by kernel_rfl)
             have hS := hI.world
             have hrange : w2.rangeAt b (o + k * 3) [.int .i64 la, .int .i64 lm, .int .i64 lp] := (HATLVa.out.fr (Fr.ofBelow hS)).range
             have hisize := info_line
             refine wanted_yes rfl (hI.yield hd 4 36 true rfl rfl rfl (by kernel_rfl)) ?_
             clear hI hd hnd
             refine wp_load_mid 64 (.tmp 39) rfl _ _ (by simpa [Act.eval, Array.getD_eq_getD_getElem?] using e0) _ _ hrange Try.underlying64 rfl hisize ?_
             exact kq hK hS rfl
           · intro listed A0 w2 hI hd hnd K hK
             have e0 := hI.slot hnd 3 _ rfl (by kernel_rfl)
             have hS := hI.world
             refine wanted_yes rfl (hI.yield hd 4 36 true rfl rfl rfl (by kernel_rfl)) ?_
             clear hI hd hnd
             go_simp
             exact kq hK hS rfl
           · intro listed A0 w2 hI hd hnd K hK
             have e0 := hI.slot hnd 5 _ rfl (by kernel_rfl)
             have hS := hI.world
             refine wanted_yes rfl (hI.yield hd 4 36 true rfl rfl rfl (by kernel_rfl)) ?_
             clear hI hd hnd
             go_simp
             exact kq hK hS rfl
           · intro listed A0 w2 hI hd hnd K hK
             have e0 := hI.depv hd 9 41 _ rfl rfl rfl (by kernel_rfl)
             have e1 := hI.depv hd 10 42 _ rfl rfl rfl (by kernel_rfl)
             have hS := hI.world
             refine wanted_yes rfl (hI.yield hd 4 36 true rfl rfl rfl (by kernel_rfl)) ?_
             clear hI hd hnd
             go_simp
             exact kq hK hS rfl
           · intro listed A0 w2 hI hd hnd K hK
             have e0 := hI.depv hd 11 43 _ rfl rfl rfl (by kernel_rfl)
             have hS := hI.world
             have hrange : w2.rangeAt gA (at_ * 3) [.int .i64 ya, .int .i64 ym, .int .i64 yp] := (HATYVa.out.fr (Fr.ofBelow hS)).range
             have hisize := info_line
             refine wanted_yes rfl (hI.yield hd 4 36 true rfl rfl rfl (by kernel_rfl)) ?_
             clear hI hd hnd
             refine wp_load_mid 64 (.tmp 43) rfl _ _ (by simpa [Act.eval, Array.getD_eq_getD_getElem?] using e0) _ _ hrange Try.underlying64 rfl hisize ?_
             exact kq hK hS rfl
           · intro listed A0 w2 hI hd hnd K hK
             have e0 := hI.depv hd 8 40 _ rfl rfl rfl (by kernel_rfl)
             have e1 := hI.depv hd 12 44 _ rfl rfl rfl (by kernel_rfl)
             have hS := hI.world
             refine wanted_yes rfl (hI.yield hd 4 36 true rfl rfl rfl (by kernel_rfl)) ?_
             clear hI hd hnd
             go_simp
             go_at_call 70
             refine (HLS2.out w2).mono ?_
             rintro e w3 ⟨rfl, h3⟩
             exact hK.out _ _ (hS.trans (h3.mono hS.size)) (Ks.of rfl rfl) (Ks.keep h3)
           · intro listed A0 w2 hI hd hnd K hK
             have e0 := hI.depv hd 13 45 _ rfl rfl rfl (by kernel_rfl)
             have hS := hI.world
             refine wanted_yes rfl (hI.yield hd 4 36 true rfl rfl rfl (by kernel_rfl)) ?_
             clear hI hd hnd
             go_simp
             exact kq hK hS rfl
           · intro listed A0 w2 hI hd hnd K hK
             have e0 := hI.depv hd 4 36 _ rfl rfl rfl (by kernel_rfl)
             have e1 := hI.depv hd 14 46 _ rfl rfl rfl (by kernel_rfl)
             have hS := hI.world
             refine wanted_go rfl ?_
             clear hI hd hnd
             go_simp
             exact kq hK hS rfl
         · intro listed A0 w2 hI hall
           obtain ⟨x0, g0, h0⟩ := hI.got 0 _ 32 rfl rfl (hall 0 (by decide))
           obtain ⟨x1, g1, h1⟩ := hI.got 1 _ 33 rfl rfl (hall 1 (by decide))
           obtain ⟨x2, g2, h2⟩ := hI.got 2 _ 34 rfl rfl (hall 2 (by decide))
           obtain ⟨x3, g3, h3⟩ := hI.got 3 _ 35 rfl rfl (hall 3 (by decide))
           obtain ⟨x4, g4, h4⟩ := hI.got 4 _ 36 rfl rfl (hall 4 (by decide))
           obtain ⟨x5, g5, h5⟩ := hI.got 5 _ 37 rfl rfl (hall 5 (by decide))
           obtain ⟨x6, g6, h6⟩ := hI.got 6 _ 38 rfl rfl (hall 6 (by decide))
           obtain ⟨x7, g7, h7⟩ := hI.got 7 _ 39 rfl rfl (hall 7 (by decide))
           obtain ⟨x8, g8, h8⟩ := hI.got 8 _ 40 rfl rfl (hall 8 (by decide))
           obtain ⟨x9, g9, h9⟩ := hI.got 9 _ 41 rfl rfl (hall 9 (by decide))
           obtain ⟨x10, g10, h10⟩ := hI.got 10 _ 42 rfl rfl (hall 10 (by decide))
           obtain ⟨x11, g11, h11⟩ := hI.got 11 _ 43 rfl rfl (hall 11 (by decide))
           obtain ⟨x12, g12, h12⟩ := hI.got 12 _ 44 rfl rfl (hall 12 (by decide))
           obtain ⟨x13, g13, h13⟩ := hI.got 13 _ 45 rfl rfl (hall 13 (by decide))
           obtain ⟨x14, g14, h14⟩ := hI.got 14 _ 46 rfl rfl (hall 14 (by decide))
           obtain ⟨x15, g15, h15⟩ := hI.got 15 _ 47 rfl rfl (hall 15 (by decide))
           have hS := hI.world
           have hA : A0 = _ := hI.tmps [(32, x0), (33, x1), (34, x2), (35, x3), (36, x4), (37, x5), (38, x6), (39, x7), (40, x8), (41, x9), (42, x10), (43, x11), (44, x12), (45, x13), (46, x14), (47, x15)] (by simp only [List.mem_cons, List.not_mem_nil, or_false, forall_eq_or_imp, forall_eq]; exact ⟨g0, g1, g2, g3, g4, g5, g6, g7, g8, g9, g10, g11, g12, g13, g14, g15⟩) (by kernel_rfl)
           obtain rfl : x15 = .bool false := h15 _ rfl
           clear h0 g0 h1 g1 h2 g2 h3 g3 h4 g4 h5 g5 h6 g6 h7 g7 h8 g8 h9 g9 h10 g10 h11 g11 h12 g12 h13 g13 h14 g14 h15 g15 hI hall
           simp only [setAll, List.foldl, List.setIfInBounds_toArray, List.set_cons_zero, List.set_cons_succ] at hA
           rw [hA]
           clear hA
           rename World => Vb
           have HBVVb := Lib.hid (HBVVa.out.trans (hS.mono HBVVa.out.size))
           have HBSVb := Lib.hid hS
           have HOWVb := Lib.hid (own_below HOWVa.out hS)
           have HATLVb := Lib.hid ((HATLVa.out.fr (Fr.ofBelow hS)).mono (fun q hq => Nat.lt_of_lt_of_le hq hS.size))
           have HATYVb := Lib.hid (at_el HOWVb.out at_ hjl _ HY.out)
           clear hS
           go_upto_region 10 with fail
           have HINS := Lib.hid (show allL (l.take (k + 1)) = AL.take at_ ++ ⟨la, lm, lp⟩ :: AL.drop at_ by
            have h := insL_new (all := AL) (x := ⟨la, lm, lp⟩) at_ (by rw [HNA.out]; exact hat_) HALLJ.out (fun h => by rw [HY.out]; exact ⟨HS1.out, HS2.out⟩)
            rw [HAS.out, h])
           obtain ⟨Ag, hAg⟩ : ∃ Ag : Option Addr, some (⟨gA, 0, none⟩ : Addr) = Ag := ⟨_, rfl⟩
           rw [hAg] at HOWVb
           rw [hAg]
           clear hAg
           have hnca := own_cap HOWVb.out
           obtain ⟨A1, hA1⟩ : ∃ A1, Option.map (fun x : Addr => x.add (at_ * 3)) Ag = A1 := ⟨_, rfl⟩
           have hatca : at_ ≤ ca := by omega
           have hatcaI : (at_ : Int) ≤ (ca : Int) := by omega
           have hatnaI : (at_ : Int) ≤ (na : Int) := by omega
           have hrdd := (Rd.own HOWVb.out (Q := (· < Vb.heap.size)) (fun q hq => (HOWVb.out.lt q hq).2)).cut hat_ hnca
           rw [if_neg (by omega), hA1, flat_drop] at hrdd
           have HRDD := Lib.hid hrdd
           obtain ⟨F0, hF0⟩ : ∃ F0, (AL.take at_).flatMap lineL = F0 := ⟨_, rfl⟩
           have HF0 := Lib.hid hF0
           obtain ⟨F1, hF1⟩ : ∃ F1, (AL.drop at_).flatMap lineL = F1 := ⟨_, rfl⟩
           rw [hF1] at HRDD
           have HF1 := Lib.hid hF1
           have HONE := Lib.hid (show ∀ u ∈ F1, u.oneCell' = true from hF1 ▸ flat_one _)
           obtain ⟨m6, hm6⟩ : ∃ m6, na - at_ = m6 := ⟨_, rfl⟩
           rw [hm6] at HRDD
           have HA1 := Lib.hid hA1
           have HM6 := Lib.hid (show at_ + m6 = na by omega)
           have hm6n : m6 ≤ na := by omega
           clear hrdd hF0 hF1
           go_upto_region 11 with (at_builtin; go_loud (refine wpList_app _ rfl (.tmp 61) (.tmp 64) 40 rfl Vb.heap.size 64 ia _ 3 24 lines_uty hia hzia hsia hbia rfl (by decide) (.slice (some ⟨Vb.heap.size, 0, none⟩) 0 0) 0 [] rfl (own_empty (Nat.le_refl _) (heap_alloc_new _ _)) (· < Vb.heap.size) A1 m6 (ca - at_) F1 rfl (HRDD.out.fr (Fr.ofBelow (below1 Vb _))) HONE.out (by simp only [maxLen]; omega) (by omega) (by simp) ?_); intro v9 V9 hown9 hg9 _)
           rw [Nat.zero_add, List.nil_append] at hown9
           have hob0 := hg9.size
           have HB89 := Lib.hid (show Below Vb.heap.size Vb V9 from below_grown (below1 Vb _) hg9 (fun q hq => by simp [Value.ownBlock] at hq; omega) (Nat.le_refl _))
           have HBV9 := Lib.hid (HBVVb.out.trans (HB89.out.mono HBVVb.out.size))
           have HOW9 := Lib.hid (show V9.ownsRow w.heap.size 64 3 (.slice Ag at_ ca) at_ F0 by
            have h := own_take (own_below HOWVb.out HB89.out) hat_
            rw [flat_take, HF0.out] at h
            exact h)
           have HOB9 := Lib.hid (show ∀ q, Value.ownBlock (.slice Ag at_ ca) = some q → q < V9.heap.size from fun q hq => (HOW9.out.lt q hq).2)
           have HOB8 := Lib.hid (show ∀ q, Value.ownBlock (.slice Ag at_ ca) = some q → q < Vb.heap.size from fun q hq => ((own_take HOWVb.out hat_).lt q hq).2)
           have HATL9 := Lib.hid (show At V9 (fun q => q < V9.heap.size ∧ Value.ownBlock (.slice Ag at_ ca) ≠ some q) ⟨b, o + k * 3, none⟩ [.int .i64 la, .int .i64 lm, .int .i64 lp] from ((HAT0.out.fr (Fr.ofBelow HBV9.out)).mono (fun q hq => ⟨Nat.lt_of_lt_of_le hq HBV9.out.size, fun e => absurd (HOW9.out.lt q e).1 (by omega)⟩)))
           obtain ⟨A6, m6', c6, rfl⟩ := own_shape hown9
           obtain rfl : m6 = m6' := (own_val hown9).symm
           have HOWN6 := Lib.hid hown9
           clear hown9 hg9 hob0 hA1
           refine wp_region_invW 10 (Ks V9 [.val (.slice Ag na ca), .val (.int .i64 (at_ : Int)), .val (.slice Ag at_ ca), .val (.slice (some ⟨b, o, none⟩) n c), .val (.int .i64 (k : Int)), .val (.pointer (some ⟨b, o + k * 3, none⟩)), .val (.agg #[.int .i64 la, .int .i64 lm, .int .i64 lp]), .own (IsLn V9 [.int .i64 la, .int .i64 lm, .int .i64 lp]) (IsLn.keep _ _), .own (PL V9 w.heap.size (.slice Ag at_ ca) (at_ + 1) (F0 ++ [.int .i64 la, .int .i64 lm, .int .i64 lp])) (PL.keep _ _ _ _ _), .val (.slice A6 m6 c6)])
            (fun w' => Fr (fun q => q < V9.heap.size ∧ Value.ownBlock (.slice Ag at_ ca) ≠ some q) V9 w' ∧ w'.ownsRow w.heap.size 64 3 (.slice Ag at_ ca) at_ F0) (by kernel_rfl) (by kernel_rfl) (by kernel_rfl) (by decide) (by kernel_rfl) (by kernel_rfl) (by kernel_rfl) ⟨(Fr.ofBelow ((Below.refl V9.heap.size V9).drew)).mono (fun q hq => hq.1), HOW9.out.drew⟩ ?_ ?_
           · refine ⟨?_, ?_, ?_, ?_, ?_, ?_, ?_, ?_, ?_, ?_, trivial⟩
             · intro listed A0 w2 hI hd hnd K hK
               have e0 := hI.slot hnd 3 _ rfl (by kernel_rfl)
               have hS := hI.world
               refine wanted_go rfl ?_
               clear hI hd hnd
               go_simp
               exact hK.out _ _ hS (Ks.of rfl rfl) (fun _ _ _ h => h)
             · intro listed A0 w2 hI hd hnd K hK
               have e0 := hI.slot hnd 5 _ rfl (by kernel_rfl)
               have hS := hI.world
               refine wanted_go rfl ?_
               clear hI hd hnd
               go_simp
               exact hK.out _ _ hS (Ks.of rfl rfl) (fun _ _ _ h => h)
             · intro listed A0 w2 hI hd hnd K hK
               have e0 := hI.depv hd 0 66 _ rfl rfl rfl (by kernel_rfl)
               have e1 := hI.depv hd 1 67 _ rfl rfl rfl (by kernel_rfl)
               have hS := hI.world
               refine wanted_go rfl ?_
               clear hI hd hnd
               go_simp
               exact hK.out _ _ hS (Ks.of rfl rfl) (fun _ _ _ h => h)
             · intro listed A0 w2 hI hd hnd K hK
               have e0 := hI.slot hnd 0 _ rfl (by kernel_rfl)
               have hS := hI.world
               refine wanted_go rfl ?_
               clear hI hd hnd
               go_simp
               exact hK.out _ _ hS (Ks.of rfl rfl) (fun _ _ _ h => h)
             · intro listed A0 w2 hI hd hnd K hK
               have e0 := hI.slot hnd 4 _ rfl (by kernel_rfl)
               have hS := hI.world
               refine wanted_go rfl ?_
               clear hI hd hnd
               go_simp
               exact hK.out _ _ hS (Ks.of rfl rfl) (fun _ _ _ h => h)
             · intro listed A0 w2 hI hd hnd K hK
               have e0 := hI.depv hd 3 69 _ rfl rfl rfl (by kernel_rfl)
               have e1 := hI.depv hd 4 70 _ rfl rfl rfl (by kernel_rfl)
               have hS := hI.world
               refine wanted_go rfl ?_
               clear hI hd hnd
               go_simp
               exact hK.out _ _ hS (Ks.of rfl rfl) (fun _ _ _ h => h)
             · intro listed A0 w2 hI hd hnd K hK
               have e0 := hI.depv hd 5 71 _ rfl rfl rfl (by kernel_rfl)
               have hS := hI.world
               have hrange : w2.rangeAt b (o + k * 3) [.int .i64 la, .int .i64 lm, .int .i64 lp] := (HATL9.out.fr hS.1).range
               have hisize := info_line
               refine wanted_go rfl ?_
               clear hI hd hnd
               refine wp_load_mid 64 (.tmp 71) rfl _ _ (by simpa [Act.eval, Array.getD_eq_getD_getElem?] using e0) _ _ hrange Try.underlying64 rfl hisize ?_
               exact hK.out _ _ hS (Ks.of rfl rfl) (fun _ _ _ h => h)
             · intro listed A0 w2 hI hd hnd K hK
               have e0 := hI.depv hd 6 72 _ rfl rfl rfl (by kernel_rfl)
               have hS := hI.world
               refine wanted_go rfl ?_
               clear hI hd hnd
               go_simp
               exact hK.out _ _ ⟨hS.1.alloc (fun k hk => hk.1) _, own_below hS.2 (below1 w2 _)⟩ (Ks.of rfl ⟨w2.heap.size, rfl, hS.1.size, heap_alloc_new _ _⟩) (Ks.keepW (below1 w2 _))
             · intro listed A0 w2 hI hd hnd K hK
               have e0 := hI.depv hd 2 68 _ rfl rfl rfl (by kernel_rfl)
               obtain ⟨x1, e1, h1⟩ := hI.dep hd 7 73 rfl rfl rfl (by kernel_rfl)
               have hS := hI.world
               obtain ⟨gq, rfl, hgq, hbk⟩ := h1
               refine wanted_go rfl ?_
               clear hI hd hnd
               refine wp_app2 (w := w2) (.tmp 68) (.tmp 73) 40 rfl w.heap.size 64 ia _ 3 24 lines_uty hia hzia hsia hbia rfl (by decide) (.slice Ag at_ ca) at_ F0 (by simpa [Act.eval, Array.getD_eq_getD_getElem?] using e0) hS.2 (fun _ => True) (some ⟨gq, 0, none⟩) 1 1 [.int .i64 la, .int .i64 lm, .int .i64 lp] (by simpa [Act.eval, Array.getD_eq_getD_getElem?] using e1) (rd_new hbk rfl) (by simp [Value.oneCell']) (by simp only [maxLen]; omega) (by omega) (Nat.le_trans HBV9.out.size hS.1.size) (by omega) ?_
               intro v9 w9 hown9 hold9 hg9 hat9
               exact hK.out _ _ ⟨hS.1.grown hg9 (fun k hk => hk.1) (fun k hk hq => hq.2 hk), hold9⟩ (Ks.of rfl ⟨w2, hS.1, hown9, hg9, hat9⟩) (by
                intro j u hj hV k hk
                rcases j with _ | _ | _ | _ | _ | _ | _ | _ | _ | _ | j
                all_goals first | (exact absurd rfl hj) | (cases hk; done) | (cases hk; first | exact hV _ rfl | exact IsLn.grow (hV _ rfl) hg9 HOB9.out))
             · intro listed A0 w2 hI hd hnd K hK
               have e0 := hI.slot hnd 6 _ rfl (by kernel_rfl)
               have hS := hI.world
               refine wanted_go rfl ?_
               clear hI hd hnd
               go_simp
               exact hK.out _ _ hS (Ks.of rfl rfl) (fun _ _ _ h => h)
           · intro A0 w2 hI
             obtain ⟨x0, g0, h0⟩ := hI.got 0 _ 66 rfl rfl rfl
             obtain ⟨x1, g1, h1⟩ := hI.got 1 _ 67 rfl rfl rfl
             obtain ⟨x2, g2, h2⟩ := hI.got 2 _ 68 rfl rfl rfl
             obtain ⟨x3, g3, h3⟩ := hI.got 3 _ 69 rfl rfl rfl
             obtain ⟨x4, g4, h4⟩ := hI.got 4 _ 70 rfl rfl rfl
             obtain ⟨x5, g5, h5⟩ := hI.got 5 _ 71 rfl rfl rfl
             obtain ⟨x6, g6, h6⟩ := hI.got 6 _ 72 rfl rfl rfl
             obtain ⟨x7, g7, h7⟩ := hI.got 7 _ 73 rfl rfl rfl
             obtain ⟨x8, g8, h8⟩ := hI.got 8 _ 74 rfl rfl rfl
             obtain ⟨x9, g9, h9⟩ := hI.got 9 _ 75 rfl rfl rfl
             have hS := hI.world
             obtain ⟨y76, o76⟩ : ∃ v, A0.tmps[76]? = some v := ⟨_, hI.oldHead 76 (by kernel_rfl)⟩
             obtain ⟨y3, o3⟩ : ∃ v, A0.tmps[3]? = some v := ⟨_, hI.oldHead 3 (by kernel_rfl)⟩
             have hA : A0 = _ := hI.tmps [(66, x0), (67, x1), (68, x2), (69, x3), (70, x4), (71, x5), (72, x6), (73, x7), (74, x8), (75, x9), (76, y76), (3, y3)] (by simp only [List.mem_cons, List.not_mem_nil, or_false, forall_eq_or_imp, forall_eq]; exact ⟨g0, g1, g2, g3, g4, g5, g6, g7, g8, g9, o76, o3⟩) (by kernel_rfl)
             have k8 : (PL V9 w.heap.size (.slice Ag at_ ca) (at_ + 1) (F0 ++ [.int .i64 la, .int .i64 lm, .int .i64 lp])) x8 w2 := h8 _ rfl
             obtain rfl : x9 = .slice A6 m6 c6 := h9 _ rfl
             clear h0 g0 h1 g1 h2 g2 h3 g3 h4 g4 h5 g5 h6 g6 h7 g7 h8 g8 h9 g9 o76 o3 hI
             simp only [setAll, List.foldl, List.setIfInBounds_toArray, List.set_cons_zero, List.set_cons_succ] at hA
             rw [hA]
             clear hA
             simp only [List.drop_succ_cons, List.drop_zero]
             obtain ⟨W3, hf3, hown8, hg8, hat8⟩ := k8
             have HOWN8 := Lib.hid hown8
             have HB2 := Lib.hid (below_fr HBV9.out hS.1 (fun q hq => ⟨Nat.lt_of_lt_of_le hq HBV9.out.size, fun e => absurd (HOW9.out.lt q e).1 (by omega)⟩))
             have HR6 := Lib.hid ((Rd.own HOWN6.out (Q := (fun q => q < V9.heap.size ∧ Value.ownBlock (.slice Ag at_ ca) ≠ some q)) (fun q hq => ⟨(HOWN6.out.lt q hq).2, fun e => absurd (HOB8.out q e) (by have := (HOWN6.out.lt q hq).1; omega)⟩)).fr hS.1)
             clear hf3 hown8 hg8 hat8 hS
             refine wpList_app _ rfl (.tmp 74) (.tmp 75) 40 rfl w.heap.size 64 ia _ 3 24 lines_uty hia hzia hsia hbia rfl (by decide) x8 (at_ + 1) (F0 ++ [.int .i64 la, .int .i64 lm, .int .i64 lp]) rfl HOWN8.out (fun q => q < V9.heap.size ∧ Value.ownBlock (.slice Ag at_ ca) ≠ some q) A6 m6 c6 F1 rfl HR6.out HONE.out (by simp only [maxLen]; omega) (by omega) HB2.out.size ?_
             intro v10 w10 hown10 hg10 _
             have HB10 := Lib.hid (below_grown HB2.out hg10 (fun q hq => (HOWN8.out.lt q hq).1) (Nat.le_refl _))
             have HOWN10 := Lib.hid hown10
             clear hown10 hg10
             go_wp2_with fail
             go_roundw
             case rel =>
              refine ⟨k + 1, by omega, congrArg (Value.int .i64) (by omega), HB10.out, ?_⟩
              have h := HOWN10.out
              have e1 : (allL (l.take (k + 1))).length = at_ + 1 + m6 := by
               have h1 := HM6.out
               have h2 := HNA.out
               rw [HINS.out]
               simp
               omega
              have e2 : (allL (l.take (k + 1))).flatMap lineL = F0 ++ [.int .i64 la, .int .i64 lm, .int .i64 lp] ++ F1 := by
               rw [HINS.out, List.flatMap_append, List.flatMap_cons, HF0.out, HF1.out]
               simp [lineL]
              rw [e1, e2]
              exact h
             case measure => exact meas_v hlt
    case inr =>
     have hge2 : na ≤ at_ := by omega
     clear heq2
     have hltI2 : ¬ (at_ : Int) < (na : Int) := by omega
     have hltd : decide ((at_ : Int) < (na : Int)) = false := decide_eq_false hltI2
     go_upto_region 6 with fail
     refine wp_region_inv (Ks V [.val (.int .i64 (at_ : Int)), .val (.slice Aa na ca), .val (.int .i64 (na : Int)), .val (.bool false), .val (.bool false), .val (undef), .val (undef), .val (undef), .val (undef), .val (undef), .val (undef), .val (undef), .val (undef), .val (undef), .val (.bool false)])
      (fun w' => Below V.heap.size V w') (by kernel_rfl) (by kernel_rfl) (by kernel_rfl) (Below.refl _ _).drew ?_ ?_
     · refine ⟨?_, ?_, ?_, ?_, ?_, ?_, ?_, ?_, ?_, ?_, ?_, ?_, ?_, ?_, ?_, trivial⟩
       · intro listed A0 w2 hI hd hnd K hK
         have e0 := hI.slot hnd 5 _ rfl (by kernel_rfl)
         have hS := hI.world
         refine wanted_go rfl ?_
         clear hI hd hnd
         go_simp
         exact kq hK hS rfl
       · intro listed A0 w2 hI hd hnd K hK
         have e0 := hI.slot hnd 3 _ rfl (by kernel_rfl)
         have hS := hI.world
         refine wanted_go rfl ?_
         clear hI hd hnd
         go_simp
         exact kq hK hS rfl
       · intro listed A0 w2 hI hd hnd K hK
         have e0 := hI.depv hd 1 16 _ rfl rfl rfl (by kernel_rfl)
         have hS := hI.world
         refine wanted_go rfl ?_
         clear hI hd hnd
         go_simp
         exact kq hK hS rfl
       · intro listed A0 w2 hI hd hnd K hK
         have e0 := hI.depv hd 0 15 _ rfl rfl rfl (by kernel_rfl)
         have e1 := hI.depv hd 2 17 _ rfl rfl rfl (by kernel_rfl)
         have hS := hI.world
         refine wanted_go rfl ?_
         clear hI hd hnd
         go_simp
         exact kq hK hS rfl
       · intro listed A0 w2 hI hd hnd K hK
         have e0 := hI.depv hd 3 18 _ rfl rfl rfl (by kernel_rfl)
         have hS := hI.world
         refine wanted_go rfl ?_
         clear hI hd hnd
         go_simp
         exact kq hK hS rfl
       · intro listed A0 w2 hI hd hnd K hK
         have hS := hI.world
         refine wanted_no rfl (hI.yield hd 4 19 false rfl rfl rfl (by kernel_rfl)) rfl ?_
         exact kq hK hS rfl
       · intro listed A0 w2 hI hd hnd K hK
         have hS := hI.world
         refine wanted_no rfl (hI.yield hd 4 19 false rfl rfl rfl (by kernel_rfl)) rfl ?_
         exact kq hK hS rfl
       · intro listed A0 w2 hI hd hnd K hK
         have hS := hI.world
         refine wanted_no rfl (hI.yield hd 4 19 false rfl rfl rfl (by kernel_rfl)) rfl ?_
         exact kq hK hS rfl
       · intro listed A0 w2 hI hd hnd K hK
         have hS := hI.world
         refine wanted_no rfl (hI.yield hd 4 19 false rfl rfl rfl (by kernel_rfl)) rfl ?_
         exact kq hK hS rfl
       · intro listed A0 w2 hI hd hnd K hK
         have hS := hI.world
         refine wanted_no rfl (hI.yield hd 4 19 false rfl rfl rfl (by kernel_rfl)) rfl ?_
         exact kq hK hS rfl
       · intro listed A0 w2 hI hd hnd K hK
         have hS := hI.world
         refine wanted_no rfl (hI.yield hd 4 19 false rfl rfl rfl (by kernel_rfl)) rfl ?_
         exact kq hK hS rfl
       · intro listed A0 w2 hI hd hnd K hK
         have hS := hI.world
         refine wanted_no rfl (hI.yield hd 4 19 false rfl rfl rfl (by kernel_rfl)) rfl ?_
         exact kq hK hS rfl
       · intro listed A0 w2 hI hd hnd K hK
         have hS := hI.world
         refine wanted_no rfl (hI.yield hd 4 19 false rfl rfl rfl (by kernel_rfl)) rfl ?_
         exact kq hK hS rfl
       · intro listed A0 w2 hI hd hnd K hK
         have hS := hI.world
         refine wanted_no rfl (hI.yield hd 4 19 false rfl rfl rfl (by kernel_rfl)) rfl ?_
         exact kq hK hS rfl
       · intro listed A0 w2 hI hd hnd K hK
         have e0 := hI.depv hd 4 19 _ rfl rfl rfl (by kernel_rfl)
         have e1 := hI.depv hd 13 28 _ rfl rfl rfl (by kernel_rfl)
         have hS := hI.world
         refine wanted_go rfl ?_
         clear hI hd hnd
         go_simp
         exact kq hK hS rfl
     · intro listed A0 w2 hI hall
       obtain ⟨x0, g0, h0⟩ := hI.got 0 _ 15 rfl rfl (hall 0 (by decide))
       obtain ⟨x1, g1, h1⟩ := hI.got 1 _ 16 rfl rfl (hall 1 (by decide))
       obtain ⟨x2, g2, h2⟩ := hI.got 2 _ 17 rfl rfl (hall 2 (by decide))
       obtain ⟨x3, g3, h3⟩ := hI.got 3 _ 18 rfl rfl (hall 3 (by decide))
       obtain ⟨x4, g4, h4⟩ := hI.got 4 _ 19 rfl rfl (hall 4 (by decide))
       obtain ⟨x5, g5, h5⟩ := hI.got 5 _ 20 rfl rfl (hall 5 (by decide))
       obtain ⟨x6, g6, h6⟩ := hI.got 6 _ 21 rfl rfl (hall 6 (by decide))
       obtain ⟨x7, g7, h7⟩ := hI.got 7 _ 22 rfl rfl (hall 7 (by decide))
       obtain ⟨x8, g8, h8⟩ := hI.got 8 _ 23 rfl rfl (hall 8 (by decide))
       obtain ⟨x9, g9, h9⟩ := hI.got 9 _ 24 rfl rfl (hall 9 (by decide))
       obtain ⟨x10, g10, h10⟩ := hI.got 10 _ 25 rfl rfl (hall 10 (by decide))
       obtain ⟨x11, g11, h11⟩ := hI.got 11 _ 26 rfl rfl (hall 11 (by decide))
       obtain ⟨x12, g12, h12⟩ := hI.got 12 _ 27 rfl rfl (hall 12 (by decide))
       obtain ⟨x13, g13, h13⟩ := hI.got 13 _ 28 rfl rfl (hall 13 (by decide))
       obtain ⟨x14, g14, h14⟩ := hI.got 14 _ 29 rfl rfl (hall 14 (by decide))
       have hS := hI.world
       have hA : A0 = _ := hI.tmps [(15, x0), (16, x1), (17, x2), (18, x3), (19, x4), (20, x5), (21, x6), (22, x7), (23, x8), (24, x9), (25, x10), (26, x11), (27, x12), (28, x13), (29, x14)] (by simp only [List.mem_cons, List.not_mem_nil, or_false, forall_eq_or_imp, forall_eq]; exact ⟨g0, g1, g2, g3, g4, g5, g6, g7, g8, g9, g10, g11, g12, g13, g14⟩) (by kernel_rfl)
       obtain rfl : x14 = .bool false := h14 _ rfl
       clear h0 g0 h1 g1 h2 g2 h3 g3 h4 g4 h5 g5 h6 g6 h7 g7 h8 g8 h9 g9 h10 g10 h11 g11 h12 g12 h13 g13 h14 g14 hI hall
       simp only [setAll, List.foldl, List.setIfInBounds_toArray, List.set_cons_zero, List.set_cons_succ] at hA
       rw [hA]
       clear hA
       rename World => Va
       have HBVVa := Lib.hid (HBVV.out.trans (hS.mono HBVV.out.size))
       have HBSVa := Lib.hid hS
       have HOWVa := Lib.hid (own_below HOWV.out hS)
       have HATLVa := Lib.hid ((HATLV.out.fr (Fr.ofBelow hS)).mono (fun q hq => Nat.lt_of_lt_of_le hq hS.size))
       clear hS
       go_upto_region 8 with fail
       refine wp_region_inv (Ks Va [.val (.int .i64 (at_ : Int)), .val (.slice Aa na ca), .val (.int .i64 (na : Int)), .val (.bool false), .val (.bool false), .val (undef), .val (undef), .val (undef), .val (undef), .val (undef), .val (undef), .val (undef), .val (undef), .val (undef), .val (undef), .val (.bool false)])
        (fun w' => Below Va.heap.size Va w') (by kernel_rfl) (by kernel_rfl) (by kernel_rfl) (Below.refl _ _).drew ?_ ?_
       · refine ⟨?_, ?_, ?_, ?_, ?_, ?_, ?_, ?_, ?_, ?_, ?_, ?_, ?_, ?_, ?_, ?_, trivial⟩
         · intro listed A0 w2 hI hd hnd K hK
           have e0 := hI.slot hnd 5 _ rfl (by kernel_rfl)
           have hS := hI.world
           refine wanted_go rfl ?_
           clear hI hd hnd
           go_simp
           exact kq hK hS rfl
         · intro listed A0 w2 hI hd hnd K hK
           have e0 := hI.slot hnd 3 _ rfl (by kernel_rfl)
           have hS := hI.world
           refine wanted_go rfl ?_
           clear hI hd hnd
           go_simp
           exact kq hK hS rfl
         · intro listed A0 w2 hI hd hnd K hK
           have e0 := hI.depv hd 1 33 _ rfl rfl rfl (by kernel_rfl)
           have hS := hI.world
           refine wanted_go rfl ?_
           clear hI hd hnd
           go_simp
           exact kq hK hS rfl
         · intro listed A0 w2 hI hd hnd K hK
           have e0 := hI.depv hd 0 32 _ rfl rfl rfl (by kernel_rfl)
           have e1 := hI.depv hd 2 34 _ rfl rfl rfl (by kernel_rfl)
           have hS := hI.world
           refine wanted_go rfl ?_
           clear hI hd hnd
           go_simp
           exact kq hK hS rfl
         · intro listed A0 w2 hI hd hnd K hK
           have e0 := hI.depv hd 3 35 _ rfl rfl rfl (by kernel_rfl)
           have hS := hI.world
           refine wanted_go rfl ?_
           clear hI hd hnd
           go_simp
           exact kq hK hS rfl
         · intro listed A0 w2 hI hd hnd K hK
           have hS := hI.world
           refine wanted_no rfl (hI.yield hd 4 36 false rfl rfl rfl (by kernel_rfl)) rfl ?_
           exact kq hK hS rfl
         · intro listed A0 w2 hI hd hnd K hK
           have hS := hI.world
           refine wanted_no rfl (hI.yield hd 4 36 false rfl rfl rfl (by kernel_rfl)) rfl ?_
           exact kq hK hS rfl
         · intro listed A0 w2 hI hd hnd K hK
           have hS := hI.world
           refine wanted_no rfl (hI.yield hd 4 36 false rfl rfl rfl (by kernel_rfl)) rfl ?_
           exact kq hK hS rfl
         · intro listed A0 w2 hI hd hnd K hK
           have hS := hI.world
           refine wanted_no rfl (hI.yield hd 4 36 false rfl rfl rfl (by kernel_rfl)) rfl ?_
           exact kq hK hS rfl
         · intro listed A0 w2 hI hd hnd K hK
           have hS := hI.world
           refine wanted_no rfl (hI.yield hd 4 36 false rfl rfl rfl (by kernel_rfl)) rfl ?_
           exact kq hK hS rfl
         · intro listed A0 w2 hI hd hnd K hK
           have hS := hI.world
           refine wanted_no rfl (hI.yield hd 4 36 false rfl rfl rfl (by kernel_rfl)) rfl ?_
           exact kq hK hS rfl
         · intro listed A0 w2 hI hd hnd K hK
           have hS := hI.world
           refine wanted_no rfl (hI.yield hd 4 36 false rfl rfl rfl (by kernel_rfl)) rfl ?_
           exact kq hK hS rfl
         · intro listed A0 w2 hI hd hnd K hK
           have hS := hI.world
           refine wanted_no rfl (hI.yield hd 4 36 false rfl rfl rfl (by kernel_rfl)) rfl ?_
           exact kq hK hS rfl
         · intro listed A0 w2 hI hd hnd K hK
           have hS := hI.world
           refine wanted_no rfl (hI.yield hd 4 36 false rfl rfl rfl (by kernel_rfl)) rfl ?_
           exact kq hK hS rfl
         · intro listed A0 w2 hI hd hnd K hK
           have hS := hI.world
           refine wanted_no rfl (hI.yield hd 4 36 false rfl rfl rfl (by kernel_rfl)) rfl ?_
           exact kq hK hS rfl
         · intro listed A0 w2 hI hd hnd K hK
           have e0 := hI.depv hd 4 36 _ rfl rfl rfl (by kernel_rfl)
           have e1 := hI.depv hd 14 46 _ rfl rfl rfl (by kernel_rfl)
           have hS := hI.world
           refine wanted_go rfl ?_
           clear hI hd hnd
           go_simp
           exact kq hK hS rfl
       · intro listed A0 w2 hI hall
         obtain ⟨x0, g0, h0⟩ := hI.got 0 _ 32 rfl rfl (hall 0 (by decide))
         obtain ⟨x1, g1, h1⟩ := hI.got 1 _ 33 rfl rfl (hall 1 (by decide))
         obtain ⟨x2, g2, h2⟩ := hI.got 2 _ 34 rfl rfl (hall 2 (by decide))
         obtain ⟨x3, g3, h3⟩ := hI.got 3 _ 35 rfl rfl (hall 3 (by decide))
         obtain ⟨x4, g4, h4⟩ := hI.got 4 _ 36 rfl rfl (hall 4 (by decide))
         obtain ⟨x5, g5, h5⟩ := hI.got 5 _ 37 rfl rfl (hall 5 (by decide))
         obtain ⟨x6, g6, h6⟩ := hI.got 6 _ 38 rfl rfl (hall 6 (by decide))
         obtain ⟨x7, g7, h7⟩ := hI.got 7 _ 39 rfl rfl (hall 7 (by decide))
         obtain ⟨x8, g8, h8⟩ := hI.got 8 _ 40 rfl rfl (hall 8 (by decide))
         obtain ⟨x9, g9, h9⟩ := hI.got 9 _ 41 rfl rfl (hall 9 (by decide))
         obtain ⟨x10, g10, h10⟩ := hI.got 10 _ 42 rfl rfl (hall 10 (by decide))
         obtain ⟨x11, g11, h11⟩ := hI.got 11 _ 43 rfl rfl (hall 11 (by decide))
         obtain ⟨x12, g12, h12⟩ := hI.got 12 _ 44 rfl rfl (hall 12 (by decide))
         obtain ⟨x13, g13, h13⟩ := hI.got 13 _ 45 rfl rfl (hall 13 (by decide))
         obtain ⟨x14, g14, h14⟩ := hI.got 14 _ 46 rfl rfl (hall 14 (by decide))
         obtain ⟨x15, g15, h15⟩ := hI.got 15 _ 47 rfl rfl (hall 15 (by decide))
         have hS := hI.world
         have hA : A0 = _ := hI.tmps [(32, x0), (33, x1), (34, x2), (35, x3), (36, x4), (37, x5), (38, x6), (39, x7), (40, x8), (41, x9), (42, x10), (43, x11), (44, x12), (45, x13), (46, x14), (47, x15)] (by simp only [List.mem_cons, List.not_mem_nil, or_false, forall_eq_or_imp, forall_eq]; exact ⟨g0, g1, g2, g3, g4, g5, g6, g7, g8, g9, g10, g11, g12, g13, g14, g15⟩) (by kernel_rfl)
         obtain rfl : x15 = .bool false := h15 _ rfl
         clear h0 g0 h1 g1 h2 g2 h3 g3 h4 g4 h5 g5 h6 g6 h7 g7 h8 g8 h9 g9 h10 g10 h11 g11 h12 g12 h13 g13 h14 g14 h15 g15 hI hall
         simp only [setAll, List.foldl, List.setIfInBounds_toArray, List.set_cons_zero, List.set_cons_succ] at hA
         rw [hA]
         clear hA
         rename World => Vb
         have HBVVb := Lib.hid (HBVVa.out.trans (hS.mono HBVVa.out.size))
         have HBSVb := Lib.hid hS
         have HOWVb := Lib.hid (own_below HOWVa.out hS)
         have HATLVb := Lib.hid ((HATLVa.out.fr (Fr.ofBelow hS)).mono (fun q hq => Nat.lt_of_lt_of_le hq hS.size))
         clear hS
         go_upto_region 10 with fail
         have HINS := Lib.hid (show allL (l.take (k + 1)) = AL.take at_ ++ ⟨la, lm, lp⟩ :: AL.drop at_ by
          have h := insL_new (all := AL) (x := ⟨la, lm, lp⟩) at_ (by rw [HNA.out]; exact hat_) HALLJ.out (fun h => absurd h (by rw [HNA.out]; omega))
          rw [HAS.out, h])
         have hnca := own_cap HOWVb.out
         obtain ⟨A1, hA1⟩ : ∃ A1, (if ca = at_ then (Aa : Option Addr) else Option.map (fun x : Addr => x.add (at_ * 3)) Aa) = A1 := ⟨_, rfl⟩
         have hatca : at_ ≤ ca := by omega
         have hatcaI : (at_ : Int) ≤ (ca : Int) := by omega
         have hatnaI : (at_ : Int) ≤ (na : Int) := by omega
         have hrdd := (Rd.own HOWVb.out (Q := (· < Vb.heap.size)) (fun q hq => (HOWVb.out.lt q hq).2)).cut hat_ hnca
         rw [hA1, flat_drop] at hrdd
         have HRDD := Lib.hid hrdd
         obtain ⟨F0, hF0⟩ : ∃ F0, (AL.take at_).flatMap lineL = F0 := ⟨_, rfl⟩
         have HF0 := Lib.hid hF0
         obtain ⟨F1, hF1⟩ : ∃ F1, (AL.drop at_).flatMap lineL = F1 := ⟨_, rfl⟩
         rw [hF1] at HRDD
         have HF1 := Lib.hid hF1
         have HONE := Lib.hid (show ∀ u ∈ F1, u.oneCell' = true from hF1 ▸ flat_one _)
         obtain ⟨m6, hm6⟩ : ∃ m6, na - at_ = m6 := ⟨_, rfl⟩
         rw [hm6] at HRDD
         have HA1 := Lib.hid hA1
         have HM6 := Lib.hid (show at_ + m6 = na by omega)
         have hm6n : m6 ≤ na := by omega
         clear hrdd hF0 hF1
         go_upto_region 11 with (at_builtin; go_loud (refine wpList_app _ rfl (.tmp 61) (.tmp 64) 40 rfl Vb.heap.size 64 ia _ 3 24 lines_uty hia hzia hsia hbia rfl (by decide) (.slice (some ⟨Vb.heap.size, 0, none⟩) 0 0) 0 [] rfl (own_empty (Nat.le_refl _) (heap_alloc_new _ _)) (· < Vb.heap.size) A1 m6 (ca - at_) F1 rfl (HRDD.out.fr (Fr.ofBelow (below1 Vb _))) HONE.out (by simp only [maxLen]; omega) (by omega) (by simp) ?_); intro v9 V9 hown9 hg9 _)
         rw [Nat.zero_add, List.nil_append] at hown9
         have hob0 := hg9.size
         have HB89 := Lib.hid (show Below Vb.heap.size Vb V9 from below_grown (below1 Vb _) hg9 (fun q hq => by simp [Value.ownBlock] at hq; omega) (Nat.le_refl _))
         have HBV9 := Lib.hid (HBVVb.out.trans (HB89.out.mono HBVVb.out.size))
         have HOW9 := Lib.hid (show V9.ownsRow w.heap.size 64 3 (.slice Aa at_ ca) at_ F0 by
          have h := own_take (own_below HOWVb.out HB89.out) hat_
          rw [flat_take, HF0.out] at h
          exact h)
         have HOB9 := Lib.hid (show ∀ q, Value.ownBlock (.slice Aa at_ ca) = some q → q < V9.heap.size from fun q hq => (HOW9.out.lt q hq).2)
         have HOB8 := Lib.hid (show ∀ q, Value.ownBlock (.slice Aa at_ ca) = some q → q < Vb.heap.size from fun q hq => ((own_take HOWVb.out hat_).lt q hq).2)
         have HATL9 := Lib.hid (show At V9 (fun q => q < V9.heap.size ∧ Value.ownBlock (.slice Aa at_ ca) ≠ some q) ⟨b, o + k * 3, none⟩ [.int .i64 la, .int .i64 lm, .int .i64 lp] from ((HAT0.out.fr (Fr.ofBelow HBV9.out)).mono (fun q hq => ⟨Nat.lt_of_lt_of_le hq HBV9.out.size, fun e => absurd (HOW9.out.lt q e).1 (by omega)⟩)))
         obtain ⟨A6, m6', c6, rfl⟩ := own_shape hown9
         obtain rfl : m6 = m6' := (own_val hown9).symm
         have HOWN6 := Lib.hid hown9
         clear hown9 hg9 hob0 hA1
         refine wp_region_invW 10 (Ks V9 [.val (.slice Aa na ca), .val (.int .i64 (at_ : Int)), .val (.slice Aa at_ ca), .val (.slice (some ⟨b, o, none⟩) n c), .val (.int .i64 (k : Int)), .val (.pointer (some ⟨b, o + k * 3, none⟩)), .val (.agg #[.int .i64 la, .int .i64 lm, .int .i64 lp]), .own (IsLn V9 [.int .i64 la, .int .i64 lm, .int .i64 lp]) (IsLn.keep _ _), .own (PL V9 w.heap.size (.slice Aa at_ ca) (at_ + 1) (F0 ++ [.int .i64 la, .int .i64 lm, .int .i64 lp])) (PL.keep _ _ _ _ _), .val (.slice A6 m6 c6)])
          (fun w' => Fr (fun q => q < V9.heap.size ∧ Value.ownBlock (.slice Aa at_ ca) ≠ some q) V9 w' ∧ w'.ownsRow w.heap.size 64 3 (.slice Aa at_ ca) at_ F0) (by kernel_rfl) (by kernel_rfl) (by kernel_rfl) (by decide) (by kernel_rfl) (by kernel_rfl) (by kernel_rfl) ⟨(Fr.ofBelow ((Below.refl V9.heap.size V9).drew)).mono (fun q hq => hq.1), HOW9.out.drew⟩ ?_ ?_
         · refine ⟨?_, ?_, ?_, ?_, ?_, ?_, ?_, ?_, ?_, ?_, trivial⟩
           · intro listed A0 w2 hI hd hnd K hK
             have e0 := hI.slot hnd 3 _ rfl (by kernel_rfl)
             have hS := hI.world
             refine wanted_go rfl ?_
             clear hI hd hnd
             go_simp
             exact hK.out _ _ hS (Ks.of rfl rfl) (fun _ _ _ h => h)
           · intro listed A0 w2 hI hd hnd K hK
             have e0 := hI.slot hnd 5 _ rfl (by kernel_rfl)
             have hS := hI.world
             refine wanted_go rfl ?_
             clear hI hd hnd
             go_simp
             exact hK.out _ _ hS (Ks.of rfl rfl) (fun _ _ _ h => h)
           · intro listed A0 w2 hI hd hnd K hK
             have e0 := hI.depv hd 0 66 _ rfl rfl rfl (by kernel_rfl)
             have e1 := hI.depv hd 1 67 _ rfl rfl rfl (by kernel_rfl)
             have hS := hI.world
             refine wanted_go rfl ?_
             clear hI hd hnd
             go_simp
             exact hK.out _ _ hS (Ks.of rfl rfl) (fun _ _ _ h => h)
           · intro listed A0 w2 hI hd hnd K hK
             have e0 := hI.slot hnd 0 _ rfl (by kernel_rfl)
             have hS := hI.world
             refine wanted_go rfl ?_
             clear hI hd hnd
             go_simp
             exact hK.out _ _ hS (Ks.of rfl rfl) (fun _ _ _ h => h)
           · intro listed A0 w2 hI hd hnd K hK
             have e0 := hI.slot hnd 4 _ rfl (by kernel_rfl)
             have hS := hI.world
             refine wanted_go rfl ?_
             clear hI hd hnd
             go_simp
             exact hK.out _ _ hS (Ks.of rfl rfl) (fun _ _ _ h => h)
           · intro listed A0 w2 hI hd hnd K hK
             have e0 := hI.depv hd 3 69 _ rfl rfl rfl (by kernel_rfl)
             have e1 := hI.depv hd 4 70 _ rfl rfl rfl (by kernel_rfl)
             have hS := hI.world
             refine wanted_go rfl ?_
             clear hI hd hnd
             go_simp
             exact hK.out _ _ hS (Ks.of rfl rfl) (fun _ _ _ h => h)
           · intro listed A0 w2 hI hd hnd K hK
             have e0 := hI.depv hd 5 71 _ rfl rfl rfl (by kernel_rfl)
             have hS := hI.world
             have hrange : w2.rangeAt b (o + k * 3) [.int .i64 la, .int .i64 lm, .int .i64 lp] := (HATL9.out.fr hS.1).range
             have hisize := info_line
             refine wanted_go rfl ?_
             clear hI hd hnd
             refine wp_load_mid 64 (.tmp 71) rfl _ _ (by simpa [Act.eval, Array.getD_eq_getD_getElem?] using e0) _ _ hrange Try.underlying64 rfl hisize ?_
             exact hK.out _ _ hS (Ks.of rfl rfl) (fun _ _ _ h => h)
           · intro listed A0 w2 hI hd hnd K hK
             have e0 := hI.depv hd 6 72 _ rfl rfl rfl (by kernel_rfl)
             have hS := hI.world
             refine wanted_go rfl ?_
             clear hI hd hnd
             go_simp
             exact hK.out _ _ ⟨hS.1.alloc (fun k hk => hk.1) _, own_below hS.2 (below1 w2 _)⟩ (Ks.of rfl ⟨w2.heap.size, rfl, hS.1.size, heap_alloc_new _ _⟩) (Ks.keepW (below1 w2 _))
           · intro listed A0 w2 hI hd hnd K hK
             have e0 := hI.depv hd 2 68 _ rfl rfl rfl (by kernel_rfl)
             obtain ⟨x1, e1, h1⟩ := hI.dep hd 7 73 rfl rfl rfl (by kernel_rfl)
             have hS := hI.world
             obtain ⟨gq, rfl, hgq, hbk⟩ := h1
             refine wanted_go rfl ?_
             clear hI hd hnd
             refine wp_app2 (w := w2) (.tmp 68) (.tmp 73) 40 rfl w.heap.size 64 ia _ 3 24 lines_uty hia hzia hsia hbia rfl (by decide) (.slice Aa at_ ca) at_ F0 (by simpa [Act.eval, Array.getD_eq_getD_getElem?] using e0) hS.2 (fun _ => True) (some ⟨gq, 0, none⟩) 1 1 [.int .i64 la, .int .i64 lm, .int .i64 lp] (by simpa [Act.eval, Array.getD_eq_getD_getElem?] using e1) (rd_new hbk rfl) (by simp [Value.oneCell']) (by simp only [maxLen]; omega) (by omega) (Nat.le_trans HBV9.out.size hS.1.size) (by omega) ?_
             intro v9 w9 hown9 hold9 hg9 hat9
             exact hK.out _ _ ⟨hS.1.grown hg9 (fun k hk => hk.1) (fun k hk hq => hq.2 hk), hold9⟩ (Ks.of rfl ⟨w2, hS.1, hown9, hg9, hat9⟩) (by
              intro j u hj hV k hk
              rcases j with _ | _ | _ | _ | _ | _ | _ | _ | _ | _ | j
              all_goals first | (exact absurd rfl hj) | (cases hk; done) | (cases hk; first | exact hV _ rfl | exact IsLn.grow (hV _ rfl) hg9 HOB9.out))
           · intro listed A0 w2 hI hd hnd K hK
             have e0 := hI.slot hnd 6 _ rfl (by kernel_rfl)
             have hS := hI.world
             refine wanted_go rfl ?_
             clear hI hd hnd
             go_simp
             exact hK.out _ _ hS (Ks.of rfl rfl) (fun _ _ _ h => h)
         · intro A0 w2 hI
           obtain ⟨x0, g0, h0⟩ := hI.got 0 _ 66 rfl rfl rfl
           obtain ⟨x1, g1, h1⟩ := hI.got 1 _ 67 rfl rfl rfl
           obtain ⟨x2, g2, h2⟩ := hI.got 2 _ 68 rfl rfl rfl
           obtain ⟨x3, g3, h3⟩ := hI.got 3 _ 69 rfl rfl rfl
           obtain ⟨x4, g4, h4⟩ := hI.got 4 _ 70 rfl rfl rfl
           obtain ⟨x5, g5, h5⟩ := hI.got 5 _ 71 rfl rfl rfl
           obtain ⟨x6, g6, h6⟩ := hI.got 6 _ 72 rfl rfl rfl
           obtain ⟨x7, g7, h7⟩ := hI.got 7 _ 73 rfl rfl rfl
           obtain ⟨x8, g8, h8⟩ := hI.got 8 _ 74 rfl rfl rfl
           obtain ⟨x9, g9, h9⟩ := hI.got 9 _ 75 rfl rfl rfl
           have hS := hI.world
           obtain ⟨y76, o76⟩ : ∃ v, A0.tmps[76]? = some v := ⟨_, hI.oldHead 76 (by kernel_rfl)⟩
           obtain ⟨y3, o3⟩ : ∃ v, A0.tmps[3]? = some v := ⟨_, hI.oldHead 3 (by kernel_rfl)⟩
           have hA : A0 = _ := hI.tmps [(66, x0), (67, x1), (68, x2), (69, x3), (70, x4), (71, x5), (72, x6), (73, x7), (74, x8), (75, x9), (76, y76), (3, y3)] (by simp only [List.mem_cons, List.not_mem_nil, or_false, forall_eq_or_imp, forall_eq]; exact ⟨g0, g1, g2, g3, g4, g5, g6, g7, g8, g9, o76, o3⟩) (by kernel_rfl)
           have k8 : (PL V9 w.heap.size (.slice Aa at_ ca) (at_ + 1) (F0 ++ [.int .i64 la, .int .i64 lm, .int .i64 lp])) x8 w2 := h8 _ rfl
           obtain rfl : x9 = .slice A6 m6 c6 := h9 _ rfl
           clear h0 g0 h1 g1 h2 g2 h3 g3 h4 g4 h5 g5 h6 g6 h7 g7 h8 g8 h9 g9 o76 o3 hI
           simp only [setAll, List.foldl, List.setIfInBounds_toArray, List.set_cons_zero, List.set_cons_succ] at hA
           rw [hA]
           clear hA
           simp only [List.drop_succ_cons, List.drop_zero]
           obtain ⟨W3, hf3, hown8, hg8, hat8⟩ := k8
           have HOWN8 := Lib.hid hown8
           have HB2 := Lib.hid (below_fr HBV9.out hS.1 (fun q hq => ⟨Nat.lt_of_lt_of_le hq HBV9.out.size, fun e => absurd (HOW9.out.lt q e).1 (by omega)⟩))
           have HR6 := Lib.hid ((Rd.own HOWN6.out (Q := (fun q => q < V9.heap.size ∧ Value.ownBlock (.slice Aa at_ ca) ≠ some q)) (fun q hq => ⟨(HOWN6.out.lt q hq).2, fun e => absurd (HOB8.out q e) (by have := (HOWN6.out.lt q hq).1; omega)⟩)).fr hS.1)
           clear hf3 hown8 hg8 hat8 hS
           refine wpList_app _ rfl (.tmp 74) (.tmp 75) 40 rfl w.heap.size 64 ia _ 3 24 lines_uty hia hzia hsia hbia rfl (by decide) x8 (at_ + 1) (F0 ++ [.int .i64 la, .int .i64 lm, .int .i64 lp]) rfl HOWN8.out (fun q => q < V9.heap.size ∧ Value.ownBlock (.slice Aa at_ ca) ≠ some q) A6 m6 c6 F1 rfl HR6.out HONE.out (by simp only [maxLen]; omega) (by omega) HB2.out.size ?_
           intro v10 w10 hown10 hg10 _
           have HB10 := Lib.hid (below_grown HB2.out hg10 (fun q hq => (HOWN8.out.lt q hq).1) (Nat.le_refl _))
           have HOWN10 := Lib.hid hown10
           clear hown10 hg10
           go_wp2_with fail
           go_roundw
           case rel =>
            refine ⟨k + 1, by omega, congrArg (Value.int .i64) (by omega), HB10.out, ?_⟩
            have h := HOWN10.out
            have e1 : (allL (l.take (k + 1))).length = at_ + 1 + m6 := by
             have h1 := HM6.out
             have h2 := HNA.out
             rw [HINS.out]
             simp
             omega
            have e2 : (allL (l.take (k + 1))).flatMap lineL = F0 ++ [.int .i64 la, .int .i64 lm, .int .i64 lp] ++ F1 := by
             rw [HINS.out, List.flatMap_append, List.flatMap_cons, HF0.out, HF1.out]
             simp [lineL]
            rw [e1, e2]
            exact h
           case measure => exact meas_v hlt
  case neg =>
   have hltI : ¬ (k : Int) < (n : Int) := by omega
   have hkn : k = n := by omega
   have HALL := Lib.hid (show allL l = AL by rw [← HAL.out, hkn, ← HN.out, List.take_length])
   clear hkn
   rename World => U
   go_wp2_with fail
   go_loopw [7, 8] (fun v i wr => ∃ j : Nat, j ≤ na ∧ i = .int .i64 (j : Int) ∧ Below U.heap.size U wr ∧ wr.ownsRow U.heap.size 64 3 v (nzL (AL.take j)).length ((nzL (AL.take j)).flatMap lineL)) (fun _ i _ => na - (intOf i).toNat)
   case atStart => exact ⟨0, by omega, rfl, Below.refl _ _, World.ownsRow_nil _ _ _ _⟩
   case round =>
    obtain ⟨j, hj, rfl, hbV, hout⟩ := hrel
    rename World => V
    obtain ⟨OL, hOL⟩ : ∃ OL, nzL (AL.take j) = OL := ⟨_, rfl⟩
    rw [hOL] at hout
    have HOL := Lib.hid hOL
    obtain ⟨Ao, no, co, rfl⟩ := own_shape hout
    obtain rfl := own_val hout
    obtain ⟨no, hno⟩ : ∃ no, OL.length = no := ⟨_, rfl⟩
    rw [hno] at hout ⊢
    have HNO := Lib.hid hno
    have hnoj : no ≤ j := by
     rw [← hno, ← hOL]
     refine Nat.le_trans (List.length_filter_le _ _) ?_
     rw [List.length_take]
     omega
    have HOUT := Lib.hid hout
    have HBV := Lib.hid hbV
    have HOWV := Lib.hid (own_below HOW.out hbV)
    clear hOL hno hout
    by_cases hjn : j < na
    case pos =>
     have hjnI : (j : Int) < (na : Int) := by omega
     obtain ⟨gA, ca', heq0, hgA, hgAw⟩ := HOWV.out.form (by omega)
     simp only [Value.slice.injEq, true_and] at heq0
     obtain ⟨rfl, rfl⟩ := heq0
     have hjl : j < AL.length := by rw [HNA.out]; exact hjn
     obtain ⟨y, hy⟩ : ∃ y, AL[j] = y := ⟨_, rfl⟩
     have HTK := Lib.hid (show nzL (AL.take (j + 1)) = OL ++ nzL [y] by
      rw [← HOL.out, List.take_add_one, List.getElem?_eq_getElem hjl, hy]
      exact List.filter_append _ _)
     obtain ⟨ya, ym, yp⟩ := y
     have HATY := Lib.hid (at_el HOWV.out j hjl _ hy)
     have HAR := Lib.hid (show V.rangeAt gA (j * 3) [.int .i64 ya, .int .i64 ym, .int .i64 yp] from HATY.out.range)
     have FY : V.cell? ⟨gA, j * 3 + 1, none⟩ = some (.int .i64 ym) := (HATY.out.2 1 _ rfl).1
     have hbV0 := hbV.size
     clear hy hgA hgAw
     by_cases hz : ym = 0
     case pos =>
      have hzb : (ym != 0) = false := by simpa using hz
      have HZ0 := Lib.hid (show nzL (AL.take (j + 1)) = OL by rw [HTK.out, hz]; simp [nzL])
      clear hz
      go_wp2_with fail
      go_roundw
      case rel => exact ⟨j + 1, by omega, congrArg (Value.int .i64) (by omega), HBV.out, by rw [HZ0.out, HNO.out]; exact HOUT.out⟩
      case measure => exact meas_v hjn
     case neg =>
      have hzb : (ym != 0) = true := by simpa using hz
      have HZ1 := Lib.hid (show nzL (AL.take (j + 1)) = OL ++ [⟨ya, ym, yp⟩] by rw [HTK.out]; simp [nzL, hz])
      clear hz
      go_wp2_with (first | (show wpList _ _ _ (Oper.mk (some 93) _ _ _ _ _ :: _) _ _; refine wpList_load_mid rfl 64 (.tmp 92) rfl gA (j * 3) rfl [.int .i64 ya, .int .i64 ym, .int .i64 yp] _ HAR.out Try.underlying64 rfl info_line ?_) | (at_builtin; go_loud (refine wpList_app _ rfl (.tmp 89) (.tmp 94) 40 rfl U.heap.size 64 ia _ 3 24 lines_uty hia hzia hsia hbia rfl (by decide) (.slice Ao no co) no (OL.flatMap lineL) rfl (HOUT.out.alloc _) (fun _ => True) (some ⟨V.heap.size, 0, none⟩) 1 1 [.int .i64 ya, .int .i64 ym, .int .i64 yp] rfl (rd_new (heap_alloc_new _ _) rfl) (by simp [Value.oneCell']) (by simp only [maxLen]; omega) (by omega) (by simp; omega) ?_); intro v9 w9 hown9 hg9 _))
      go_roundw
      case rel =>
       refine ⟨j + 1, by omega, congrArg (Value.int .i64) (by omega), below_grown (HBV.out.alloc HBV.out.size _) hg9 (fun q hq => (HOUT.out.lt q hq).1) (Nat.le_refl _), ?_⟩
       have e1 : (nzL (AL.take (j + 1))).length = no + 1 := by rw [HZ1.out, List.length_append, HNO.out]; rfl
       have e2 : (nzL (AL.take (j + 1))).flatMap lineL = OL.flatMap lineL ++ [.int .i64 ya, .int .i64 ym, .int .i64 yp] := by rw [HZ1.out, List.flatMap_append]; rfl
       rw [e1, e2]
       exact hown9
      case measure => exact meas_v hjn
    case neg =>
     have hjnI : ¬ (j : Int) < (na : Int) := by omega
     have hjna : j = na := by omega
     have HOUTL := Lib.hid (show nrmL l = OL by
      rw [← HOL.out, hjna, ← HNA.out, List.take_length, ← HALL.out]
      rfl)
     clear hjna
     go_wp2_with fail
     go_ret
     have hnm := nrmL_norm l
     rw [HOUTL.out] at hnm
     have hbd : ∀ x ∈ OL, lineBd x := fun x hx => by
      obtain ⟨h1, h2⟩ := (hnm.2 x).1 hx
      obtain ⟨y, hy, ha, hp⟩ := sumAt_some (l := l) (a := x.account) (p := x.partner) (by omega)
      have hb := HLB.out y hy
      have hab := sumAt_abs l x.account x.partner
      have hs := HS.out
      refine ⟨ha ▸ hb.1, ?_, hp ▸ hb.2.2⟩
      unfold intBd
      omega
     have hown : V.ownsRow U.heap.size 64 3 (.slice Ao no co) OL.length (OL.flatMap lineL) := by rw [HNO.out]; exact HOUT.out
     have hL := own_listC (El := LineC) (f := lineL) (fun _ => rfl) hown (Q := (fun q => w.heap.size ≤ q ∧ q < V.heap.size)) (fun x hx => ⟨[_], [_], [_], rfl, ⟨rfl, (hbd x hx).1⟩, ⟨rfl, (hbd x hx).2.1⟩, ⟨rfl, (hbd x hx).2.2⟩⟩) (fun g hg => ⟨Nat.le_trans HB.out.size (hown.lt _ hg).1, (hown.lt _ hg).2⟩) (by rw [HNO.out]; omega)
     exact ⟨Ao, OL, co, by rw [HNO.out]; rfl, hnm, by rw [HNO.out, HN.out]; omega, by rw [HNO.out]; exact hL, HB.out.trans (HBV.out.mono HB.out.size)⟩
end Go.Proofs.Ytebdajkknkapcaa
