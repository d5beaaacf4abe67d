/- The walk of journal.Post. Written by gen_i16.py. -/
import Derived.Test.YtekelchdbkjjjaaGreatG17xB0B2
import Derived.Test.YtekelchdbkjjjaaGreatG17xB3B8
import Derived.Test.YtekelchdbkjjjaaGreatG17xB9B13
import Derived.Test.YtekelchdbkjjjaaGreatG17xB14
import Derived.Test.YtekelchdbkjjjaaGreatG17xB16
import Derived.Test.YtekelchdbkjjjaaGreatG17xB17B24
import Derived.Test.YtekelchdbkjjjaaGreatG17xB29B32
import Derived.Test.YtekelchdbkjjjaaGreatG17xB33S2
import Derived.Test.YtekelchdbkjjjaaGreatG17xC4E3
import Derived.Test.YtekelchdbkjjjaaGreatG17xE6F1
import Derived.Test.YtekelchdbkjjjaaGreatG17xF2I7
import Derived.Test.YtekelchdbkjjjaaGreatG17xI8I11
import Derived.Test.YtekelchdbkjjjaaGreatG17xI12
import Derived.Test.YtekelchdbkjjjaaGreatG17xI13I15
import Derived.Test.YtekelchdbkjjjaaGreatProg
set_option linter.unusedVariables false
set_option linter.unusedSimpArgs false
set_option maxRecDepth 4000
attribute [local go_sem ↓] Go.wp_at_zero Go.wp_at_succ
namespace Go.Proofs.YtekelchdbkjjjaaGreat
open Go Go.RowKit
theorem wpList_store_o2 {ops : Array Oper} {rest : List Oper} {o : Oper} {a : Act} {w : World} {Q : Exit → Act → World → Prop} (hg : o.guard = none) (hd : o.dst = none) (m x v : Operand) (hop : o.op = Op.mapUpdate 81 m x v)
 (b n : Nat) (f : Int → Option Int) (hm : a.eval m = .map (some b)) (h : MapO w b n f) (hn : n < maxLen) (c : Int) (hx : a.eval x = .int .i64 c) (hc : intBd c) (xv : Int) (hv : a.eval v = .int .i64 xv) (hxv : intBd xv)
 (hK : ∀ w', MapO w' b (n + 1) (fun d => if d = c then some xv else f d) → Fr (fun q => q ≠ b) w w' → wpList Tryz.prog ops Q rest a w') : wpList Tryz.prog ops Q (o :: rest) a w :=
 wpList_store_o hg m x v hop b n f hm h hn c hx hc xv hv hxv (fun w' h1 h2 => by rw [hd]; exact hK w' h1 h2)
def entA (x : XEntry) (A : Option Addr) (c : Nat) : List Value := [.int .i64 x.id, .int .i64 x.entity, .int .i64 x.date, .int .i64 x.kind, .int .i64 x.of_, .string x.text, .slice A x.lines.length c]
theorem entA_one (x : XEntry) (A : Option Addr) (c : Nat) : ∀ u ∈ entA x A c, u.oneCell' = true := fun u hu => by
 simp [entA] at hu
 rcases hu with rfl | rfl | rfl | rfl | rfl | rfl | rfl <;> rfl
def PC (B : Nat) (x : XEntry) (v : Value) (w : World) : Prop := ∃ A c, v = .agg (entA x A c).toArray ∧ ListC LineC 3 w (fun q => B ≤ q ∧ q < w.heap.size) [.slice A x.lines.length c] x.lines
def PS (B : Nat) (x : XEntry) (v : Value) (w : World) : Prop := ∃ gq A c, v = .slice (some ⟨gq, 0, none⟩) 1 1 ∧ B ≤ gq ∧ w.heap[gq]? = some (.cells (entA x A c).toArray 46 (0, 0)) ∧ ListC LineC 3 w (fun q => B ≤ q ∧ q < w.heap.size) [.slice A x.lines.length c] x.lines
def PA (V : World) (v0 : Value) (n : Nat) (cf : List Value) (x : XEntry) (v : Value) (w : World) : Prop := ∃ W3 A c, Fr (fun q => q < V.heap.size ∧ v0.ownBlock ≠ some q) V W3 ∧ ListC LineC 3 W3 (fun q => V.heap.size ≤ q ∧ q < W3.heap.size) [.slice A x.lines.length c] x.lines ∧ w.ownsRow 0 46 7 v (n + 1) (cf ++ entA x A c) ∧ W3.grownBy w v0.ownBlock ∧ (v.ownBlock = v0.ownBlock ∨ v.ownBlock = some W3.heap.size)
theorem lines_fr2 {w w' : World} {B : Nat} {cs : List Value} {l : List XLine} (h : ListC LineC 3 w (fun q => B ≤ q ∧ q < w.heap.size) cs l) (hf : Fr (fun q => B ≤ q ∧ q < w.heap.size) w w') : ListC LineC 3 w' (fun q => B ≤ q ∧ q < w'.heap.size) cs l :=
 (h.fr (fun h => LineC.fr h hf) hf).mono (fun h => LineC.mono h (fun q hq => ⟨hq.1, Nat.lt_of_lt_of_le hq.2 hf.size⟩)) (fun q hq => ⟨hq.1, Nat.lt_of_lt_of_le hq.2 hf.size⟩)
theorem lines_up {w w' : World} {B : Nat} {cs : List Value} {l : List XLine} (h : ListC LineC 3 w (fun q => B ≤ q ∧ q < w.heap.size) cs l) (hb : Below w.heap.size w w') : ListC LineC 3 w' (fun q => B ≤ q ∧ q < w'.heap.size) cs l := lines_fr2 h ((Fr.ofBelow hb).mono (fun q hq => hq.2))
theorem PC.keep (B : Nat) (x : XEntry) : ∀ v w w', Below w.heap.size w w' → PC B x v w → PC B x v w' := fun v w w' hb ⟨A, c, e, h⟩ => ⟨A, c, e, lines_up h hb⟩
theorem PS.keep (B : Nat) (x : XEntry) : ∀ v w w', Below w.heap.size w w' → PS B x v w → PS B x v w' := fun v w w' hb ⟨gq, A, c, e, h1, h2, h⟩ => ⟨gq, A, c, e, h1, (hb.block gq (blk_lt h2)).trans h2, lines_up h hb⟩
theorem PA.keep (V : World) (v0 : Value) (n : Nat) (cf : List Value) (x : XEntry) : ∀ v w w', Below w.heap.size w w' → PA V v0 n cf x v w → PA V v0 n cf x v w' := fun v w w' hb ⟨W3, A, c, h1, h2, h3, h4, h5⟩ => ⟨W3, A, c, h1, h2, own_below h3 hb, h4.andThen ((grown_of_below hb).but _) (fun j hj => .inr hj), h5⟩
theorem PC.grow {B : Nat} {x : XEntry} {v : Value} {w w' : World} {row : Option Nat} (h : PC B x v w) (hg : w.grownBy w' row) (hr : ∀ q, row = some q → q < B) : PC B x v w' := by
 obtain ⟨A, c, e, h⟩ := h
 exact ⟨A, c, e, lines_fr2 h ⟨hg.os, hg.tape, hg.output, hg.size, fun q hq => hg.block q hq.2 (fun e => by have := hr q e.symm; omega)⟩⟩
theorem PS.grow {B : Nat} {x : XEntry} {v : Value} {w w' : World} {row : Option Nat} (h : PS B x v w) (hg : w.grownBy w' row) (hr : ∀ q, row = some q → q < B) : PS B x v w' := by
 obtain ⟨gq, A, c, e, h1, h2, h⟩ := h
 exact ⟨gq, A, c, e, h1, (hg.block gq (blk_lt h2) (fun e => by have := hr gq e.symm; omega)).trans h2, lines_fr2 h ⟨hg.os, hg.tape, hg.output, hg.size, fun q hq => hg.block q hq.2 (fun e => by have := hr q e.symm; omega)⟩⟩
theorem JPost.of {w V W3 W5 : World} {D O : Nat → Prop} {J : Nat} {g : XGroup} {es es' : List XEntry} {gl : List Value} {css : List (List Value)} {v : Value} {bi br : Nat} (hb : Below w.heap.size w V) (h : JAt W5 (fun q => D q ∨ (V.heap.size ≤ q ∧ q < W3.heap.size)) (fun q => O q ∨ (W3.heap.size ≤ q ∧ q < W5.heap.size)) J g es' gl css v bi br)
 (hf : Fr (fun q => q < V.heap.size ∧ ¬ O q) V W5) (h1 : V.heap.size ≤ W3.heap.size) (h2 : W3.heap.size ≤ W5.heap.size) (hO : ∀ q, O q → q < w.heap.size) : JPost D O J g es es' w W5 := by
 have hs := hb.size
 refine ⟨W3.heap.size, by omega, h2, ⟨gl, css, v, bi, br, h.mono (fun q hq => hq.elim .inl (fun hq => .inr ⟨by omega, hq.2⟩)) (fun q hq => hq) (fun q hq ho => ?_) (fun q hq => ?_) h.ltO⟩, ((Fr.ofBelow hb).mono (fun q hq => hq.1)).trans (hf.mono (fun q hq => ⟨by omega, hq.2⟩))⟩
 · rcases hq with hq | hq
   · exact h.dis q (.inl hq) ho
   · rcases ho with ho | ho
     · have := hO q ho; omega
     · omega
 · rcases hq with hq | hq
   · exact h.ltD q (.inl hq)
   · omega
set_option maxHeartbeats 8000000 in
theorem post_c (D O : Nat → Prop) (J : Nat) (g : XGroup) (es : List XEntry) (gl : List Value) (css : List (List Value)) (v : Value) (bi br : Nat) (x : XEntry) (ex : List Value) (w : World) (hj : JAt w D O J g es gl css v bi br) (hsm : smallG g) (hx : EntryC w (fun q => q < w.heap.size ∧ ¬ O q) ex x) (hts : x.text.size ≤ 140737488355327) (hnl : x.lines.length ≤ 100000) (hne : es.length ≤ 100000) :
 Calls Tryz.prog 82 #[.pointer (some ⟨J, 0, none⟩), .agg ex.toArray] w (fun e w' => e = .returned (.int .i64 (postE g es x)) ∧ JPost D O J g es (if postE g es x = 0 then es ++ [x] else es) w w') := by
 obtain ⟨ia, hia, hzia, hsia, hbia⟩ := info_parts info_entryA
 obtain ⟨r, hr⟩ : ∃ r, postE g es x = r := ⟨_, rfl⟩
 rw [hr]
 have HR := Lib.hid hr
 have HJ := Lib.hid hj
 have hx2 : EntryC w (· < w.heap.size) ex x := EntryC.mono hx (fun q hq => hq.1)
 have hg2 : GroupC w (· < w.heap.size) gl g := GroupC.mono hj.grp (fun q hq => hj.ltD q hq)
 have HCK := Lib.hid (fun (w2 : World) (hb : Below w.heap.size w w2) => check_c g x gl ex w2 (hg2.keep hb) hsm (hx2.keep hb) hts)
 have HRE := Lib.hid (fun (w2 : World) (hb : Below w.heap.size w w2) => reverses_c D O J g es gl css v bi br x ex w2 (hj.below hb) (hx2.keep hb))
 obtain ⟨R, hR⟩ : ∃ R, checkE g x = R := ⟨_, rfl⟩
 rw [hR] at HCK
 have HCE := Lib.hid hR
 have HGI := Lib.hid (show (Tryz.prog.info? 29).map (·.size) = some gl.length by rw [info_group, hj.glen])
 obtain ⟨Av, nv, cv, rfl⟩ := own_shape hj.row
 obtain rfl := own_val hj.row
 obtain ⟨n, hn⟩ : ∃ n, es.length = n := ⟨_, rfl⟩
 have HN := Lib.hid hn
 obtain ⟨cf, hcf⟩ : ∃ cf, css.flatten = cf := ⟨_, rfl⟩
 have HCF := Lib.hid hcf
 rw [hn] at hne
 obtain ⟨Al, cl, hex, hxb, hll⟩ := hx.lit
 subst hex
 have HLXO := Lib.hid hll
 have HXB := Lib.hid hxb
 obtain ⟨xi, xe, xd, xk, xo, xt, ls⟩ := x
 simp only at hxb hts hnl HCK HRE HLXO HXB ⊢
 have HXI := Lib.hid hxb.1
 have HXO := Lib.hid hxb.2.2.2.2
 obtain ⟨nl, hnl2⟩ : ∃ n, ls.length = n := ⟨_, rfl⟩
 have HNL := Lib.hid hnl2
 rw [hnl2] at HCK HRE HLXO hnl ⊢
 have HLT := Lib.hid hj.ltO
 clear hx hx2 hg2 hr hll hxb hnl2 hj hR hcf hsm hts
 rw [hn] at HJ
 clear hn
 show Calls Tryz.prog 82 #[.pointer (some ⟨J, 0, none⟩), .agg #[.int .i64 xi, .int .i64 xe, .int .i64 xd, .int .i64 xk, .int .i64 xo, .string xt, .slice Al nl cl]] w (fun e w' => e = .returned (.int .i64 r) ∧ JPost D O J g es (if r = 0 then es ++ [⟨xi, xe, xd, xk, xo, xt, ls⟩] else es) w w')
 obtain ⟨ES, hES⟩ : ∃ ES, (if r = 0 then es ++ [⟨xi, xe, xd, xk, xo, xt, ls⟩] else es) = ES := ⟨_, rfl⟩
 rw [hES]
 have HES := Lib.hid hES
 clear hES
 go_enter Tryz.func82, Tryz.ntmps82
 go_upto_region 1 with fail
 have H1 := heap_alloc_new w (.cells #[.int .i64 xi, .int .i64 xe, .int .i64 xd, .int .i64 xk, .int .i64 xo, .string xt, .slice Al nl cl] 46)
 have HB1 := below1 w (.cells #[.int .i64 xi, .int .i64 xe, .int .i64 xd, .int .i64 xk, .int .i64 xo, .string xt, .slice Al nl cl] 46)
 have HS1 := blk_lt H1
 generalize hW1 : w.alloc (Obj.cells #[.int .i64 xi, .int .i64 xe, .int .i64 xd, .int .i64 xk, .int .i64 xo, .string xt, .slice Al nl cl] 46) = W at *
 clear hW1
 have HK := Lib.hid H1
 clear H1
 have HJ1 := Lib.hid (HJ.out.below HB1)
 have HB1h := Lib.hid HB1
 have HATG := Lib.hid ((box_at HJ1.out.blk).split.1)
 have HATX := Lib.hid (box_at (cs := [.int .i64 xi, .int .i64 xe, .int .i64 xd, .int .i64 xk, .int .i64 xo, .string xt, .slice Al nl cl]) HK.out)
 have hlt0 : w.heap.size < W.heap.size := HS1
 go_upto_region 3 with fail
 refine wp_region_inv (Ks W [.val (.pointer (some ⟨J, 0, none⟩)), .val (.pointer (some ⟨J, 0, none⟩)), .val (.pointer (some ⟨J, 0, none⟩)), .val (.agg gl.toArray), .val (.agg #[.int .i64 xi, .int .i64 xe, .int .i64 xd, .int .i64 xk, .int .i64 xo, .string xt, .slice Al nl cl]), .val (.int .i64 R), .val (.int .i64 R)])
  (fun w' => Below W.heap.size W w') (by kernel_rfl) (by kernel_rfl) (by kernel_rfl) (Below.refl _ _).drew ?_ ?_
 · refine ⟨?_, ?_, ?_, ?_, ?_, ?_, ?_, trivial⟩
   · intro _ A0 w2 hI hd hnd K hK; have e0 := hI.q hnd 0; exact hI.z hK
   · intro _ A0 w2 hI hd hnd K hK; have e0 := hI.p hd 0 11; exact hI.z hK
   · intro _ A0 w2 hI hd hnd K hK; have e0 := hI.p hd 1 12; exact hI.z hK
   · intro _ A0 w2 hI hd hnd K hK; have e0 := hI.p hd 2 13; have hS := hI.world; have hrange : w2.rangeAt J 0 gl := (HATG.out.fr (Fr.ofBelow hS)).range
     have hisize := HGI.out
     refine wanted_go rfl ?_; clear hI hd hnd
     refine wp_load_mid 29 (.tmp 13) rfl _ _ (by simpa [Act.eval, Array.getD_eq_getD_getElem?] using e0) _ _ hrange Tryz.underlying29 rfl hisize ?_
     exact kq hK hS rfl
   · intro _ A0 w2 hI hd hnd K hK; have e0 := hI.q hnd 3; have hS := hI.world; have hrange : w2.rangeAt w.heap.size 0 [.int .i64 xi, .int .i64 xe, .int .i64 xd, .int .i64 xk, .int .i64 xo, .string xt, .slice Al nl cl] := (HATX.out.fr (Fr.ofBelow hS)).range; have hisize := info_entry; refine wanted_go rfl ?_; clear hI hd hnd
     refine wp_load_mid 46 (.tmp 3) rfl _ _ (by simpa [Act.eval, Array.getD_eq_getD_getElem?] using e0) _ _ hrange Tryz.underlying46 rfl hisize ?_
     exact kq hK hS rfl
   · intro _ A0 w2 hI hd hnd K hK; have e0 := hI.p hd 3 14; have e1 := hI.p hd 4 15; have hS := hI.world; refine wanted_go rfl ?_; clear hI hd hnd; go_simp
     go_at_call 112
     refine (HCK.out w2 (HB1h.out.trans (hS.mono HB1h.out.size))).mono ?_
     rintro e w3 ⟨rfl, h3⟩
     exact hK.out _ _ (hS.trans (h3.mono hS.size)) (Ks.of rfl rfl) (Ks.keep h3)
   · intro _ A0 w2 hI hd hnd K hK; have e0 := hI.p hd 5 16; exact hI.z hK
 · intro _ A0 w2 hI hall; have hS := hI.world; have c9 := hI.ch hall [11, 12, 13, 14, 15, 16, 5]; obtain ⟨x0, x1, x2, x3, x4, x5, x6, hA, hV⟩ := c9
   obtain rfl : x6 = .int .i64 R := hV 6 _ _ rfl _ rfl
   clear hV hI hall
   simp only [setAll, List.foldl, List.setIfInBounds_toArray, List.set_cons_zero, List.set_cons_succ] at hA
   rw [hA]
   clear hA
   have hb3 : Below w.heap.size w w2 := HB1h.out.trans (hS.mono HB1h.out.size)
   have HK3b := Lib.hid ((hS.block _ hlt0).trans HK.out)
   have hlt3 := Nat.lt_of_lt_of_le hlt0 hS.size
   clear HATG HATX
   by_cases hR0 : R = 0
   case neg =>
    have hq2 : (R != 0) = true := by simp [hR0]
    have hf := Lib.hid (show r = R from HR.out.symm.trans (postE_1 HCE.out hR0))
    have hfn := Lib.hid (show ¬ r = 0 from fun e => hR0 (hf.out.symm.trans e))
    clear hR0
    go_wp2_with fail
    go_ret
    refine ⟨by rw [hf.out]; first | done | rfl, ?_⟩
    rw [← HES.out, if_neg hfn.out]
    exact HJ.out.same hb3
   case pos =>
   have hq2 : (R != 0) = false := by simp [hR0]
   have HCE0 := Lib.hid (show checkE g ⟨xi, xe, xd, xk, xo, xt, ls⟩ = 0 from HCE.out.trans hR0)
   clear hR0
   obtain ⟨W3, hW3⟩ : ∃ W3, W3 = w2 := ⟨_, rfl⟩
   subst hW3
   have HB3h := Lib.hid hb3
   have HJ3 := Lib.hid (HJ1.out.below hS)
   have HIX := Lib.hid HJ3.out.idx
   have F22 := Lib.hid HJ3.out.cell.2.1
   have FX0 := Lib.hid (show W3.cell? ⟨w.heap.size, 0, none⟩ = some (.int .i64 xi) from blk_cell HK3b.out 0)
   clear hS hb3
   go_upto_region 6 with fail
   clear hq2
   cases hix : idxE es xi with
   | some k0 =>
    have HLKE := Lib.hid (show Option.map (fun k : Nat => (k : Int)) (idxE es xi) = some (k0 : Int) by rw [hix]; rfl)
    have hf := Lib.hid (show r = 9 from HR.out.symm.trans (postE_2 HCE0.out hix))
    clear hix
    refine wp_region_inv' (Ks W3 [.val (.pointer (some ⟨J, 0, none⟩)), .val (.pointer (some ⟨J, 0, none⟩)), .val (.pointer (some ⟨J, 22, none⟩)), .val (.map (some bi)), .val (.pointer (some ⟨w.heap.size, 0, none⟩)), .val (.int .i64 xi), .val (.tuple #[.int .i64 (k0 : Int), .bool true]), .val (.tuple #[.int .i64 (k0 : Int), .bool true]), .val (.int .i64 (k0 : Int)), .val (.bool true), .val (.int .i64 (k0 : Int)), .val (.bool true)])
     (fun w' => w' = W3.drew) (by kernel_rfl) (by kernel_rfl) (by kernel_rfl) rfl ?_ ?_
    · refine ⟨?_, ?_, ?_, ?_, ?_, ?_, ?_, ?_, ?_, ?_, ?_, ?_, trivial⟩
      · intro _ A0 w2 hI hd hnd K hK; have e0 := hI.q hnd 0
        have hS := Lib.hid (show w2 = W3.drew from hI.world)
        exact hI.z hK
      · intro _ A0 w2 hI hd hnd K hK; have e0 := hI.p hd 0 21
        have hS := Lib.hid (show w2 = W3.drew from hI.world)
        exact hI.z hK
      · intro _ A0 w2 hI hd hnd K hK; have e0 := hI.p hd 1 22
        have hS := Lib.hid (show w2 = W3.drew from hI.world)
        exact hI.z hK
      · intro _ A0 w2 hI hd hnd K hK; have e0 := hI.p hd 2 23
        have hS := Lib.hid (show w2 = W3.drew from hI.world)
        have hcc : w2.cell? ⟨J, 22, none⟩ = some (.map (some bi)) := by rw [hS.out]; exact F22.out
        exact hI.z hK
      · intro _ A0 w2 hI hd hnd K hK; have e0 := hI.q hnd 3
        have hS := Lib.hid (show w2 = W3.drew from hI.world)
        exact hI.z hK
      · intro _ A0 w2 hI hd hnd K hK; have e0 := hI.p hd 4 25
        have hS := Lib.hid (show w2 = W3.drew from hI.world)
        have hcc : w2.cell? ⟨w.heap.size, 0, none⟩ = some (.int .i64 xi) := by rw [hS.out]; exact FX0.out
        exact hI.z hK
      · intro _ A0 w2 hI hd hnd K hK; have e0 := hI.p hd 3 24; have e1 := hI.p hd 5 26
        have hS := Lib.hid (show w2 = W3.drew from hI.world)
        have hlk : (Instr.lookup 81 (.map (some bi)) (.int .i64 xi) true).run Tryz.prog w2 = .ok (.tuple #[.int .i64 (k0 : Int), .bool true]) w2 := by
         have h := (HIX.out.same (w' := w2) (by rw [hS.out]; rfl)).look HXI.out
         simp only [HLKE.out] at h
         exact h
        exact hI.z hK
      · intro _ A0 w2 hI hd hnd K hK; have e0 := hI.p hd 6 27
        have hS := Lib.hid (show w2 = W3.drew from hI.world)
        exact hI.z hK
      · intro _ A0 w2 hI hd hnd K hK; have e0 := hI.p hd 7 20
        have hS := Lib.hid (show w2 = W3.drew from hI.world)
        exact hI.z hK
      · intro _ A0 w2 hI hd hnd K hK; have e0 := hI.p hd 7 20
        have hS := Lib.hid (show w2 = W3.drew from hI.world)
        exact hI.z hK
      · intro _ A0 w2 hI hd hnd K hK; have e0 := hI.p hd 8 28
        have hS := Lib.hid (show w2 = W3.drew from hI.world)
        exact hI.z hK
      · intro _ A0 w2 hI hd hnd K hK; have e0 := hI.p hd 9 29
        have hS := Lib.hid (show w2 = W3.drew from hI.world)
        exact hI.z hK
    · intro _ A0 w2 hI hall; obtain ⟨x0, g0, h0⟩ := hI.got 0 _ 21 rfl rfl (hall 0 (by decide)); obtain ⟨x1, g1, h1⟩ := hI.got 1 _ 22 rfl rfl (hall 1 (by decide)); obtain ⟨x2, g2, h2⟩ := hI.got 2 _ 23 rfl rfl (hall 2 (by decide)); obtain ⟨x3, g3, h3⟩ := hI.got 3 _ 24 rfl rfl (hall 3 (by decide)); obtain ⟨x4, g4, h4⟩ := hI.got 4 _ 25 rfl rfl (hall 4 (by decide)); obtain ⟨x5, g5, h5⟩ := hI.got 5 _ 26 rfl rfl (hall 5 (by decide)); obtain ⟨x6, g6, h6⟩ := hI.got 6 _ 27 rfl rfl (hall 6 (by decide)); obtain ⟨x7, g7, h7⟩ := hI.got 7 _ 20 rfl rfl (hall 7 (by decide)); obtain ⟨x8, g8, h8⟩ := hI.got 8 _ 28 rfl rfl (hall 8 (by decide)); obtain ⟨x9, g9, h9⟩ := hI.got 9 _ 29 rfl rfl (hall 9 (by decide)); obtain ⟨x10, g10, h10⟩ := hI.got 10 _ 6 rfl rfl (hall 10 (by decide)); obtain ⟨x11, g11, h11⟩ := hI.got 11 _ 7 rfl rfl (hall 11 (by decide))
      obtain rfl : w2 = W3.drew := hI.world
      have hA : A0 = _ := hI.tmps [(21, x0), (22, x1), (23, x2), (24, x3), (25, x4), (26, x5), (27, x6), (20, x7), (28, x8), (29, x9), (6, x10), (7, x11)] (by simp only [List.mem_cons, List.not_mem_nil, or_false, forall_eq_or_imp, forall_eq]; exact ⟨g0, g1, g2, g3, g4, g5, g6, g7, g8, g9, g10, g11⟩) (by kernel_rfl)
      obtain rfl : x10 = .int .i64 (k0 : Int) := h10 _ rfl
      obtain rfl : x11 = .bool true := h11 _ rfl
      clear h0 g0 h1 g1 h2 g2 h3 g3 h4 g4 h5 g5 h6 g6 h7 g7 h8 g8 h9 g9 h10 g10 h11 g11 hI hall
      simp only [setAll, List.foldl, List.setIfInBounds_toArray, List.set_cons_zero, List.set_cons_succ] at hA
      rw [hA]
      clear hA
      have hb9 : Below w.heap.size w W3.drew := HB3h.out.drew
      go_wp2_with fail
      go_ret
      refine ⟨by rw [hf.out]; first | done | rfl, ?_⟩
      rw [← HES.out, if_neg (by rw [hf.out]; decide)]
      exact HJ.out.same hb9
   | none =>
    have HLKE := Lib.hid (show Option.map (fun k : Nat => (k : Int)) (idxE es xi) = none by rw [hix]; rfl)
    have HIN := Lib.hid hix
    clear hix
    refine wp_region_inv' (Ks W3 [.val (.pointer (some ⟨J, 0, none⟩)), .val (.pointer (some ⟨J, 0, none⟩)), .val (.pointer (some ⟨J, 22, none⟩)), .val (.map (some bi)), .val (.pointer (some ⟨w.heap.size, 0, none⟩)), .val (.int .i64 xi), .val (.tuple #[.int .i64 0, .bool false]), .val (.tuple #[.int .i64 0, .bool false]), .val (.int .i64 0), .val (.bool false), .val (.int .i64 0), .val (.bool false)])
     (fun w' => w' = W3.drew) (by kernel_rfl) (by kernel_rfl) (by kernel_rfl) rfl ?_ ?_
    · refine ⟨?_, ?_, ?_, ?_, ?_, ?_, ?_, ?_, ?_, ?_, ?_, ?_, trivial⟩
      · intro _ A0 w2 hI hd hnd K hK; have e0 := hI.q hnd 0
        have hS := Lib.hid (show w2 = W3.drew from hI.world)
        exact hI.z hK
      · intro _ A0 w2 hI hd hnd K hK; have e0 := hI.p hd 0 21
        have hS := Lib.hid (show w2 = W3.drew from hI.world)
        exact hI.z hK
      · intro _ A0 w2 hI hd hnd K hK; have e0 := hI.p hd 1 22
        have hS := Lib.hid (show w2 = W3.drew from hI.world)
        exact hI.z hK
      · intro _ A0 w2 hI hd hnd K hK; have e0 := hI.p hd 2 23
        have hS := Lib.hid (show w2 = W3.drew from hI.world)
        have hcc : w2.cell? ⟨J, 22, none⟩ = some (.map (some bi)) := by rw [hS.out]; exact F22.out
        exact hI.z hK
      · intro _ A0 w2 hI hd hnd K hK; have e0 := hI.q hnd 3
        have hS := Lib.hid (show w2 = W3.drew from hI.world)
        exact hI.z hK
      · intro _ A0 w2 hI hd hnd K hK; have e0 := hI.p hd 4 25
        have hS := Lib.hid (show w2 = W3.drew from hI.world)
        have hcc : w2.cell? ⟨w.heap.size, 0, none⟩ = some (.int .i64 xi) := by rw [hS.out]; exact FX0.out
        exact hI.z hK
      · intro _ A0 w2 hI hd hnd K hK; have e0 := hI.p hd 3 24; have e1 := hI.p hd 5 26
        have hS := Lib.hid (show w2 = W3.drew from hI.world)
        have hlk : (Instr.lookup 81 (.map (some bi)) (.int .i64 xi) true).run Tryz.prog w2 = .ok (.tuple #[.int .i64 0, .bool false]) w2 := by
         have h := (HIX.out.same (w' := w2) (by rw [hS.out]; rfl)).look HXI.out
         simp only [HLKE.out] at h
         exact h
        exact hI.z hK
      · intro _ A0 w2 hI hd hnd K hK; have e0 := hI.p hd 6 27
        have hS := Lib.hid (show w2 = W3.drew from hI.world)
        exact hI.z hK
      · intro _ A0 w2 hI hd hnd K hK; have e0 := hI.p hd 7 20
        have hS := Lib.hid (show w2 = W3.drew from hI.world)
        exact hI.z hK
      · intro _ A0 w2 hI hd hnd K hK; have e0 := hI.p hd 7 20
        have hS := Lib.hid (show w2 = W3.drew from hI.world)
        exact hI.z hK
      · intro _ A0 w2 hI hd hnd K hK; have e0 := hI.p hd 8 28
        have hS := Lib.hid (show w2 = W3.drew from hI.world)
        exact hI.z hK
      · intro _ A0 w2 hI hd hnd K hK; have e0 := hI.p hd 9 29
        have hS := Lib.hid (show w2 = W3.drew from hI.world)
        exact hI.z hK
    · intro _ A0 w2 hI hall; obtain ⟨x0, g0, h0⟩ := hI.got 0 _ 21 rfl rfl (hall 0 (by decide)); obtain ⟨x1, g1, h1⟩ := hI.got 1 _ 22 rfl rfl (hall 1 (by decide)); obtain ⟨x2, g2, h2⟩ := hI.got 2 _ 23 rfl rfl (hall 2 (by decide)); obtain ⟨x3, g3, h3⟩ := hI.got 3 _ 24 rfl rfl (hall 3 (by decide)); obtain ⟨x4, g4, h4⟩ := hI.got 4 _ 25 rfl rfl (hall 4 (by decide)); obtain ⟨x5, g5, h5⟩ := hI.got 5 _ 26 rfl rfl (hall 5 (by decide)); obtain ⟨x6, g6, h6⟩ := hI.got 6 _ 27 rfl rfl (hall 6 (by decide)); obtain ⟨x7, g7, h7⟩ := hI.got 7 _ 20 rfl rfl (hall 7 (by decide)); obtain ⟨x8, g8, h8⟩ := hI.got 8 _ 28 rfl rfl (hall 8 (by decide)); obtain ⟨x9, g9, h9⟩ := hI.got 9 _ 29 rfl rfl (hall 9 (by decide)); obtain ⟨x10, g10, h10⟩ := hI.got 10 _ 6 rfl rfl (hall 10 (by decide)); obtain ⟨x11, g11, h11⟩ := hI.got 11 _ 7 rfl rfl (hall 11 (by decide))
      obtain rfl : w2 = W3.drew := hI.world
      have hA : A0 = _ := hI.tmps [(21, x0), (22, x1), (23, x2), (24, x3), (25, x4), (26, x5), (27, x6), (20, x7), (28, x8), (29, x9), (6, x10), (7, x11)] (by simp only [List.mem_cons, List.not_mem_nil, or_false, forall_eq_or_imp, forall_eq]; exact ⟨g0, g1, g2, g3, g4, g5, g6, g7, g8, g9, g10, g11⟩) (by kernel_rfl)
      obtain rfl : x10 = .int .i64 0 := h10 _ rfl
      obtain rfl : x11 = .bool false := h11 _ rfl
      clear h0 g0 h1 g1 h2 g2 h3 g3 h4 g4 h5 g5 h6 g6 h7 g7 h8 g8 h9 g9 h10 g10 h11 g11 hI hall
      simp only [setAll, List.foldl, List.setIfInBounds_toArray, List.set_cons_zero, List.set_cons_succ] at hA
      rw [hA]
      clear hA; clear HLKE
      have HB4 := Lib.hid (show Below w.heap.size w W3.drew from HB3h.out.drew)
      have HK4 := Lib.hid (show W3.drew.heap[w.heap.size]? = some (.cells #[.int .i64 xi, .int .i64 xe, .int .i64 xd, .int .i64 xk, .int .i64 xo, .string xt, .slice Al nl cl] 46 (0, 0)) from HK3b.out)
      have hlt4 : w.heap.size < W3.drew.heap.size := hlt3
      generalize W3.drew = W4 at *
      have e3 := blk_cell HK4.out 3
      by_cases hk3 : xk = 3
      case neg =>
       have hk3b : (xk == 3) = false := by simpa using hk3
       have HK3 := Lib.hid hk3
       have HR0 := Lib.hid (show r = if 2000 ≤ n then 6 else 0 from by rw [← HN.out]; exact HR.out.symm.trans (postE_4 HCE0.out HIN.out (fun h => absurd h hk3)))
       clear hk3
       obtain ⟨V, hV⟩ : ∃ V, V = W4 := ⟨_, rfl⟩
       subst hV
       have HBV := Lib.hid HB4.out
       have HKV := Lib.hid HK4.out
       have HJV := Lib.hid (HJ.out.below HB4.out)
       have HRV := Lib.hid (show MapO V br n (revO es) by rw [← HN.out]; exact HJV.out.rev)
       have HIXV := Lib.hid (show MapO V bi n _ by rw [← HN.out]; exact HJV.out.idx)
       have HBIL := Lib.hid (HLT.out _ HJV.out.oi)
       have HBRL := Lib.hid (HLT.out _ HJV.out.orr)
       have HJLT := Lib.hid (show J < V.heap.size from blk_lt HJV.out.blk)
       have HOVL := Lib.hid (fun q (hq : Value.ownBlock (.slice Av n cv) = some q) => show q < w.heap.size from HLT.out _ (HJV.out.ov q hq))
       have hltv2 : w.heap.size < V.heap.size := blk_lt HKV.out
       have c21 := HJV.out.cell.1
       have hlim0 := HR0.out
       by_cases hlim : 2000 ≤ n
       case pos =>
        have hl1 : decide ((2000 : Int) ≤ (n : Int)) = true := decide_eq_true (by omega)
        have hf := Lib.hid (show r = 6 from hlim0.trans (if_pos hlim))
        clear hlim hlim0
        go_wp2_with fail
        go_ret
        refine ⟨by rw [hf.out]; first | done | rfl, ?_⟩
        rw [← HES.out, if_neg (by rw [hf.out]; decide)]
        exact HJ.out.same HBV.out
       case neg =>
       have hl1 : decide ((2000 : Int) ≤ (n : Int)) = false := decide_eq_false (by omega)
       have hf := Lib.hid (show r = 0 from hlim0.trans (if_neg hlim))
       have HP0 := Lib.hid (show postE g es ⟨xi, xe, xd, xk, xo, xt, ls⟩ = 0 from HR.out.trans hf.out)
       clear hlim hlim0
       have k3 := blk_cell HKV.out 3
       go_upto_region 17 with fail
       clear k3 c21 hl1
       have hf1 : Fr (fun q => q ≠ br) V V := Fr.refl _ _
       obtain ⟨V1, hV1⟩ : ∃ V1, V1 = V := ⟨_, rfl⟩
       rw [← hV1]
       have hf1 : Fr (fun q => q ≠ br) V.drew V1 := by rw [hV1]; exact ⟨rfl, rfl, rfl, Nat.le_refl _, fun _ _ => rfl⟩
       have HM1 := Lib.hid (show MapO V1 br (n + 1) (revO (es ++ [⟨xi, xe, xd, xk, xo, xt, ls⟩])) by rw [hV1]; exact (HRV.out.mono (Nat.le_succ _)).eqv (fun c => (revO_kind HJV.out.ok HP0.out HK3.out c).symm))
       clear hV1
       have HF1 := Lib.hid (show Fr (fun q => q ≠ br) V V1 from ⟨hf1.os, hf1.tape, hf1.output, hf1.size, hf1.block⟩)
       clear hf1
       have hsV1 := HF1.out.size
       have HK1 := Lib.hid ((HF1.out.block w.heap.size (by show w.heap.size ≠ br; have := HBRL.out; omega)).trans HKV.out)
       have F22 := Lib.hid ((HF1.out.cell (p := ⟨J, 22, none⟩) (HJV.out.ne2)).trans HJV.out.cell.2.1)
       have F21 := Lib.hid ((HF1.out.cell (p := ⟨J, 21, none⟩) (HJV.out.ne2)).trans HJV.out.cell.1)
       have FX0 := Lib.hid (show V1.cell? ⟨w.heap.size, 0, none⟩ = some (.int .i64 xi) from blk_cell HK1.out 0)
       have HIX1 := Lib.hid (HIXV.out.fr HF1.out HJV.out.ne3)
       refine wp_region_inv3 11 (Ks V1 [.val (.pointer (some ⟨J, 0, none⟩)), .val (.pointer (some ⟨J, 0, none⟩)), .val (.pointer (some ⟨J, 22, none⟩)), .val (.map (some bi)), .val (.pointer (some ⟨w.heap.size, 0, none⟩)), .val (.int .i64 xi), .val (.pointer (some ⟨J, 0, none⟩)), .val (.pointer (some ⟨J, 0, none⟩)), .val (.pointer (some ⟨J, 21, none⟩)), .val (.slice Av n cv), .val (.int .i64 (n : Int))])
        (fun w' => w' = V1.drew) (by kernel_rfl) (by kernel_rfl) (by kernel_rfl) (by decide) (by kernel_rfl) (by kernel_rfl) (by kernel_rfl) rfl ?_ ?_
       · refine ⟨?_, ?_, ?_, ?_, ?_, ?_, ?_, ?_, ?_, ?_, ?_, trivial⟩
         · intro _ A0 w2 hI hd hnd K hK; have e0 := hI.q hnd 0
           have hS := Lib.hid (show w2 = V1.drew from hI.world)
           exact hI.z hK
         · intro _ A0 w2 hI hd hnd K hK; have e0 := hI.p hd 0 57
           have hS := Lib.hid (show w2 = V1.drew from hI.world)
           exact hI.z hK
         · intro _ A0 w2 hI hd hnd K hK; have e0 := hI.p hd 1 58
           have hS := Lib.hid (show w2 = V1.drew from hI.world)
           exact hI.z hK
         · intro _ A0 w2 hI hd hnd K hK; have e0 := hI.p hd 2 59
           have hS := Lib.hid (show w2 = V1.drew from hI.world)
           have hcc : w2.cell? ⟨J, 22, none⟩ = some (.map (some bi)) := by rw [hS.out]; exact F22.out
           exact hI.z hK
         · intro _ A0 w2 hI hd hnd K hK; have e0 := hI.q hnd 3
           have hS := Lib.hid (show w2 = V1.drew from hI.world)
           exact hI.z hK
         · intro _ A0 w2 hI hd hnd K hK; have e0 := hI.p hd 4 61
           have hS := Lib.hid (show w2 = V1.drew from hI.world)
           have hcc : w2.cell? ⟨w.heap.size, 0, none⟩ = some (.int .i64 xi) := by rw [hS.out]; exact FX0.out
           exact hI.z hK
         · intro _ A0 w2 hI hd hnd K hK; have e0 := hI.q hnd 0
           have hS := Lib.hid (show w2 = V1.drew from hI.world)
           exact hI.z hK
         · intro _ A0 w2 hI hd hnd K hK; have e0 := hI.p hd 6 63
           have hS := Lib.hid (show w2 = V1.drew from hI.world)
           exact hI.z hK
         · intro _ A0 w2 hI hd hnd K hK; have e0 := hI.p hd 7 64
           have hS := Lib.hid (show w2 = V1.drew from hI.world)
           exact hI.z hK
         · intro _ A0 w2 hI hd hnd K hK; have e0 := hI.p hd 8 65
           have hS := Lib.hid (show w2 = V1.drew from hI.world)
           have hcc : w2.cell? ⟨J, 21, none⟩ = some (.slice Av n cv) := by rw [hS.out]; exact F21.out
           exact hI.z hK
         · intro _ A0 w2 hI hd hnd K hK; have e0 := hI.p hd 9 66
           have hS := Lib.hid (show w2 = V1.drew from hI.world)
           exact hI.z hK
       · intro A0 w2 hI
         obtain ⟨x0, g0, h0⟩ := hI.got 0 _ 57 rfl rfl rfl
         obtain ⟨x1, g1, h1⟩ := hI.got 1 _ 58 rfl rfl rfl
         obtain ⟨x2, g2, h2⟩ := hI.got 2 _ 59 rfl rfl rfl
         obtain ⟨x3, g3, h3⟩ := hI.got 3 _ 60 rfl rfl rfl
         obtain ⟨x4, g4, h4⟩ := hI.got 4 _ 61 rfl rfl rfl
         obtain ⟨x5, g5, h5⟩ := hI.got 5 _ 62 rfl rfl rfl
         obtain ⟨x6, g6, h6⟩ := hI.got 6 _ 63 rfl rfl rfl
         obtain ⟨x7, g7, h7⟩ := hI.got 7 _ 64 rfl rfl rfl
         obtain ⟨x8, g8, h8⟩ := hI.got 8 _ 65 rfl rfl rfl
         obtain ⟨x9, g9, h9⟩ := hI.got 9 _ 66 rfl rfl rfl
         obtain ⟨x10, g10, h10⟩ := hI.got 10 _ 67 rfl rfl rfl
         obtain rfl : w2 = V1.drew := hI.world
         have hA : A0 = _ := hI.tmps [(57, x0), (58, x1), (59, x2), (60, x3), (61, x4), (62, x5), (63, x6), (64, x7), (65, x8), (66, x9), (67, x10)] (by simp only [List.mem_cons, List.not_mem_nil, or_false, forall_eq_or_imp, forall_eq]; exact ⟨g0, g1, g2, g3, g4, g5, g6, g7, g8, g9, g10⟩) (by kernel_rfl)
         obtain rfl : x3 = .map (some bi) := h3 _ rfl
         obtain rfl : x5 = .int .i64 xi := h5 _ rfl
         obtain rfl : x10 = .int .i64 (n : Int) := h10 _ rfl
         clear h0 g0 h1 g1 h2 g2 h3 g3 h4 g4 h5 g5 h6 g6 h7 g7 h8 g8 h9 g9 h10 g10 hI
         simp only [setAll, List.foldl, List.setIfInBounds_toArray, List.set_cons_zero, List.set_cons_succ] at hA
         rw [hA]
         clear hA
         simp only [List.drop_succ_cons, List.drop_zero]
         refine wpList_store_o2 rfl rfl _ _ _ rfl bi n _ rfl (HIX1.out.same (w' := V1.drew) rfl) (by unfold maxLen; omega) xi rfl HXI.out (n : Int) rfl (by unfold intBd; omega) ?_
         intro V2 hm2 hf2
         have HM2 := Lib.hid hm2
         have HF2 := Lib.hid (show Fr (fun q => q ≠ bi) V1 V2 from ⟨hf2.os, hf2.tape, hf2.output, hf2.size, hf2.block⟩)
         clear hm2 hf2
         have hsV2 := HF2.out.size
         have HK2 := Lib.hid ((HF2.out.block w.heap.size (by show w.heap.size ≠ bi; have := HBIL.out; omega)).trans HK1.out)
         have F21b := Lib.hid ((HF2.out.cell (p := ⟨J, 21, none⟩) (HJV.out.ne1)).trans F21.out)
         have HMR2 := Lib.hid (HM1.out.fr HF2.out (fun e => HJV.out.ne3 e.symm))
         have HOW2 := Lib.hid (own_same HJV.out.row (fun q hq => (HF2.out.block q (HJV.out.ne4 q hq).2.1).trans (HF1.out.block q (HJV.out.ne4 q hq).2.2)))
         have HF12 := Lib.hid ((HF1.out.mono (fun q (hq : q ≠ bi ∧ q ≠ br) => hq.2)).trans (HF2.out.mono (fun q hq => hq.1)))
         have HZJ := Lib.hid (show V2.heap[J]? = _ from ((HF12.out.block J ⟨HJV.out.ne1, HJV.out.ne2⟩).trans HJV.out.blk))
         clear F21
         obtain ⟨V3, hV3⟩ : ∃ V3, V3 = V2.drew := ⟨_, rfl⟩
         have F21 := Lib.hid (show V3.cell? ⟨J, 21, none⟩ = some (.slice Av n cv) by rw [hV3]; exact F21b.out)
         have HATX := Lib.hid (show At V3 (fun q => q < V3.heap.size ∧ Value.ownBlock (.slice Av n cv) ≠ some q) ⟨w.heap.size, 0, none⟩ [.int .i64 xi, .int .i64 xe, .int .i64 xd, .int .i64 xk, .int .i64 xo, .string xt, .slice Al nl cl] by
          rw [hV3]
          exact ⟨⟨show w.heap.size < V2.drew.heap.size from blk_lt HK2.out, fun e => absurd (HOVL.out w.heap.size e) (Nat.lt_irrefl _)⟩, (box_at (cs := [.int .i64 xi, .int .i64 xe, .int .i64 xd, .int .i64 xk, .int .i64 xo, .string xt, .slice Al nl cl]) (show V2.drew.heap[w.heap.size]? = _ from HK2.out)).2⟩)
         have HOW := Lib.hid (show V3.ownsRow 0 46 7 (.slice Av n cv) n cf by have h := HOW2.out; rw [HN.out, HCF.out] at h; rw [hV3]; exact h)
         have HS3 := Lib.hid (show V3.heap.size = V2.heap.size by rw [hV3]; rfl)
         have hsV3 := HS3.out
         have HFV3 := Lib.hid (show Fr (fun _ => True) V2 V3 by rw [hV3]; exact ⟨rfl, rfl, rfl, Nat.le_refl _, fun _ _ => rfl⟩)
         have HJL := Lib.hid (show J < V3.heap.size by have := HJLT.out; omega)
         have HJN := Lib.hid (show Value.ownBlock (.slice Av n cv) ≠ some J from fun e => (HJV.out.ne4 J e).1 rfl)
         have HOV := Lib.hid (show ∀ q, Value.ownBlock (.slice Av n cv) = some q → q < V3.heap.size from fun q hq => by have := HOVL.out q hq; omega)
         have HCP := Lib.hid (fun (w2 : World) (hS : Fr (fun q => q < V3.heap.size ∧ Value.ownBlock (.slice Av n cv) ≠ some q) V3 w2) => show Calls Tryz.prog 114 #[.agg #[.int .i64 xi, .int .i64 xe, .int .i64 xd, .int .i64 xk, .int .i64 xo, .string xt, .slice Al nl cl]] w2 (CopyPost ⟨xi, xe, xd, xk, xo, xt, ls⟩ w2) by
          have hfl : Fr (fun q => q < w.heap.size ∧ ¬ O q) w w2 := by
           have f1 : Fr (fun q => q < w.heap.size ∧ ¬ O q) w V2 := ((Fr.ofBelow HBV.out).mono (fun q hq => hq.1)).trans (HF12.out.mono (fun q hq => ⟨fun e => hq.2 (e ▸ HJV.out.oi), fun e => hq.2 (e ▸ HJV.out.orr)⟩))
           exact (f1.trans (HFV3.out.mono (fun q hq => trivial))).trans (hS.mono (fun q hq => ⟨by have := HBV.out.size; omega, fun e => hq.2 (HJV.out.ov q e)⟩))
          have hl := (HLXO.out.fr (fun h => LineC.fr h hfl) hfl).mono (Q' := (· < w2.heap.size)) (fun h => LineC.mono h (fun q hq => by have := hfl.size; have := hq.1; omega)) (fun q hq => by have := hfl.size; have := hq.1; omega)
          have h := copied_c xi xe xd xk xo xt ls Al cl w2 (by rw [HNL.out]; exact hl) (by rw [HNL.out]; omega)
          rw [HNL.out] at h
          exact h)
         have HSL := Lib.hid hlt0
         go_upto_region 18 with fail
         have hdr : V2.drew = V3 := hV3.symm
         refine wp_region_invW 9 (Ks V3 [.val (.pointer (some ⟨J, 0, none⟩)), .val (.pointer (some ⟨J, 0, none⟩)), .val (.pointer (some ⟨J, 0, none⟩)), .val (.pointer (some ⟨J, 21, none⟩)), .val (.slice Av n cv), .val (.agg #[.int .i64 xi, .int .i64 xe, .int .i64 xd, .int .i64 xk, .int .i64 xo, .string xt, .slice Al nl cl]), .own (PC V3.heap.size ⟨xi, xe, xd, xk, xo, xt, ls⟩) (PC.keep _ _), .own (PS V3.heap.size ⟨xi, xe, xd, xk, xo, xt, ls⟩) (PS.keep _ _), .own (PA V3 (.slice Av n cv) n cf ⟨xi, xe, xd, xk, xo, xt, ls⟩) (PA.keep _ _ _ _ _)])
          (fun w' => Fr (fun q => q < V3.heap.size ∧ Value.ownBlock (.slice Av n cv) ≠ some q) V3 w' ∧ w'.ownsRow 0 46 7 (.slice Av n cv) n cf) (by kernel_rfl) (by kernel_rfl) (by kernel_rfl) (by decide) (by kernel_rfl) (by kernel_rfl) (by kernel_rfl) (by rw [hdr]; exact ⟨Fr.refl _ _, HOW.out⟩) ?_ ?_
         · refine ⟨?_, ?_, ?_, ?_, ?_, ?_, ?_, ?_, ?_, trivial⟩
           · intro _ A0 w2 hI hd hnd K hK; have e0 := hI.q hnd 0; have hS := hI.world; refine wanted_go rfl ?_; clear hI hd hnd; go_simp
             exact hK.out _ _ hS (Ks.of rfl rfl) (fun _ _ _ h => h)
           · intro _ A0 w2 hI hd hnd K hK; have e0 := hI.q hnd 0; have hS := hI.world; refine wanted_go rfl ?_; clear hI hd hnd; go_simp
             exact hK.out _ _ hS (Ks.of rfl rfl) (fun _ _ _ h => h)
           · intro _ A0 w2 hI hd hnd K hK; have e0 := hI.p hd 1 69; have hS := hI.world; refine wanted_go rfl ?_; clear hI hd hnd; go_simp
             exact hK.out _ _ hS (Ks.of rfl rfl) (fun _ _ _ h => h)
           · intro _ A0 w2 hI hd hnd K hK; have e0 := hI.p hd 2 70; have hS := hI.world; refine wanted_go rfl ?_; clear hI hd hnd; go_simp
             exact hK.out _ _ hS (Ks.of rfl rfl) (fun _ _ _ h => h)
           · intro _ A0 w2 hI hd hnd K hK; have e0 := hI.p hd 3 71; have hS := hI.world; have hcc : w2.cell? ⟨J, 21, none⟩ = some (.slice Av n cv) := (hS.1.cell (p := ⟨J, 21, none⟩) ⟨HJL.out, HJN.out⟩).trans F21.out; refine wanted_go rfl ?_; clear hI hd hnd; go_simp
             exact hK.out _ _ hS (Ks.of rfl rfl) (fun _ _ _ h => h)
           · intro _ A0 w2 hI hd hnd K hK; have e0 := hI.q hnd 3; have hS := hI.world; have hrange : w2.rangeAt w.heap.size 0 [.int .i64 xi, .int .i64 xe, .int .i64 xd, .int .i64 xk, .int .i64 xo, .string xt, .slice Al nl cl] := (HATX.out.fr hS.1).range; have hisize := info_entry; refine wanted_go rfl ?_; clear hI hd hnd
             refine wp_load_mid 46 (.tmp 3) rfl _ _ (by simpa [Act.eval, Array.getD_eq_getD_getElem?] using e0) _ _ hrange Tryz.underlying46 rfl hisize ?_
             exact hK.out _ _ hS (Ks.of rfl rfl) (fun _ _ _ h => h)
           · intro _ A0 w2 hI hd hnd K hK; have e0 := hI.p hd 5 73; have hS := hI.world; refine wanted_go rfl ?_; clear hI hd hnd; go_simp
             go_at_call 114
             refine (HCP.out w2 hS.1).mono ?_
             rintro e w3 ⟨A9, c9, rfl, hl9, h3⟩
             exact hK.out _ _ ⟨hS.1.trans ((Fr.ofBelow h3).mono (fun q hq => Nat.lt_of_lt_of_le hq.1 hS.1.size)), own_below hS.2 h3⟩ (Ks.of rfl ⟨A9, c9, rfl, hl9.mono (fun h => LineC.mono h (fun q hq => ⟨Nat.le_trans hS.1.size hq.1, hq.2⟩)) (fun q hq => ⟨Nat.le_trans hS.1.size hq.1, hq.2⟩)⟩) (Ks.keepW h3)
           · intro _ A0 w2 hI hd hnd K hK
             obtain ⟨x0, e0, h0⟩ := hI.dep hd 6 74 rfl rfl rfl (by kernel_rfl)
             have hS := hI.world
             obtain ⟨A9, c9, rfl, hl9⟩ := h0
             simp only [entA] at e0
             refine wanted_go rfl ?_; clear hI hd hnd; go_simp
             exact hK.out _ _ ⟨hS.1.alloc (fun k hk => hk.1) _, own_below hS.2 (below1 w2 _)⟩ (Ks.of rfl ⟨w2.heap.size, A9, c9, rfl, hS.1.size, heap_alloc_new _ _, lines_up hl9 (below1 w2 _)⟩) (Ks.keepW (below1 w2 _))
           · intro _ A0 w2 hI hd hnd K hK; have e0 := hI.p hd 4 72
             obtain ⟨x1, e1, h1⟩ := hI.dep hd 7 75 rfl rfl rfl (by kernel_rfl)
             have hS := hI.world
             obtain ⟨gq, A9, c9, rfl, hgq, hbk, hl9⟩ := h1
             refine wanted_go rfl ?_; clear hI hd hnd
             refine wp_app2 (w := w2) (.tmp 72) (.tmp 75) 30 rfl 0 46 ia _ 7 80 entries_uty hia hzia hsia hbia rfl (by decide) (.slice Av n cv) n cf (by simpa [Act.eval, Array.getD_eq_getD_getElem?] using e0) hS.2 (fun _ => True) (some ⟨gq, 0, none⟩) 1 1 (entA ⟨xi, xe, xd, xk, xo, xt, ls⟩ A9 c9) (by simpa [Act.eval, Array.getD_eq_getD_getElem?] using e1) (rd_new hbk rfl) (entA_one _ _ _) (by simp only [maxLen]; omega) (by omega) (by omega) (by omega) ?_
             intro v9 w9 hown9 hold9 hg9 hat9
             exact hK.out _ _ ⟨hS.1.grown hg9 (fun k hk => hk.1) (fun k hk hq => hq.2 hk), hold9⟩ (Ks.of rfl ⟨w2, A9, c9, hS.1, hl9, hown9, hg9, hat9⟩) (by
              intro j u hj hV k hk
              have hown := fun q (hq : Value.ownBlock (.slice Av n cv) = some q) => HOV.out q hq
              rcases j with _ | _ | _ | _ | _ | _ | _ | _ | _ | j
              all_goals first | (exact absurd rfl hj) | (cases hk; done) | (cases hk; first | exact hV _ rfl | exact PC.grow (hV _ rfl) hg9 hown | exact PS.grow (hV _ rfl) hg9 hown))
         · intro A0 w2 hI
           obtain ⟨x0, g0, h0⟩ := hI.got 0 _ 68 rfl rfl rfl
           obtain ⟨x1, g1, h1⟩ := hI.got 1 _ 69 rfl rfl rfl
           obtain ⟨x2, g2, h2⟩ := hI.got 2 _ 70 rfl rfl rfl
           obtain ⟨x3, g3, h3⟩ := hI.got 3 _ 71 rfl rfl rfl
           obtain ⟨x4, g4, h4⟩ := hI.got 4 _ 72 rfl rfl rfl
           obtain ⟨x5, g5, h5⟩ := hI.got 5 _ 73 rfl rfl rfl
           obtain ⟨x6, g6, h6⟩ := hI.got 6 _ 74 rfl rfl rfl
           obtain ⟨x7, g7, h7⟩ := hI.got 7 _ 75 rfl rfl rfl
           obtain ⟨x8, g8, h8⟩ := hI.got 8 _ 76 rfl rfl rfl
           have hS := hI.world
           obtain ⟨y77, o77⟩ : ∃ v, A0.tmps[77]? = some v := ⟨_, hI.oldHead 77 (by kernel_rfl)⟩
           obtain ⟨y78, o78⟩ : ∃ v, A0.tmps[78]? = some v := ⟨_, hI.oldHead 78 (by kernel_rfl)⟩
           have hA : A0 = _ := hI.tmps [(68, x0), (69, x1), (70, x2), (71, x3), (72, x4), (73, x5), (74, x6), (75, x7), (76, x8), (77, y77), (78, y78)] (by simp only [List.mem_cons, List.not_mem_nil, or_false, forall_eq_or_imp, forall_eq]; exact ⟨g0, g1, g2, g3, g4, g5, g6, g7, g8, o77, o78⟩) (by kernel_rfl)
           obtain rfl : x0 = .pointer (some ⟨J, 0, none⟩) := h0 _ rfl
           have k8 : (PA V3 (.slice Av n cv) n cf ⟨xi, xe, xd, xk, xo, xt, ls⟩) x8 w2 := h8 _ rfl
           clear h0 g0 h1 g1 h2 g2 h3 g3 h4 g4 h5 g5 h6 g6 h7 g7 h8 g8 o77 o78 hI
           simp only [setAll, List.foldl, List.setIfInBounds_toArray, List.set_cons_zero, List.set_cons_succ] at hA
           rw [hA]
           clear hA
           simp only [List.drop_succ_cons, List.drop_zero]
           obtain ⟨A9, n9, c9, rfl⟩ := own_shape k8.choose_spec.choose_spec.choose_spec.2.2.1
           have K8 := Lib.hid k8
           have HS8 := Lib.hid hS
           have s1 : w2.cell? ⟨J, 21, none⟩ = some (.slice Av n cv) := (hS.1.cell (p := ⟨J, 21, none⟩) ⟨HJL.out, HJN.out⟩).trans F21.out
           have s2 : w2.frozen? ⟨J, 21, none⟩ = false := (hS.1.frozen (p := ⟨J, 21, none⟩) ⟨HJL.out, HJN.out⟩).trans (((HFV3.out.frozen (p := ⟨J, 21, none⟩) trivial)).trans (blk_frozen HZJ.out 21))
           clear k8 hS
           go_wp2_with fail
           go_ret
           refine ⟨by rw [hf.out]; first | done | rfl, ?_⟩
           rw [← HES.out, if_pos hf.out]
           obtain ⟨W3, A8, c8, q1, q2, q3, q4, q5⟩ := K8.out
           have hp := HJV.out.post_ok HP0.out HF12.out (W3 := W3) (by rw [HN.out]; exact HM2.out) (by rw [HN.out]; exact HMR2.out) ((HFV3.out.mono (fun q hq => trivial)).trans (q1.mono (fun q hq => ⟨by have := HS3.out; omega, hq.2⟩)))
            (EntryC.mk HXB.out (q2.mono (fun h => LineC.mono h (fun q hq => ⟨by have := HS3.out; omega, hq.2⟩)) (fun q hq => ⟨by have := HS3.out; omega, hq.2⟩))) (by rw [HN.out, HCF.out]; exact q3) q4 q5 rfl
           exact JPost.of HBV.out hp.1 hp.2.1 hp.2.2.1 hp.2.2.2 HLT.out
      case pos =>
       have hk3b : (xk == 3) = true := by simpa using hk3
       have HK3 := Lib.hid hk3
       clear hk3
       go_upto_region 10 with fail
       go_wp2_with (show wpList _ _ _ (Oper.mk (some 35) _ _ _ _ _ :: _) _ _; refine wpList_load_row_g rfl 46 (.tmp 3) rfl w.heap.size rfl _ _ _ _ HK4.out Tryz.underlying46 rfl info_entry ?_)
       obtain ⟨rv, hrv⟩ : ∃ rv, rvsE es ⟨xi, xe, xd, xk, xo, xt, ls⟩ = rv := ⟨_, rfl⟩
       rw [hrv] at HRE
       have HRV0 := Lib.hid hrv
       clear hrv e3
       refine (HRE.out W4 HB4.out).mono ?_
       rintro e V ⟨rfl, hb5⟩
       have hbv := HB4.out.trans (hb5.mono HB4.out.size)
       have HBV := Lib.hid hbv
       have HKV := Lib.hid ((hb5.block _ hlt4).trans HK4.out)
       have hltv := Nat.lt_of_lt_of_le hlt4 hb5.size
       by_cases hv0 : rv = 0
       case neg =>
        have hvb : (rv != 0) = true := by simp [hv0]
        have hf := Lib.hid (show r = rv from HR.out.symm.trans (postE_3 HCE0.out HIN.out HK3.out HRV0.out hv0))
        have hfn := Lib.hid (show ¬ r = 0 from fun e => hv0 (hf.out.symm.trans e))
        clear hv0
        go_wp2_with fail
        go_ret
        refine ⟨by rw [hf.out]; first | done | rfl, ?_⟩
        rw [← HES.out, if_neg hfn.out]
        exact HJ.out.same hbv
       case pos =>
       have hvb : (rv != 0) = false := by simp [hv0]
       have HR0 := Lib.hid (show r = if 2000 ≤ n then 6 else 0 from by rw [← HN.out]; exact HR.out.symm.trans (postE_4 HCE0.out HIN.out (fun _ => HRV0.out.trans hv0)))
       have HJV := Lib.hid (HJ.out.below hbv)
       clear hv0 hb5 hbv
       have HRV := Lib.hid (show MapO V br n (revO es) by rw [← HN.out]; exact HJV.out.rev)
       have HIXV := Lib.hid (show MapO V bi n _ by rw [← HN.out]; exact HJV.out.idx)
       have HBIL := Lib.hid (HLT.out _ HJV.out.oi)
       have HBRL := Lib.hid (HLT.out _ HJV.out.orr)
       have HJLT := Lib.hid (show J < V.heap.size from blk_lt HJV.out.blk)
       have HOVL := Lib.hid (fun q (hq : Value.ownBlock (.slice Av n cv) = some q) => show q < w.heap.size from HLT.out _ (HJV.out.ov q hq))
       have hltv2 : w.heap.size < V.heap.size := blk_lt HKV.out
       have c21 := HJV.out.cell.1
       have hlim0 := HR0.out
       by_cases hlim : 2000 ≤ n
       case pos =>
        have hl1 : decide ((2000 : Int) ≤ (n : Int)) = true := decide_eq_true (by omega)
        have hf := Lib.hid (show r = 6 from hlim0.trans (if_pos hlim))
        clear hlim hlim0
        go_wp2_with fail
        go_ret
        refine ⟨by rw [hf.out]; first | done | rfl, ?_⟩
        rw [← HES.out, if_neg (by rw [hf.out]; decide)]
        exact HJ.out.same HBV.out
       case neg =>
       have hl1 : decide ((2000 : Int) ≤ (n : Int)) = false := decide_eq_false (by omega)
       have hf := Lib.hid (show r = 0 from hlim0.trans (if_neg hlim))
       have HP0 := Lib.hid (show postE g es ⟨xi, xe, xd, xk, xo, xt, ls⟩ = 0 from HR.out.trans hf.out)
       clear hlim hlim0
       have k3 := blk_cell HKV.out 3
       go_upto_region 16 with fail
       clear k3 c21 hl1
       have F23 := Lib.hid HJV.out.cell.2.2
       have FX4 := Lib.hid (show V.cell? ⟨w.heap.size, 4, none⟩ = some (.int .i64 xo) from blk_cell HKV.out 4)
       have FX0 := Lib.hid (show V.cell? ⟨w.heap.size, 0, none⟩ = some (.int .i64 xi) from blk_cell HKV.out 0)
       refine wp_region_inv3 8 (Ks V [.val (.pointer (some ⟨J, 0, none⟩)), .val (.pointer (some ⟨J, 0, none⟩)), .val (.pointer (some ⟨J, 23, none⟩)), .val (.map (some br)), .val (.pointer (some ⟨w.heap.size, 4, none⟩)), .val (.int .i64 xo), .val (.pointer (some ⟨w.heap.size, 0, none⟩)), .val (.int .i64 xi)])
        (fun w' => w' = V.drew) (by kernel_rfl) (by kernel_rfl) (by kernel_rfl) (by decide) (by kernel_rfl) (by kernel_rfl) (by kernel_rfl) rfl ?_ ?_
       · refine ⟨?_, ?_, ?_, ?_, ?_, ?_, ?_, ?_, trivial⟩
         · intro _ A0 w2 hI hd hnd K hK; have e0 := hI.q hnd 0
           have hS := Lib.hid (show w2 = V.drew from hI.world)
           exact hI.z hK
         · intro _ A0 w2 hI hd hnd K hK; have e0 := hI.p hd 0 49
           have hS := Lib.hid (show w2 = V.drew from hI.world)
           exact hI.z hK
         · intro _ A0 w2 hI hd hnd K hK; have e0 := hI.p hd 1 50
           have hS := Lib.hid (show w2 = V.drew from hI.world)
           exact hI.z hK
         · intro _ A0 w2 hI hd hnd K hK; have e0 := hI.p hd 2 51
           have hS := Lib.hid (show w2 = V.drew from hI.world)
           have hcc : w2.cell? ⟨J, 23, none⟩ = some (.map (some br)) := by rw [hS.out]; exact F23.out
           exact hI.z hK
         · intro _ A0 w2 hI hd hnd K hK; have e0 := hI.q hnd 3
           have hS := Lib.hid (show w2 = V.drew from hI.world)
           exact hI.z hK
         · intro _ A0 w2 hI hd hnd K hK; have e0 := hI.p hd 4 53
           have hS := Lib.hid (show w2 = V.drew from hI.world)
           have hcc : w2.cell? ⟨w.heap.size, 4, none⟩ = some (.int .i64 xo) := by rw [hS.out]; exact FX4.out
           exact hI.z hK
         · intro _ A0 w2 hI hd hnd K hK; have e0 := hI.q hnd 3
           have hS := Lib.hid (show w2 = V.drew from hI.world)
           exact hI.z hK
         · intro _ A0 w2 hI hd hnd K hK; have e0 := hI.p hd 6 55
           have hS := Lib.hid (show w2 = V.drew from hI.world)
           have hcc : w2.cell? ⟨w.heap.size, 0, none⟩ = some (.int .i64 xi) := by rw [hS.out]; exact FX0.out
           exact hI.z hK
       · intro A0 w2 hI
         obtain ⟨x0, g0, h0⟩ := hI.got 0 _ 49 rfl rfl rfl
         obtain ⟨x1, g1, h1⟩ := hI.got 1 _ 50 rfl rfl rfl
         obtain ⟨x2, g2, h2⟩ := hI.got 2 _ 51 rfl rfl rfl
         obtain ⟨x3, g3, h3⟩ := hI.got 3 _ 52 rfl rfl rfl
         obtain ⟨x4, g4, h4⟩ := hI.got 4 _ 53 rfl rfl rfl
         obtain ⟨x5, g5, h5⟩ := hI.got 5 _ 54 rfl rfl rfl
         obtain ⟨x6, g6, h6⟩ := hI.got 6 _ 55 rfl rfl rfl
         obtain ⟨x7, g7, h7⟩ := hI.got 7 _ 56 rfl rfl rfl
         obtain rfl : w2 = V.drew := hI.world
         have hA : A0 = _ := hI.tmps [(49, x0), (50, x1), (51, x2), (52, x3), (53, x4), (54, x5), (55, x6), (56, x7)] (by simp only [List.mem_cons, List.not_mem_nil, or_false, forall_eq_or_imp, forall_eq]; exact ⟨g0, g1, g2, g3, g4, g5, g6, g7⟩) (by kernel_rfl)
         obtain rfl : x3 = .map (some br) := h3 _ rfl
         obtain rfl : x5 = .int .i64 xo := h5 _ rfl
         obtain rfl : x7 = .int .i64 xi := h7 _ rfl
         clear h0 g0 h1 g1 h2 g2 h3 g3 h4 g4 h5 g5 h6 g6 h7 g7 hI
         simp only [setAll, List.foldl, List.setIfInBounds_toArray, List.set_cons_zero, List.set_cons_succ] at hA
         rw [hA]
         clear hA
         simp only [List.drop_succ_cons, List.drop_zero]
         refine wpList_store_o2 rfl rfl _ _ _ rfl br n (revO es) rfl (HRV.out.same (w' := V.drew) rfl) (by unfold maxLen; omega) xo rfl HXO.out xi rfl HXI.out ?_
         intro V1 hm1 hf1
         have HM1 := Lib.hid (show MapO V1 br (n + 1) (revO (es ++ [⟨xi, xe, xd, xk, xo, xt, ls⟩])) from hm1.eqv (fun c => by
          rw [revO_snoc HJV.out.ok HP0.out]
          by_cases hc : c = xo
          · rw [if_pos hc, if_pos ⟨HK3.out, hc⟩]
          · rw [if_neg hc, if_neg (fun h => hc h.2)]))
         have HF1 := Lib.hid (show Fr (fun q => q ≠ br) V V1 from ⟨hf1.os, hf1.tape, hf1.output, hf1.size, hf1.block⟩)
         clear hf1
         have hsV1 := HF1.out.size
         have HK1 := Lib.hid ((HF1.out.block w.heap.size (by show w.heap.size ≠ br; have := HBRL.out; omega)).trans HKV.out)
         have F22 := Lib.hid ((HF1.out.cell (p := ⟨J, 22, none⟩) (HJV.out.ne2)).trans HJV.out.cell.2.1)
         have F21 := Lib.hid ((HF1.out.cell (p := ⟨J, 21, none⟩) (HJV.out.ne2)).trans HJV.out.cell.1)
         have FX0 := Lib.hid (show V1.cell? ⟨w.heap.size, 0, none⟩ = some (.int .i64 xi) from blk_cell HK1.out 0)
         have HIX1 := Lib.hid (HIXV.out.fr HF1.out HJV.out.ne3)
         go_upto_region 17 with fail
         refine wp_region_inv3 11 (Ks V1 [.val (.pointer (some ⟨J, 0, none⟩)), .val (.pointer (some ⟨J, 0, none⟩)), .val (.pointer (some ⟨J, 22, none⟩)), .val (.map (some bi)), .val (.pointer (some ⟨w.heap.size, 0, none⟩)), .val (.int .i64 xi), .val (.pointer (some ⟨J, 0, none⟩)), .val (.pointer (some ⟨J, 0, none⟩)), .val (.pointer (some ⟨J, 21, none⟩)), .val (.slice Av n cv), .val (.int .i64 (n : Int))])
          (fun w' => w' = V1.drew) (by kernel_rfl) (by kernel_rfl) (by kernel_rfl) (by decide) (by kernel_rfl) (by kernel_rfl) (by kernel_rfl) rfl ?_ ?_
         · refine ⟨?_, ?_, ?_, ?_, ?_, ?_, ?_, ?_, ?_, ?_, ?_, trivial⟩
           · intro _ A0 w2 hI hd hnd K hK; have e0 := hI.q hnd 0
             have hS := Lib.hid (show w2 = V1.drew from hI.world)
             exact hI.z hK
           · intro _ A0 w2 hI hd hnd K hK; have e0 := hI.p hd 0 57
             have hS := Lib.hid (show w2 = V1.drew from hI.world)
             exact hI.z hK
           · intro _ A0 w2 hI hd hnd K hK; have e0 := hI.p hd 1 58
             have hS := Lib.hid (show w2 = V1.drew from hI.world)
             exact hI.z hK
           · intro _ A0 w2 hI hd hnd K hK; have e0 := hI.p hd 2 59
             have hS := Lib.hid (show w2 = V1.drew from hI.world)
             have hcc : w2.cell? ⟨J, 22, none⟩ = some (.map (some bi)) := by rw [hS.out]; exact F22.out
             exact hI.z hK
           · intro _ A0 w2 hI hd hnd K hK; have e0 := hI.q hnd 3
             have hS := Lib.hid (show w2 = V1.drew from hI.world)
             exact hI.z hK
           · intro _ A0 w2 hI hd hnd K hK; have e0 := hI.p hd 4 61
             have hS := Lib.hid (show w2 = V1.drew from hI.world)
             have hcc : w2.cell? ⟨w.heap.size, 0, none⟩ = some (.int .i64 xi) := by rw [hS.out]; exact FX0.out
             exact hI.z hK
           · intro _ A0 w2 hI hd hnd K hK; have e0 := hI.q hnd 0
             have hS := Lib.hid (show w2 = V1.drew from hI.world)
             exact hI.z hK
           · intro _ A0 w2 hI hd hnd K hK; have e0 := hI.p hd 6 63
             have hS := Lib.hid (show w2 = V1.drew from hI.world)
             exact hI.z hK
           · intro _ A0 w2 hI hd hnd K hK; have e0 := hI.p hd 7 64
             have hS := Lib.hid (show w2 = V1.drew from hI.world)
             exact hI.z hK
           · intro _ A0 w2 hI hd hnd K hK; have e0 := hI.p hd 8 65
             have hS := Lib.hid (show w2 = V1.drew from hI.world)
             have hcc : w2.cell? ⟨J, 21, none⟩ = some (.slice Av n cv) := by rw [hS.out]; exact F21.out
             exact hI.z hK
           · intro _ A0 w2 hI hd hnd K hK; have e0 := hI.p hd 9 66
             have hS := Lib.hid (show w2 = V1.drew from hI.world)
             exact hI.z hK
         · intro A0 w2 hI
           obtain ⟨x0, g0, h0⟩ := hI.got 0 _ 57 rfl rfl rfl
           obtain ⟨x1, g1, h1⟩ := hI.got 1 _ 58 rfl rfl rfl
           obtain ⟨x2, g2, h2⟩ := hI.got 2 _ 59 rfl rfl rfl
           obtain ⟨x3, g3, h3⟩ := hI.got 3 _ 60 rfl rfl rfl
           obtain ⟨x4, g4, h4⟩ := hI.got 4 _ 61 rfl rfl rfl
           obtain ⟨x5, g5, h5⟩ := hI.got 5 _ 62 rfl rfl rfl
           obtain ⟨x6, g6, h6⟩ := hI.got 6 _ 63 rfl rfl rfl
           obtain ⟨x7, g7, h7⟩ := hI.got 7 _ 64 rfl rfl rfl
           obtain ⟨x8, g8, h8⟩ := hI.got 8 _ 65 rfl rfl rfl
           obtain ⟨x9, g9, h9⟩ := hI.got 9 _ 66 rfl rfl rfl
           obtain ⟨x10, g10, h10⟩ := hI.got 10 _ 67 rfl rfl rfl
           obtain rfl : w2 = V1.drew := hI.world
           have hA : A0 = _ := hI.tmps [(57, x0), (58, x1), (59, x2), (60, x3), (61, x4), (62, x5), (63, x6), (64, x7), (65, x8), (66, x9), (67, x10)] (by simp only [List.mem_cons, List.not_mem_nil, or_false, forall_eq_or_imp, forall_eq]; exact ⟨g0, g1, g2, g3, g4, g5, g6, g7, g8, g9, g10⟩) (by kernel_rfl)
           obtain rfl : x3 = .map (some bi) := h3 _ rfl
           obtain rfl : x5 = .int .i64 xi := h5 _ rfl
           obtain rfl : x10 = .int .i64 (n : Int) := h10 _ rfl
           clear h0 g0 h1 g1 h2 g2 h3 g3 h4 g4 h5 g5 h6 g6 h7 g7 h8 g8 h9 g9 h10 g10 hI
           simp only [setAll, List.foldl, List.setIfInBounds_toArray, List.set_cons_zero, List.set_cons_succ] at hA
           rw [hA]
           clear hA
           simp only [List.drop_succ_cons, List.drop_zero]
           refine wpList_store_o2 rfl rfl _ _ _ rfl bi n _ rfl (HIX1.out.same (w' := V1.drew) rfl) (by unfold maxLen; omega) xi rfl HXI.out (n : Int) rfl (by unfold intBd; omega) ?_
           intro V2 hm2 hf2
           have HM2 := Lib.hid hm2
           have HF2 := Lib.hid (show Fr (fun q => q ≠ bi) V1 V2 from ⟨hf2.os, hf2.tape, hf2.output, hf2.size, hf2.block⟩)
           clear hm2 hf2
           have hsV2 := HF2.out.size
           have HK2 := Lib.hid ((HF2.out.block w.heap.size (by show w.heap.size ≠ bi; have := HBIL.out; omega)).trans HK1.out)
           have F21b := Lib.hid ((HF2.out.cell (p := ⟨J, 21, none⟩) (HJV.out.ne1)).trans F21.out)
           have HMR2 := Lib.hid (HM1.out.fr HF2.out (fun e => HJV.out.ne3 e.symm))
           have HOW2 := Lib.hid (own_same HJV.out.row (fun q hq => (HF2.out.block q (HJV.out.ne4 q hq).2.1).trans (HF1.out.block q (HJV.out.ne4 q hq).2.2)))
           have HF12 := Lib.hid ((HF1.out.mono (fun q (hq : q ≠ bi ∧ q ≠ br) => hq.2)).trans (HF2.out.mono (fun q hq => hq.1)))
           have HZJ := Lib.hid (show V2.heap[J]? = _ from ((HF12.out.block J ⟨HJV.out.ne1, HJV.out.ne2⟩).trans HJV.out.blk))
           clear F21
           obtain ⟨V3, hV3⟩ : ∃ V3, V3 = V2.drew := ⟨_, rfl⟩
           have F21 := Lib.hid (show V3.cell? ⟨J, 21, none⟩ = some (.slice Av n cv) by rw [hV3]; exact F21b.out)
           have HATX := Lib.hid (show At V3 (fun q => q < V3.heap.size ∧ Value.ownBlock (.slice Av n cv) ≠ some q) ⟨w.heap.size, 0, none⟩ [.int .i64 xi, .int .i64 xe, .int .i64 xd, .int .i64 xk, .int .i64 xo, .string xt, .slice Al nl cl] by
            rw [hV3]
            exact ⟨⟨show w.heap.size < V2.drew.heap.size from blk_lt HK2.out, fun e => absurd (HOVL.out w.heap.size e) (Nat.lt_irrefl _)⟩, (box_at (cs := [.int .i64 xi, .int .i64 xe, .int .i64 xd, .int .i64 xk, .int .i64 xo, .string xt, .slice Al nl cl]) (show V2.drew.heap[w.heap.size]? = _ from HK2.out)).2⟩)
           have HOW := Lib.hid (show V3.ownsRow 0 46 7 (.slice Av n cv) n cf by have h := HOW2.out; rw [HN.out, HCF.out] at h; rw [hV3]; exact h)
           have HS3 := Lib.hid (show V3.heap.size = V2.heap.size by rw [hV3]; rfl)
           have hsV3 := HS3.out
           have HFV3 := Lib.hid (show Fr (fun _ => True) V2 V3 by rw [hV3]; exact ⟨rfl, rfl, rfl, Nat.le_refl _, fun _ _ => rfl⟩)
           have HJL := Lib.hid (show J < V3.heap.size by have := HJLT.out; omega)
           have HJN := Lib.hid (show Value.ownBlock (.slice Av n cv) ≠ some J from fun e => (HJV.out.ne4 J e).1 rfl)
           have HOV := Lib.hid (show ∀ q, Value.ownBlock (.slice Av n cv) = some q → q < V3.heap.size from fun q hq => by have := HOVL.out q hq; omega)
           have HCP := Lib.hid (fun (w2 : World) (hS : Fr (fun q => q < V3.heap.size ∧ Value.ownBlock (.slice Av n cv) ≠ some q) V3 w2) => show Calls Tryz.prog 114 #[.agg #[.int .i64 xi, .int .i64 xe, .int .i64 xd, .int .i64 xk, .int .i64 xo, .string xt, .slice Al nl cl]] w2 (CopyPost ⟨xi, xe, xd, xk, xo, xt, ls⟩ w2) by
            have hfl : Fr (fun q => q < w.heap.size ∧ ¬ O q) w w2 := by
             have f1 : Fr (fun q => q < w.heap.size ∧ ¬ O q) w V2 := ((Fr.ofBelow HBV.out).mono (fun q hq => hq.1)).trans (HF12.out.mono (fun q hq => ⟨fun e => hq.2 (e ▸ HJV.out.oi), fun e => hq.2 (e ▸ HJV.out.orr)⟩))
             exact (f1.trans (HFV3.out.mono (fun q hq => trivial))).trans (hS.mono (fun q hq => ⟨by have := HBV.out.size; omega, fun e => hq.2 (HJV.out.ov q e)⟩))
            have hl := (HLXO.out.fr (fun h => LineC.fr h hfl) hfl).mono (Q' := (· < w2.heap.size)) (fun h => LineC.mono h (fun q hq => by have := hfl.size; have := hq.1; omega)) (fun q hq => by have := hfl.size; have := hq.1; omega)
            have h := copied_c xi xe xd xk xo xt ls Al cl w2 (by rw [HNL.out]; exact hl) (by rw [HNL.out]; omega)
            rw [HNL.out] at h
            exact h)
           have HSL := Lib.hid hlt0
           go_upto_region 18 with fail
           have hdr : V2.drew = V3 := hV3.symm
           refine wp_region_invW 9 (Ks V3 [.val (.pointer (some ⟨J, 0, none⟩)), .val (.pointer (some ⟨J, 0, none⟩)), .val (.pointer (some ⟨J, 0, none⟩)), .val (.pointer (some ⟨J, 21, none⟩)), .val (.slice Av n cv), .val (.agg #[.int .i64 xi, .int .i64 xe, .int .i64 xd, .int .i64 xk, .int .i64 xo, .string xt, .slice Al nl cl]), .own (PC V3.heap.size ⟨xi, xe, xd, xk, xo, xt, ls⟩) (PC.keep _ _), .own (PS V3.heap.size ⟨xi, xe, xd, xk, xo, xt, ls⟩) (PS.keep _ _), .own (PA V3 (.slice Av n cv) n cf ⟨xi, xe, xd, xk, xo, xt, ls⟩) (PA.keep _ _ _ _ _)])
            (fun w' => Fr (fun q => q < V3.heap.size ∧ Value.ownBlock (.slice Av n cv) ≠ some q) V3 w' ∧ w'.ownsRow 0 46 7 (.slice Av n cv) n cf) (by kernel_rfl) (by kernel_rfl) (by kernel_rfl) (by decide) (by kernel_rfl) (by kernel_rfl) (by kernel_rfl) (by rw [hdr]; exact ⟨Fr.refl _ _, HOW.out⟩) ?_ ?_
           · refine ⟨?_, ?_, ?_, ?_, ?_, ?_, ?_, ?_, ?_, trivial⟩
             · intro _ A0 w2 hI hd hnd K hK; have e0 := hI.q hnd 0; have hS := hI.world; refine wanted_go rfl ?_; clear hI hd hnd; go_simp
               exact hK.out _ _ hS (Ks.of rfl rfl) (fun _ _ _ h => h)
             · intro _ A0 w2 hI hd hnd K hK; have e0 := hI.q hnd 0; have hS := hI.world; refine wanted_go rfl ?_; clear hI hd hnd; go_simp
               exact hK.out _ _ hS (Ks.of rfl rfl) (fun _ _ _ h => h)
             · intro _ A0 w2 hI hd hnd K hK; have e0 := hI.p hd 1 69; have hS := hI.world; refine wanted_go rfl ?_; clear hI hd hnd; go_simp
               exact hK.out _ _ hS (Ks.of rfl rfl) (fun _ _ _ h => h)
             · intro _ A0 w2 hI hd hnd K hK; have e0 := hI.p hd 2 70; have hS := hI.world; refine wanted_go rfl ?_; clear hI hd hnd; go_simp
               exact hK.out _ _ hS (Ks.of rfl rfl) (fun _ _ _ h => h)
             · intro _ A0 w2 hI hd hnd K hK; have e0 := hI.p hd 3 71; have hS := hI.world; have hcc : w2.cell? ⟨J, 21, none⟩ = some (.slice Av n cv) := (hS.1.cell (p := ⟨J, 21, none⟩) ⟨HJL.out, HJN.out⟩).trans F21.out; refine wanted_go rfl ?_; clear hI hd hnd; go_simp
               exact hK.out _ _ hS (Ks.of rfl rfl) (fun _ _ _ h => h)
             · intro _ A0 w2 hI hd hnd K hK; have e0 := hI.q hnd 3; have hS := hI.world; have hrange : w2.rangeAt w.heap.size 0 [.int .i64 xi, .int .i64 xe, .int .i64 xd, .int .i64 xk, .int .i64 xo, .string xt, .slice Al nl cl] := (HATX.out.fr hS.1).range; have hisize := info_entry; refine wanted_go rfl ?_; clear hI hd hnd
               refine wp_load_mid 46 (.tmp 3) rfl _ _ (by simpa [Act.eval, Array.getD_eq_getD_getElem?] using e0) _ _ hrange Tryz.underlying46 rfl hisize ?_
               exact hK.out _ _ hS (Ks.of rfl rfl) (fun _ _ _ h => h)
             · intro _ A0 w2 hI hd hnd K hK; have e0 := hI.p hd 5 73; have hS := hI.world; refine wanted_go rfl ?_; clear hI hd hnd; go_simp
               go_at_call 114
               refine (HCP.out w2 hS.1).mono ?_
               rintro e w3 ⟨A9, c9, rfl, hl9, h3⟩
               exact hK.out _ _ ⟨hS.1.trans ((Fr.ofBelow h3).mono (fun q hq => Nat.lt_of_lt_of_le hq.1 hS.1.size)), own_below hS.2 h3⟩ (Ks.of rfl ⟨A9, c9, rfl, hl9.mono (fun h => LineC.mono h (fun q hq => ⟨Nat.le_trans hS.1.size hq.1, hq.2⟩)) (fun q hq => ⟨Nat.le_trans hS.1.size hq.1, hq.2⟩)⟩) (Ks.keepW h3)
             · intro _ A0 w2 hI hd hnd K hK
               obtain ⟨x0, e0, h0⟩ := hI.dep hd 6 74 rfl rfl rfl (by kernel_rfl)
               have hS := hI.world
               obtain ⟨A9, c9, rfl, hl9⟩ := h0
               simp only [entA] at e0
               refine wanted_go rfl ?_; clear hI hd hnd; go_simp
               exact hK.out _ _ ⟨hS.1.alloc (fun k hk => hk.1) _, own_below hS.2 (below1 w2 _)⟩ (Ks.of rfl ⟨w2.heap.size, A9, c9, rfl, hS.1.size, heap_alloc_new _ _, lines_up hl9 (below1 w2 _)⟩) (Ks.keepW (below1 w2 _))
             · intro _ A0 w2 hI hd hnd K hK; have e0 := hI.p hd 4 72
               obtain ⟨x1, e1, h1⟩ := hI.dep hd 7 75 rfl rfl rfl (by kernel_rfl)
               have hS := hI.world
               obtain ⟨gq, A9, c9, rfl, hgq, hbk, hl9⟩ := h1
               refine wanted_go rfl ?_; clear hI hd hnd
               refine wp_app2 (w := w2) (.tmp 72) (.tmp 75) 30 rfl 0 46 ia _ 7 80 entries_uty hia hzia hsia hbia rfl (by decide) (.slice Av n cv) n cf (by simpa [Act.eval, Array.getD_eq_getD_getElem?] using e0) hS.2 (fun _ => True) (some ⟨gq, 0, none⟩) 1 1 (entA ⟨xi, xe, xd, xk, xo, xt, ls⟩ A9 c9) (by simpa [Act.eval, Array.getD_eq_getD_getElem?] using e1) (rd_new hbk rfl) (entA_one _ _ _) (by simp only [maxLen]; omega) (by omega) (by omega) (by omega) ?_
               intro v9 w9 hown9 hold9 hg9 hat9
               exact hK.out _ _ ⟨hS.1.grown hg9 (fun k hk => hk.1) (fun k hk hq => hq.2 hk), hold9⟩ (Ks.of rfl ⟨w2, A9, c9, hS.1, hl9, hown9, hg9, hat9⟩) (by
                intro j u hj hV k hk
                have hown := fun q (hq : Value.ownBlock (.slice Av n cv) = some q) => HOV.out q hq
                rcases j with _ | _ | _ | _ | _ | _ | _ | _ | _ | j
                all_goals first | (exact absurd rfl hj) | (cases hk; done) | (cases hk; first | exact hV _ rfl | exact PC.grow (hV _ rfl) hg9 hown | exact PS.grow (hV _ rfl) hg9 hown))
           · intro A0 w2 hI
             obtain ⟨x0, g0, h0⟩ := hI.got 0 _ 68 rfl rfl rfl
             obtain ⟨x1, g1, h1⟩ := hI.got 1 _ 69 rfl rfl rfl
             obtain ⟨x2, g2, h2⟩ := hI.got 2 _ 70 rfl rfl rfl
             obtain ⟨x3, g3, h3⟩ := hI.got 3 _ 71 rfl rfl rfl
             obtain ⟨x4, g4, h4⟩ := hI.got 4 _ 72 rfl rfl rfl
             obtain ⟨x5, g5, h5⟩ := hI.got 5 _ 73 rfl rfl rfl
             obtain ⟨x6, g6, h6⟩ := hI.got 6 _ 74 rfl rfl rfl
             obtain ⟨x7, g7, h7⟩ := hI.got 7 _ 75 rfl rfl rfl
             obtain ⟨x8, g8, h8⟩ := hI.got 8 _ 76 rfl rfl rfl
             have hS := hI.world
             obtain ⟨y77, o77⟩ : ∃ v, A0.tmps[77]? = some v := ⟨_, hI.oldHead 77 (by kernel_rfl)⟩
             obtain ⟨y78, o78⟩ : ∃ v, A0.tmps[78]? = some v := ⟨_, hI.oldHead 78 (by kernel_rfl)⟩
             have hA : A0 = _ := hI.tmps [(68, x0), (69, x1), (70, x2), (71, x3), (72, x4), (73, x5), (74, x6), (75, x7), (76, x8), (77, y77), (78, y78)] (by simp only [List.mem_cons, List.not_mem_nil, or_false, forall_eq_or_imp, forall_eq]; exact ⟨g0, g1, g2, g3, g4, g5, g6, g7, g8, o77, o78⟩) (by kernel_rfl)
             obtain rfl : x0 = .pointer (some ⟨J, 0, none⟩) := h0 _ rfl
             have k8 : (PA V3 (.slice Av n cv) n cf ⟨xi, xe, xd, xk, xo, xt, ls⟩) x8 w2 := h8 _ rfl
             clear h0 g0 h1 g1 h2 g2 h3 g3 h4 g4 h5 g5 h6 g6 h7 g7 h8 g8 o77 o78 hI
             simp only [setAll, List.foldl, List.setIfInBounds_toArray, List.set_cons_zero, List.set_cons_succ] at hA
             rw [hA]
             clear hA
             simp only [List.drop_succ_cons, List.drop_zero]
             obtain ⟨A9, n9, c9, rfl⟩ := own_shape k8.choose_spec.choose_spec.choose_spec.2.2.1
             have K8 := Lib.hid k8
             have HS8 := Lib.hid hS
             have s1 : w2.cell? ⟨J, 21, none⟩ = some (.slice Av n cv) := (hS.1.cell (p := ⟨J, 21, none⟩) ⟨HJL.out, HJN.out⟩).trans F21.out
             have s2 : w2.frozen? ⟨J, 21, none⟩ = false := (hS.1.frozen (p := ⟨J, 21, none⟩) ⟨HJL.out, HJN.out⟩).trans (((HFV3.out.frozen (p := ⟨J, 21, none⟩) trivial)).trans (blk_frozen HZJ.out 21))
             clear k8 hS
             go_wp2_with fail
             go_ret
             refine ⟨by rw [hf.out]; first | done | rfl, ?_⟩
             rw [← HES.out, if_pos hf.out]
             obtain ⟨W3, A8, c8, q1, q2, q3, q4, q5⟩ := K8.out
             have hp := HJV.out.post_ok HP0.out HF12.out (W3 := W3) (by rw [HN.out]; exact HM2.out) (by rw [HN.out]; exact HMR2.out) ((HFV3.out.mono (fun q hq => trivial)).trans (q1.mono (fun q hq => ⟨by have := HS3.out; omega, hq.2⟩)))
              (EntryC.mk HXB.out (q2.mono (fun h => LineC.mono h (fun q hq => ⟨by have := HS3.out; omega, hq.2⟩)) (fun q hq => ⟨by have := HS3.out; omega, hq.2⟩))) (by rw [HN.out, HCF.out]; exact q3) q4 q5 rfl
             exact JPost.of HBV.out hp.1 hp.2.1 hp.2.2.1 hp.2.2.2 HLT.out
end Go.Proofs.YtekelchdbkjjjaaGreat
