/- The walk of journal.groupCopy. Written by gen_i8.py. -/
import Derived.Test.YtekelchdbkjjjaaGreatG17xB0B2
import Derived.Test.YtekelchdbkjjjaaGreatG17xB3B8
import Derived.Test.YtekelchdbkjjjaaGreatG17xB9B13
import Derived.Test.YtekelchdbkjjjaaGreatG17xB14
import Derived.Test.YtekelchdbkjjjaaGreatG17xB16
import Derived.Test.YtekelchdbkjjjaaGreatG17xB17B24
import Derived.Test.YtekelchdbkjjjaaGreatG17xB29B32
import Derived.Test.YtekelchdbkjjjaaGreatG17xB33S2
import Derived.Test.YtekelchdbkjjjaaGreatG17xS3C3
import Derived.Test.YtekelchdbkjjjaaGreatG17xC4E3
import Derived.Test.YtekelchdbkjjjaaGreatG17xE6F1
import Derived.Test.YtekelchdbkjjjaaGreatG17xF2I7
import Derived.Test.YtekelchdbkjjjaaGreatProg
set_option linter.unusedVariables false
set_option linter.unusedSimpArgs false
set_option maxRecDepth 4000
attribute [local go_sem ↓] Go.wp_at_zero Go.wp_at_succ
namespace Go.Proofs.YtekelchdbkjjjaaGreat
open Go Go.RowKit
theorem set2 {c0 c1 c3 : List Value} (a b a' b' : Value) (l0 : c0.length = 1) (l1 : c1.length = 3) (l3 : c3.length = 15) : ((c0 ++ c1 ++ [a] ++ c3 ++ [b]).set 4 a').set 20 b' = c0 ++ c1 ++ [a'] ++ c3 ++ [b'] := by
 simp [List.set_append, l0, l1, l3]
theorem grp_one {w : World} {Q : Nat → Prop} {cs : List Value} {g : XGroup} (h : GroupC w Q cs g) : ∀ u ∈ cs, u.oneCell' = true := fun u hu => by
 obtain ⟨Ac, cc, Ae, ce, rfl, _⟩ := h.lit
 simp only [grpL, List.mem_cons, List.mem_append, List.not_mem_nil, or_false] at hu
 rcases hu with rfl | rfl | rfl | rfl | rfl | rfl | rfl | rfl | rfl | rfl | rfl | rfl | rfl | rfl | rfl | rfl | rfl | rfl | rfl | rfl | rfl <;> rfl
theorem Ks.cells {W w w' : World} {ks : List Kind} {b : Nat} (hb : b < W.heap.size) (hw : ∀ q, q ≠ b → w'.heap[q]? = w.heap[q]?) (hks : ∀ k ∈ ks, (∃ u, k = .val u) ∨ ∃ T size n xs, k = .own (IsRow W T size n xs) (IsRow.keep W T size n xs)) (i : Nat) (v : Value) (h : Ks W ks i v w) : Ks W ks i v w' := fun k hk => by
 have h1 := h k hk
 rcases hks k (List.mem_of_getElem? hk) with ⟨u, rfl⟩ | ⟨T, size, n, xs, rfl⟩
 · exact h1
 · exact own_same (show w.ownsRow W.heap.size T size v n xs from h1) (fun g hg => hw g (by have := ((show w.ownsRow W.heap.size T size v n xs from h1).lt _ hg).1; omega))
set_option maxHeartbeats 4000000 in
theorem groupCopy_c (g : XGroup) (gl : List Value) (w : World) (hg : GroupC w (· < w.heap.size) gl g) (hsm : smallG g) (hpos : 0 < g.entities.length) : Calls Tryz.prog 111 #[.agg gl.toArray] w (GCopyPost g w) := by
 obtain ⟨c0, c1, Ac, cc, c3, Ae, ce, hgl, l0, l1, l3, hch, hen, hbuild⟩ := hg.parts
 have HBUILD := Lib.hid hbuild
 have HCH := Lib.hid hch
 have HEN := Lib.hid hen
 obtain ⟨css, hcl, hc5, hcE, hrd⟩ := rd_css (fun cs x h => EntityC.len h) (by omega) hen
 have hone := css_one (fun cs x h => ent_one h) hcl hcE
 have HCE := Lib.hid hcE
 have HC5 := Lib.hid hc5
 obtain ⟨nc, hnc⟩ : ∃ n, g.chart.length = n := ⟨_, rfl⟩
 obtain ⟨ne, hne⟩ : ∃ n, g.entities.length = n := ⟨_, rfl⟩
 have HNC := Lib.hid hnc
 have HNE := Lib.hid hne
 have hlen : gl.length = 21 := hg.len
 have g4 : gl[4]? = some (.slice Ac nc cc) := by rw [hgl, ← hnc]; simp [List.getElem?_append, l0, l1, l3]
 have g20 : gl[20]? = some (.slice Ae ne ce) := by rw [hgl, ← hne]; simp [List.getElem?_append, l0, l1, l3]
 have HGL := Lib.hid hgl
 have HL0 := Lib.hid l0
 have HL1 := Lib.hid l1
 have HL3 := Lib.hid l3
 have HLEN := Lib.hid hlen
 have HG4 := Lib.hid (show gl.toArray[4]? = some (.slice Ac nc cc) by simpa using g4)
 have HG20 := Lib.hid (show gl.toArray[20]? = some (.slice Ae ne ce) by simpa using g20)
 have hn1 : nc ≤ 100000 := by rw [← hnc]; have := hsm.1; omega
 have hn2 : ne ≤ 100000 := by rw [← hne]; have := hsm.2.1; omega
 have hp : 0 < ne := by rw [← hne]; exact hpos
 have HSM := Lib.hid hsm
 have HRA := Lib.hid (show Rd w (· < w.heap.size) Ac nc 4 (g.chart.flatMap accL) by rw [← hnc]; exact rd_list (fun cs x h => (AccountC.lit h).1) (fun _ => rfl) (by omega) hch)
 obtain ⟨fa, hfa⟩ : ∃ f, g.chart.flatMap accL = f := ⟨_, rfl⟩
 have HFA := Lib.hid hfa
 rw [hfa] at HRA
 have HA1 := Lib.hid (show ∀ u ∈ fa, u.oneCell' = true from hfa ▸ acc_one g.chart)
 rw [hne] at hrd
 obtain ⟨fe, hfe⟩ : ∃ f, css.flatten = f := ⟨_, rfl⟩
 have HFE := Lib.hid hfe
 rw [hfe] at hrd hone
 have HRE := Lib.hid hrd
 have HE1 := Lib.hid hone
 have HGO := Lib.hid (grp_one hg)
 clear hbuild hch hen hcE hc5 hone hrd hnc hne g4 g20 hgl l0 l1 l3 hlen hsm hpos hfa hfe hg hcl
 go_enter Tryz.func111, Tryz.ntmps111
 go_upto_region 1 with fail
 have H := heap_alloc_new w (.cells gl.toArray 29)
 have HB := below1 w (.cells gl.toArray 29)
 have HS := blk_lt H
 generalize hW : w.alloc (Obj.cells gl.toArray 29) = W at *
 have H2 := heap_alloc_new W (.cells #[.string ⟨#[]⟩, .int .i64 0, .int .i64 0, .int .i64 0, .slice none 0 0, .int .i64 0, .int .i64 0, .int .i64 0, .int .i64 0, .int .i64 0, .int .i64 0, .int .i64 0, .int .i64 0, .int .i64 0, .int .i64 0, .int .i64 0, .int .i64 0, .int .i64 0, .int .i64 0, .int .i64 0, .slice none 0 0] 29)
 have HB2 := below1 W (.cells #[.string ⟨#[]⟩, .int .i64 0, .int .i64 0, .int .i64 0, .slice none 0 0, .int .i64 0, .int .i64 0, .int .i64 0, .int .i64 0, .int .i64 0, .int .i64 0, .int .i64 0, .int .i64 0, .int .i64 0, .int .i64 0, .int .i64 0, .int .i64 0, .int .i64 0, .int .i64 0, .int .i64 0, .slice none 0 0] 29)
 have HS2 := blk_lt H2
 replace H := alloc_keep H (Obj.cells #[.string ⟨#[]⟩, .int .i64 0, .int .i64 0, .int .i64 0, .slice none 0 0, .int .i64 0, .int .i64 0, .int .i64 0, .int .i64 0, .int .i64 0, .int .i64 0, .int .i64 0, .int .i64 0, .int .i64 0, .int .i64 0, .int .i64 0, .int .i64 0, .int .i64 0, .int .i64 0, .int .i64 0, .slice none 0 0] 29)
 generalize hW2 : W.alloc (Obj.cells #[.string ⟨#[]⟩, .int .i64 0, .int .i64 0, .int .i64 0, .slice none 0 0, .int .i64 0, .int .i64 0, .int .i64 0, .int .i64 0, .int .i64 0, .int .i64 0, .int .i64 0, .int .i64 0, .int .i64 0, .int .i64 0, .int .i64 0, .int .i64 0, .int .i64 0, .int .i64 0, .int .i64 0, .slice none 0 0] 29) = W2 at *
 clear hW2
 have eW : W.heap.size = w.heap.size + 1 := by rw [← hW]; simp
 rw [eW] at H2
 clear hW
 have hb2 := HB.trans (HB2.mono HB.size)
 have hs2 := HB2.size
 have LT1 := blk_lt H2
 have LT0 : w.heap.size < W2.heap.size := by omega
 have HH := Lib.hid H
 have HZ := Lib.hid H2
 have EW := Lib.hid eW
 clear H H2 eW
 have c4 := (blk_cell HH.out 4).trans HG4.out
 go_wp2_with fail
 refine (cloneA_c Ac nc cc fa W2 ((HRA.out.fr (Fr.ofBelow hb2)).mono (fun q (hq : q < w.heap.size) => Nat.lt_of_lt_of_le hq hb2.size)) HA1.out hn1).mono ?_
 rintro e w3 ⟨v, rfl, hown, hb3⟩
 have hb02 := hb2
 have LT02 := LT0
 have LT12 := LT1
 have HH2 := HH
 have HZ2 := HZ
 have hb03 := hb02.trans (hb3.mono hb02.size)
 have hs3 := hb3.size
 have LT03 := Nat.lt_of_lt_of_le LT02 hs3
 have LT13 := Nat.lt_of_lt_of_le LT12 hs3
 have HH3 := Lib.hid ((hb3.block _ LT02).trans HH2.out)
 have HZ3 := Lib.hid ((hb3.block _ LT12).trans HZ2.out)
 obtain ⟨A1, n1, d1, rfl⟩ := own_shape hown
 obtain rfl := own_val hown
 have HOWN := Lib.hid hown
 have s6 := (blk_cell HH3.out 4).trans HG4.out
 have s7 := blk_frozen HH3.out 4
 clear hown c4
 go_upto_region 2 with fail
 have H4 := heap_setCell_same HH3.out 4 (.slice A1 n1 d1)
 have hb4 : Below w.heap.size w (w3.setCell ⟨w.heap.size, 4, none⟩ (.slice A1 n1 d1)) := hb03.setCell (p := ⟨w.heap.size, 4, none⟩) (Nat.le_refl _) _
 have HZ4 := (Below.heap_setCell w3 ⟨w.heap.size, 4, none⟩ (.slice A1 n1 d1) (w.heap.size + 1) (by show w.heap.size + 1 ≠ w.heap.size; omega)).trans HZ3.out
 have HO4 := own_same (w' := w3.setCell ⟨w.heap.size, 4, none⟩ (.slice A1 n1 d1)) HOWN.out (fun g hg => Below.heap_setCell w3 ⟨w.heap.size, 4, none⟩ _ g (by show g ≠ w.heap.size; have := (HOWN.out.lt _ hg).1; omega))
 have hsz4 : (w3.setCell ⟨w.heap.size, 4, none⟩ (.slice A1 n1 d1)).heap.size = w3.heap.size := by simp
 generalize w3.setCell ⟨w.heap.size, 4, none⟩ (.slice A1 n1 d1) = W4 at *
 obtain ⟨gl1, hgl1⟩ : ∃ l : List Value, l = gl.set 4 (.slice A1 n1 d1) := ⟨_, rfl⟩
 have HK4 := Lib.hid (show W4.heap[w.heap.size]? = some (.cells gl1.toArray 29 (0, 0)) by rw [H4, hgl1]; simp)
 have HG1 := Lib.hid (show gl1.toArray[20]? = some (.slice Ae ne ce) by have := HG20.out; rw [hgl1]; simpa using this)
 have HGL1 := Lib.hid hgl1
 have HZR := Lib.hid HZ4
 have HOW4 := Lib.hid HO4
 have HSZ4 := Lib.hid hsz4
 have hb04 := hb4
 have LT04 : w.heap.size < W4.heap.size := by rw [hsz4]; exact LT03
 have LT14 : w.heap.size + 1 < W4.heap.size := by rw [hsz4]; exact LT13
 have c20 := (blk_cell HK4.out 20).trans HG1.out
 clear H4 HZ4 HO4 hb4 s6 s7 hgl1 hsz4
 go_wp2_with fail
 refine (cloneE_c Ae ne ce fe W4 ((HRE.out.fr (Fr.ofBelow hb04)).mono (fun q (hq : q < w.heap.size) => Nat.lt_of_lt_of_le hq hb04.size)) HE1.out hn2).mono ?_
 rintro e w5 ⟨v, rfl, hown, hb5⟩
 have hb05 := hb04.trans (hb5.mono hb04.size)
 have hs5 := hb5.size
 have HK5 := Lib.hid ((hb5.block _ LT04).trans HK4.out)
 have HZ5 := Lib.hid ((hb5.block _ LT14).trans HZR.out)
 have HOW5 := Lib.hid (own_below HOW4.out (hb5.mono (by have := HSZ4.out; have := hb03.size; have := hb2.size; omega)))
 obtain ⟨gE, d2, rfl, hgE1, hgE2⟩ := hown.form hp
 have hcap : ne ≤ d2 ∧ d2 ≤ maxLen := by
  rcases hown.2 with ⟨h, _⟩ | ⟨g', cap', cur, h, _, _, h3, h4, _⟩
  · simp at h
  · injection h with _ _ e3; omega
 have HCAP := Lib.hid hcap
 have HOE := Lib.hid hown
 have s6 := (blk_cell HK5.out 20).trans HG1.out
 have s7 := blk_frozen HK5.out 20
 clear hown c20 hcap
 go_upto_region 3 with fail
 have H6 := heap_setCell_same HK5.out 20 (.slice (some ⟨gE, 0, none⟩) ne d2)
 have hb6 : Below w.heap.size w (w5.setCell ⟨w.heap.size, 20, none⟩ (.slice (some ⟨gE, 0, none⟩) ne d2)) := hb05.setCell (p := ⟨w.heap.size, 20, none⟩) (Nat.le_refl _) _
 have hfr6 : Fr (fun q => q ≠ w.heap.size) w5 (w5.setCell ⟨w.heap.size, 20, none⟩ (.slice (some ⟨gE, 0, none⟩) ne d2)) := (Fr.refl _ _).setCell (p := ⟨w.heap.size, 20, none⟩) (by simp) _
 have hsz6 : (w5.setCell ⟨w.heap.size, 20, none⟩ (.slice (some ⟨gE, 0, none⟩) ne d2)).heap.size = w5.heap.size := by simp
 generalize w5.setCell ⟨w.heap.size, 20, none⟩ (.slice (some ⟨gE, 0, none⟩) ne d2) = W6 at *
 obtain ⟨gl2, hgl2⟩ : ∃ l : List Value, l = gl1.set 20 (.slice (some ⟨gE, 0, none⟩) ne d2) := ⟨_, rfl⟩
 have HK6 := Lib.hid (show W6.heap[w.heap.size]? = some (.cells gl2.toArray 29 (0, 0)) by rw [H6, hgl2]; simp)
 have hlen1 : gl1.length = 21 := by rw [HGL1.out]; simpa using HLEN.out
 have HG2 := Lib.hid (show gl2.toArray[20]? = some (.slice (some ⟨gE, 0, none⟩) ne d2) by rw [hgl2]; simp [hlen1])
 have HLEN2 := Lib.hid (show gl2.toArray.size = 21 by rw [hgl2]; simpa using hlen1)
 have HGL2 := Lib.hid hgl2
 have HALL2 := Lib.hid (show ∀ u ∈ gl2, u.oneCell' = true by
  intro u hu
  rw [hgl2, HGL1.out] at hu
  rcases List.mem_or_eq_of_mem_set hu with hu | rfl
  · rcases List.mem_or_eq_of_mem_set hu with hu | rfl
    · exact HGO.out u hu
    · rfl
  · rfl)
 have HZ6 := Lib.hid ((hfr6.block (w.heap.size + 1) (by show w.heap.size + 1 ≠ w.heap.size; omega)).trans HZ5.out)
 have hgEw : w.heap.size + 1 < gE := by omega
 have HOW6 := Lib.hid (own_same HOW5.out (fun g hg => hfr6.block g (by show g ≠ w.heap.size; have := (HOWN.out.lt _ hg).1; omega)))
 have hst : EntsAt g.entities w.heap.size gE 0 W6 := fun i hi => by
  obtain ⟨cs, k1, k2⟩ := HCE.out i _ (List.getElem?_eq_getElem hi)
  have hbW : Below w.heap.size w W6 := hb6
  have hrow := own_same (w' := W6) HOE.out (fun g hg => by
   have : g = gE := by simpa [Value.ownBlock] using hg.symm
   subst this
   exact hfr6.block g (by show g ≠ w.heap.size; omega))
  rw [← HFE.out] at hrow
  refine ⟨cs, EntityC.mono (EntityC.fr k2 (Fr.ofBelow hbW)) (fun q hq => .inr ⟨by omega, hq⟩), ?_⟩
  have := At.flat HC5.out 0 (own_at hrow (Q := fun q => q = gE) rfl) i cs k1
  simpa using this
 have HST := Lib.hid hst
 have LT06 : w.heap.size < W6.heap.size := by omega
 have LTE6 : gE < W6.heap.size := by omega
 have HB6 := Lib.hid hb6
 have HSZ6 := Lib.hid hsz6
 have c20 := (blk_cell HK6.out 20).trans HG2.out
 clear H6 hfr6 hgl2 hlen1 s6 s7 hst hb6 hsz6
 go_wp2_with fail
 clear c20
 go_loopw [16] (fun i wr => ∃ k : Nat, k ≤ ne ∧ i = .int .i64 (k : Int) ∧ Fr (QX W6.heap.size gE) W6 wr ∧ EntsAt g.entities w.heap.size gE k wr) (fun i _ => ne - (intOf i).toNat)
 case atStart => exact ⟨0, by omega, rfl, Fr.refl _ _, HST.out⟩
 case round =>
  obtain ⟨k, hk, rfl, hfr, hE⟩ := hrel
  have HF := Lib.hid hfr
  have HEA := Lib.hid hE
  have hsz := hfr.size
  have GLT := Lib.hid (show gE < wr.heap.size by omega)
  have HK7 := Lib.hid ((hfr.block w.heap.size ⟨LT06, by omega⟩).trans HK6.out)
  by_cases hlt : k < ne
  case pos =>
   have hltI : (k : Int) < (ne : Int) := by omega
   have hkl : k < g.entities.length := by rw [HNE.out]; exact hlt
   obtain ⟨cs, k1, k2⟩ := hE k hkl
   obtain ⟨Ac2, cc2, Al, cl, hcs, hc1, hl1⟩ := EntityC.lit k1
   subst hcs
   have hse := HSM.out.2.2.2 _ (List.getElem_mem hkl)
   have HCH2 := Lib.hid hc1
   have HLI2 := Lib.hid hl1
   have k3 := k2.c (j := 2) rfl
   have k4 := k2.c (j := 3) rfl
   have f3 := (k2.2 2 _ rfl).2
   have f4 := (k2.2 3 _ rfl).2
   rw [Addr.add_lit] at f3 f4
   obtain ⟨x, hx⟩ : ∃ x, g.entities[k] = x := ⟨_, rfl⟩
   rw [hx] at k3 k4 hse HCH2 HLI2
   have HX := Lib.hid hx
   obtain ⟨nc2, hnc2⟩ : ∃ n, x.chart.length = n := ⟨_, rfl⟩
   obtain ⟨nl2, hnl2⟩ : ∃ n, x.links.length = n := ⟨_, rfl⟩
   have HNC2 := Lib.hid hnc2
   have HNL2 := Lib.hid hnl2
   have hb1 : nc2 ≤ 100000 := by rw [← hnc2]; have := hse.1; omega
   have hb2' : nl2 ≤ 100000 := by rw [← hnl2]; have := hse.2.1; omega
   rw [hnc2] at k3
   rw [hnl2] at k4
   have hle : w.heap.size ≤ wr.heap.size := by omega
   have hq : ∀ q, QE w.heap.size gE wr.heap.size k k q → q < wr.heap.size := fun q hq => by unfold QE at hq; omega
   have HRC := Lib.hid (show Rd wr (· < wr.heap.size) Ac2 nc2 4 (x.chart.flatMap accL) by rw [← hnc2]; exact (rd_list (fun cs x h => (AccountC.lit h).1) (fun _ => rfl) (by omega) HCH2.out).mono hq)
   have HRK := Lib.hid (show Rd wr (· < wr.heap.size) Al nl2 3 (x.links.flatMap linkL) by rw [← hnl2]; exact (rd_list (fun cs x h => (LinkC.lit h).1) (fun _ => rfl) (by omega) HLI2.out).mono hq)
   obtain ⟨fc, hfc⟩ : ∃ f, x.chart.flatMap accL = f := ⟨_, rfl⟩
   obtain ⟨fk, hfk⟩ : ∃ f, x.links.flatMap linkL = f := ⟨_, rfl⟩
   have HFC := Lib.hid hfc
   have HFK := Lib.hid hfk
   rw [hfc] at HRC
   rw [hfk] at HRK
   have HO1 := Lib.hid (show ∀ u ∈ fc, u.oneCell' = true from hfc ▸ acc_one x.chart)
   have HO2 := Lib.hid (show ∀ u ∈ fk, u.oneCell' = true from hfk ▸ link_one x.links)
   have HCA := Lib.hid (fun (w2 : World) (hS : Below wr.heap.size wr w2) => cloneA_c Ac2 nc2 cc2 fc w2 ((HRC.out.fr (Fr.ofBelow hS)).mono (fun q (hq : q < wr.heap.size) => Nat.lt_of_lt_of_le hq hS.size)) HO1.out hb1)
   have HCK := Lib.hid (fun (w2 : World) (hS : Below wr.heap.size wr w2) => cloneK_c Al nl2 cl fk w2 ((HRK.out.fr (Fr.ofBelow hS)).mono (fun q (hq : q < wr.heap.size) => Nat.lt_of_lt_of_le hq hS.size)) HO2.out hb2')
   have HC2 := Lib.hid k3
   have HC3 := Lib.hid k4
   have HF3 := Lib.hid f3
   have HF4 := Lib.hid f4
   have c20 := (blk_cell HK7.out 20).trans HG2.out
   clear k1 k2 k3 k4 f3 f4 hc1 hl1 hx hnc2 hnl2 hfc hfk hse hE hfr hq
   go_upto_region 7 with fail
   clear c20
   refine wp_region_inv6 14 (fun i => i == 1) (Ks wr [.val (.pointer (some ⟨gE, (k * 5), none⟩)), .val (.pointer (some ⟨gE, (k * 5), none⟩)), .val (.pointer (some ⟨gE, (k * 5), none⟩)), .val (.pointer (some ⟨gE, (k * 5), none⟩)), .val (.pointer (some ⟨gE, (k * 5) + 2, none⟩)), .val (.slice Ac2 nc2 cc2), .own (IsRow wr 87 4 nc2 fc) (IsRow.keep _ _ _ _ _), .val (.pointer (some ⟨gE, (k * 5), none⟩)), .val (.pointer (some ⟨gE, (k * 5), none⟩)), .val (.pointer (some ⟨gE, (k * 5) + 3, none⟩)), .val (.slice Al nl2 cl), .own (IsRow wr 135 3 nl2 fk) (IsRow.keep _ _ _ _ _), .val (.pointer (some ⟨gE, (k * 5), none⟩)), .val (.pointer (some ⟨gE, (k * 5) + 2, none⟩))])
    (fun w' => Below wr.heap.size wr w') (Ks wr [.val (.pointer (some ⟨gE, (k * 5), none⟩)), .val (.pointer (some ⟨gE, (k * 5), none⟩)), .val (.pointer (some ⟨gE, (k * 5), none⟩)), .val (.pointer (some ⟨gE, (k * 5), none⟩)), .val (.pointer (some ⟨gE, (k * 5) + 2, none⟩)), .val (.slice Ac2 nc2 cc2), .own (IsRow wr 87 4 nc2 fc) (IsRow.keep _ _ _ _ _), .val (.pointer (some ⟨gE, (k * 5), none⟩)), .val (.pointer (some ⟨gE, (k * 5), none⟩)), .val (.pointer (some ⟨gE, (k * 5) + 3, none⟩)), .val (.slice Al nl2 cl), .own (IsRow wr 135 3 nl2 fk) (IsRow.keep _ _ _ _ _), .val (.pointer (some ⟨gE, (k * 5), none⟩)), .val (.pointer (some ⟨gE, (k * 5) + 2, none⟩))])
    (fun w' => ∃ (w3 : World) (A3 : Option Addr) (d3 : Nat), Below wr.heap.size wr w3 ∧ IsRow wr 87 4 nc2 fc (.slice A3 nc2 d3) w3 ∧ w' = w3.setCell ⟨gE, (k * 5) + 2, none⟩ (.slice A3 nc2 d3)) (by kernel_rfl) (by kernel_rfl) (by kernel_rfl) (by decide) (by kernel_rfl) (by kernel_rfl) (by kernel_rfl) (by kernel_rfl) rfl (by kernel_rfl) _ rfl rfl (Below.refl _ _).drew ?_ ?_ ?_ ?_
   · refine ⟨?_, ?_, ?_, ?_, ?_, ?_, ?_, ?_, ?_, ?_, ?_, ?_, ?_, ?_, trivial⟩
     iterate 3 (· intro _ A0 w2 hI hd hnd K hK; have e0 := hI.q hnd 4; exact hI.z hK)
     · intro _ A0 w2 hI hd hnd K hK; have e0 := hI.p hd 2 25; exact hI.z hK
     · intro _ A0 w2 hI hd hnd K hK; have e0 := hI.p hd 3 26; exact hI.z hK
     · intro _ A0 w2 hI hd hnd K hK; have e0 := hI.p hd 4 27; have hS := hI.world; have hcc : w2.cell? ⟨gE, (k * 5) + 2, none⟩ = _ := (hS.cell (p := ⟨gE, (k * 5) + 2, none⟩) GLT.out).trans HC2.out; exact hI.z hK
     · intro _ A0 w2 hI hd hnd K hK; have e0 := hI.p hd 5 28; have hS := hI.world; refine wanted_go rfl ?_; clear hI hd hnd; go_simp
       go_at_call 135
       refine (HCA.out w2 hS).mono ?_
       rintro e w3 ⟨v, rfl, hv, h3⟩
       exact hK.out _ _ (hS.trans (h3.mono hS.size)) (Ks.of rfl (show IsRow wr _ _ _ _ v w3 from own_base hv hS.size)) (Ks.keep h3)
     · intro _ A0 w2 hI hd hnd K hK; have e0 := hI.q hnd 4; exact hI.z hK
     · intro _ A0 w2 hI hd hnd K hK; have e0 := hI.p hd 7 30; exact hI.z hK
     · intro _ A0 w2 hI hd hnd K hK; have e0 := hI.p hd 8 31; exact hI.z hK
     · intro _ A0 w2 hI hd hnd K hK; have e0 := hI.p hd 9 32; have hS := hI.world; have hcc : w2.cell? ⟨gE, (k * 5) + 3, none⟩ = _ := (hS.cell (p := ⟨gE, (k * 5) + 3, none⟩) GLT.out).trans HC3.out; exact hI.z hK
     · intro _ A0 w2 hI hd hnd K hK; have e0 := hI.p hd 10 33; have hS := hI.world; refine wanted_go rfl ?_; clear hI hd hnd; go_simp
       go_at_call 137
       refine (HCK.out w2 hS).mono ?_
       rintro e w3 ⟨v, rfl, hv, h3⟩
       exact hK.out _ _ (hS.trans (h3.mono hS.size)) (Ks.of rfl (show IsRow wr _ _ _ _ v w3 from own_base hv hS.size)) (Ks.keep h3)
     · intro _ A0 w2 hI hd hnd K hK; have e0 := hI.p hd 0 23; exact hI.z hK
     · intro _ A0 w2 hI hd hnd K hK; have e0 := hI.p hd 12 35; exact hI.z hK
   · intro _ A0 w2 hI hall K hK
     obtain ⟨x13, g13, h13⟩ := hI.got 13 _ 36 rfl rfl (hall 13 (by decide) rfl)
     obtain ⟨x6, g6, h6⟩ := hI.got 6 _ 29 rfl rfl (hall 6 (by decide) rfl)
     obtain rfl : x13 = .pointer (some ⟨gE, (k * 5) + 2, none⟩) := h13 _ rfl
     have k6 : IsRow wr _ _ _ _ x6 w2 := h6 _ rfl
     obtain ⟨A3, n3, d3, rfl⟩ := own_shape k6
     obtain rfl := own_val k6
     have hS := hI.world
     have s3 : w2.cell? ⟨gE, (k * 5) + 2, none⟩ = some (.slice Ac2 n3 cc2) := (hS.cell (p := ⟨gE, k * 5 + 2, none⟩) GLT.out).trans HC2.out
     have t3 : w2.frozen? ⟨gE, (k * 5) + 2, none⟩ = false := ((Fr.ofBelow hS).frozen (p := ⟨gE, k * 5 + 2, none⟩) GLT.out).trans HF3.out
     have e0 : A0.tmps[36]?.getD undef = .pointer (some ⟨gE, (k * 5) + 2, none⟩) := by simp [g13]
     have e1 : A0.tmps[29]?.getD undef = .slice A3 n3 d3 := by simp [g6]
     have HK := Lib.hid hK
     clear hI hall hK; refine wanted_go rfl ?_; go_simp
     refine HK.out _ ⟨w2, A3, d3, hS, k6, rfl⟩ ?_
     intro i o d u hi ho hd hu hV
     exact Ks.cells (b := gE) GLT.out (fun q hq => Below.heap_setCell w2 ⟨gE, (k * 5) + 2, none⟩ _ q hq) (fun kn hk => by
      simp only [List.mem_cons, List.not_mem_nil, or_false] at hk
      rcases hk with rfl | rfl | rfl | rfl | rfl | rfl | rfl | rfl | rfl | rfl | rfl | rfl | rfl | rfl <;> first | exact .inl ⟨_, rfl⟩ | exact .inr ⟨_, _, _, _, rfl⟩) i u hV
   · refine ⟨fun h => absurd h (by decide), ?_, fun h => absurd h (by decide), fun h => absurd h (by decide), fun h => absurd h (by decide), fun h => absurd h (by decide), fun h => absurd h (by decide), fun h => absurd h (by decide), fun h => absurd h (by decide), fun h => absurd h (by decide), fun h => absurd h (by decide), fun h => absurd h (by decide), fun h => absurd h (by decide), fun h => absurd h (by decide), fun h => absurd h (by decide), trivial⟩
     · intro _; intro _ A0 w2 hI hd hnd K hK; have e0 := hI.q hnd 4; exact hI.z hK
   · intro A0 w2 hI
     obtain ⟨x0, g0, h0⟩ := hI.got 0 _ 23 rfl rfl rfl
     obtain ⟨x1, g1, h1⟩ := hI.got 1 _ 24 rfl rfl rfl
     obtain ⟨x2, g2, h2⟩ := hI.got 2 _ 25 rfl rfl rfl
     obtain ⟨x3, g3, h3⟩ := hI.got 3 _ 26 rfl rfl rfl
     obtain ⟨x4, g4, h4⟩ := hI.got 4 _ 27 rfl rfl rfl
     obtain ⟨x5, g5, h5⟩ := hI.got 5 _ 28 rfl rfl rfl
     obtain ⟨x6, g6, h6⟩ := hI.got 6 _ 29 rfl rfl rfl
     obtain ⟨x7, g7, h7⟩ := hI.got 7 _ 30 rfl rfl rfl
     obtain ⟨x8, g8, h8⟩ := hI.got 8 _ 31 rfl rfl rfl
     obtain ⟨x9, g9, h9⟩ := hI.got 9 _ 32 rfl rfl rfl
     obtain ⟨x10, g10, h10⟩ := hI.got 10 _ 33 rfl rfl rfl
     obtain ⟨x11, g11, h11⟩ := hI.got 11 _ 34 rfl rfl rfl
     obtain ⟨x12, g12, h12⟩ := hI.got 12 _ 35 rfl rfl rfl
     obtain ⟨x13, g13, h13⟩ := hI.got 13 _ 36 rfl rfl rfl
     obtain ⟨w3, A3, d3, hS, k6, hw3⟩ := hI.world
     obtain ⟨y37, o37⟩ : ∃ v, A0.tmps[37]? = some v := ⟨_, hI.oldHead 37 (by kernel_rfl)⟩
     obtain ⟨y38, o38⟩ : ∃ v, A0.tmps[38]? = some v := ⟨_, hI.oldHead 38 (by kernel_rfl)⟩
     have hA : A0 = _ := hI.tmps [(23, x0), (24, x1), (25, x2), (26, x3), (27, x4), (28, x5), (29, x6), (30, x7), (31, x8), (32, x9), (33, x10), (34, x11), (35, x12), (36, x13), (37, y37), (38, y38)] (by simp only [List.mem_cons, List.not_mem_nil, or_false, forall_eq_or_imp, forall_eq]; exact ⟨g0, g1, g2, g3, g4, g5, g6, g7, g8, g9, g10, g11, g12, g13, o37, o38⟩) (by kernel_rfl)
     obtain rfl : x0 = .pointer (some ⟨gE, (k * 5), none⟩) := h0 _ rfl
     obtain rfl : x1 = .pointer (some ⟨gE, (k * 5), none⟩) := h1 _ rfl
     have k6z : (IsRow wr 87 4 nc2 fc) x6 w2 := h6 _ rfl
     have k11 : (IsRow wr 135 3 nl2 fk) x11 w2 := h11 _ rfl
     clear h0 g0 h1 g1 h2 g2 h3 g3 h4 g4 h5 g5 h6 g6 h7 g7 h8 g8 h9 g9 h10 g10 h11 g11 h12 g12 h13 g13 o37 o38 hI
     simp only [setAll, List.foldl, List.setIfInBounds_toArray, List.set_cons_zero, List.set_cons_succ] at hA
     rw [hA]
     clear hA
     simp only [List.drop_succ_cons, List.drop_zero]
     subst hw3
     obtain ⟨A4, n4, d4, rfl⟩ := own_shape k11
     obtain rfl := own_val k11
     have s4 : (w3.setCell ⟨gE, k * 5 + 2, none⟩ (.slice A3 nc2 d3)).cell? ⟨gE, k * 5 + 3, none⟩ = some (.slice Al n4 cl) := (set_other _ _ _ _ _ (by omega)).trans ((hS.cell (p := ⟨gE, k * 5 + 3, none⟩) GLT.out).trans HC3.out)
     have t4 : (w3.setCell ⟨gE, k * 5 + 2, none⟩ (.slice A3 nc2 d3)).frozen? ⟨gE, k * 5 + 3, none⟩ = false := (World.frozen?_setCell _ _ _ _).trans (((Fr.ofBelow hS).frozen (p := ⟨gE, k * 5 + 3, none⟩) GLT.out).trans HF4.out)
     have HS2 := Lib.hid hS
     have K6 := Lib.hid k6
     have K11 := Lib.hid (own_same (w' := w3) k11 (fun g hg => (Below.heap_setCell w3 ⟨gE, k * 5 + 2, none⟩ _ g (by show g ≠ gE; have := (k11.lt _ hg).1; have := GLT.out; omega)).symm))
     clear k6 k6z k11 hS
     go_wp2_with fail
     go_roundw
     case rel =>
      have hS := HS2.out
      have h1 := own_base (base' := gE + 1) K6.out GLT.out
      have h2 := own_base (base' := gE + 1) K11.out GLT.out
      have hEk := HEA.out.fr (w' := w3) (by omega) GLT.out hS
      rw [← HFC.out, ← HNC2.out, ← HX.out] at h1
      rw [← HFK.out, ← HNL2.out, ← HX.out] at h2
      have hst := hEk.step (by omega) (Nat.lt_of_lt_of_le GLT.out hS.size) hkl h1 (by rw [HX.out]; exact accs_bd HCH2.out) h2 (by rw [HX.out]; exact links_bd HLI2.out)
      rw [HX.out, HNC2.out, HNL2.out] at hst
      refine ⟨k + 1, by omega, by go_num, ?_, hst⟩
      exact ((HF.out.trans ((Fr.ofBelow hS).mono (fun q hq => by have := hq.1; omega))).setCell (p := ⟨gE, k * 5 + 2, none⟩) (fun h => h.2 rfl) _).setCell (p := ⟨gE, k * 5 + 3, none⟩) (fun h => h.2 rfl) _
     case measure => first | exact meas_v hlt | (simp only [intOf]; omega)
  case neg =>
   have hltI : ¬ (k : Int) < (ne : Int) := by omega
   have hkn : k = ne := by omega
   subst hkn
   have HZR7 := Lib.hid ((HF.out.block (w.heap.size + 1) ⟨by omega, by omega⟩).trans HZ6.out)
   have hbW : Below w.heap.size w wr := ((Fr.ofBelow HB6.out).trans (HF.out.mono (fun q (hq : q < w.heap.size) => ⟨by omega, by omega⟩))).below
   have HBW := Lib.hid hbW
   have HOW7 := Lib.hid (own_same HOW6.out (fun g hg => HF.out.block g ⟨by have := (HOW6.out.lt _ hg).2; omega, by have := (HOWN.out.lt _ hg).2; have := HSZ4.out; omega⟩))
   clear hfr hE hbW
   go_wp2_with (first | (show wpList _ _ _ (Oper.mk (some 40) _ _ _ _ _ :: _) _ _; refine wpList_load_row_g rfl 29 (.tmp 1) rfl w.heap.size rfl _ _ _ _ HK7.out Tryz.underlying29 rfl (by rw [info_group]; exact congrArg some HLEN2.out.symm) ?_) | (show wpList _ _ _ (Oper.mk none (Op.store _ (Operand.tmp 2) _) _ _ _ _ :: _) _ _; refine wpList_store_row rfl 29 (.tmp 2) (.tmp 40) rfl (w.heap.size + 1) gl2.toArray rfl rfl 29 #[.string ⟨#[]⟩, .int .i64 0, .int .i64 0, .int .i64 0, .slice none 0 0, .int .i64 0, .int .i64 0, .int .i64 0, .int .i64 0, .int .i64 0, .int .i64 0, .int .i64 0, .int .i64 0, .int .i64 0, .int .i64 0, .int .i64 0, .int .i64 0, .int .i64 0, .int .i64 0, .int .i64 0, .slice none 0 0] HZR7.out (by rw [info_group]; exact congrArg some HLEN2.out.symm) (by rw [HLEN2.out]; rfl) ?_ ?_))
   · exact HALL2.out
   refine bodyPost_ret (v := _) (results_cell rfl _ _ (w.heap.size + 1) 29 _ (0, 0) _ rfl (heap_setRow HZR7.out _) Tryz.underlying29 rfl (by rw [info_group]; exact congrArg some HLEN2.out.symm)) rfl ?_
   have hfr2 := fr_setRow wr (w.heap.size + 1) gl2.toArray
   have hss : (wr.setRow (w.heap.size + 1) gl2.toArray).heap.size = wr.heap.size := by simp
   have hbW8 : Below w.heap.size w (wr.setRow (w.heap.size + 1) gl2.toArray) := below_setRow HBW.out (by omega) _
   generalize wr.setRow (w.heap.size + 1) gl2.toArray = W8 at *
   refine ⟨gl2, rfl, ?_, hbW8⟩
   have hgl2 : gl2 = c0 ++ c1 ++ [.slice A1 g.chart.length d1] ++ c3 ++ [.slice (some ⟨gE, 0, none⟩) g.entities.length d2] := by
    rw [HGL2.out, HGL1.out, HGL.out, HNC.out, HNE.out]
    exact set2 _ _ _ _ HL0.out HL1.out HL3.out
   rw [hgl2]
   have hOA := own_same (w' := W8) HOW7.out (fun q hq => hfr2.block q (by show q ≠ w.heap.size + 1; have := (HOWN.out.lt _ hq).1; omega))
   have hcapz := HCAP.out
   refine HBUILD.out W8 _ A1 d1 _ d2 hbW8 (fun q hq => hq) ?_ ?_
   · rw [HNC.out]
     rw [← HNC.out, ← HFA.out] at hOA
     have := own_listF (El := AccountC) (f := accL) (w := W8) (Q := fun q => w.heap.size ≤ q ∧ q < W8.heap.size) (fun _ => rfl) hOA (fun x hx => accC_of (accs_bd HCH.out x hx)) (fun q hq => ⟨by have := (hOA.lt _ hq).1; omega, (hOA.lt _ hq).2⟩)
     rwa [HNC.out] at this
   · refine ⟨_, d2, rfl, by rw [HNE.out]; exact hcapz.1, hcapz.2, fun _ => ⟨gE, 0, rfl, ⟨by omega, by omega⟩, fun i x hx => ?_⟩⟩
     obtain ⟨hi, rfl⟩ := List.getElem?_eq_some_iff.1 hx
     obtain ⟨cs, q1, q2⟩ := HEA.out i hi
     have hik : i < k := by rw [← HNE.out]; exact hi
     refine ⟨cs, EntityC.mono (EntityC.fr q1 (hfr2.mono fun q hq => by unfold QE at hq; show q ≠ w.heap.size + 1; omega)) (fun q hq => by unfold QE at hq; omega), ?_⟩
     have := (q2.fr (hfr2.mono fun q (hq : q = gE) => by show q ≠ w.heap.size + 1; omega)).mono (Q' := fun q => w.heap.size ≤ q ∧ q < W8.heap.size) (fun q hq => by subst hq; exact ⟨by omega, by omega⟩)
     simpa using this
def NewPost (g : XGroup) (w : World) (e : Ending) (w' : World) : Prop := Below w.heap.size w w' ∧
 ((groupB g = false ∧ e = .returned (.tuple #[.pointer none, .int .i64 1])) ∨
  (groupB g = true ∧ ∃ (J : Nat) (D O : Nat → Prop), e = .returned (.tuple #[.pointer (some ⟨J, 0, none⟩), .int .i64 0]) ∧ JC w' D O J g [] ∧ ∀ q, D q ∨ O q → w.heap.size ≤ q))
theorem groupB_pos {g : XGroup} (h : groupB g = true) : 0 < g.entities.length := by
 unfold groupB at h
 simp only [Bool.and_eq_true, decide_eq_true_eq] at h
 exact h.1.1.2.1
theorem JC.made {w w1 W : World} {g : XGroup} {gl : List Value} {cs : Array Value} (hg : GroupC w1 (fun q => w.heap.size ≤ q ∧ q < w1.heap.size) gl g) (hb : Below w.heap.size w w1)
 (hcs : cs = (gl ++ [Value.slice none 0 0, Value.map (some w1.heap.size), Value.map (some (w1.heap.size + 1))]).toArray)
 (hW : W = ((w1.alloc (.map #[] 0)).alloc (.map #[] 0)).alloc (.cells cs 168)) :
 ∃ (D O : Nat → Prop), JC W D O (w1.heap.size + 2) g [] ∧ Below w.heap.size w W ∧ ∀ q, D q ∨ O q → w.heap.size ≤ q := by
 subst hcs
 have e1 : (w1.alloc (.map #[] 0)).heap.size = w1.heap.size + 1 := by simp
 have e2 : ((w1.alloc (.map #[] 0)).alloc (.map #[] 0)).heap.size = w1.heap.size + 2 := by simp
 have b1 := below1 w1 (.map #[] 0)
 have b2 := below1 (w1.alloc (.map #[] 0)) (.map #[] 0)
 have b3 := below1 ((w1.alloc (.map #[] 0)).alloc (.map #[] 0)) (.cells (gl ++ [Value.slice none 0 0, Value.map (some w1.heap.size), Value.map (some (w1.heap.size + 1))]).toArray 168)
 rw [← hW] at b3
 have m1 := MapO.made w1
 have m2 := MapO.made (w1.alloc (.map #[] 0))
 rw [e1] at m2
 have hb1 : Below w1.heap.size w1 W := b1.trans ((b2.trans (b3.mono (by omega))).mono (by omega))
 have hsz := hb.size
 have esz : W.heap.size = w1.heap.size + 3 := by rw [hW]; simp
 have hlt1 := m1.lt
 have hlt2 := m2.lt
 refine ⟨fun q => w.heap.size ≤ q ∧ q < w1.heap.size, fun q => w1.heap.size ≤ q ∧ q < W.heap.size, ⟨gl, [], .slice none 0 0, w1.heap.size, w1.heap.size + 1, ?_⟩, hb.trans (hb1.mono hsz), fun q hq => by rcases hq with hq | hq <;> omega⟩
 exact {
  blk := by
   have := heap_alloc_new ((w1.alloc (.map #[] 0)).alloc (.map #[] 0)) (.cells (gl ++ [Value.slice none 0 0, Value.map (some w1.heap.size), Value.map (some (w1.heap.size + 1))]).toArray 168)
   rw [← hW, e2] at this
   exact this
  grp := GroupC.fr hg ((Fr.ofBelow hb1).mono (fun q hq => hq.2))
  len := rfl
  row := World.ownsRow_nil _ _ _ _
  ent := fun i x hx => by simp at hx
  idx := ((m1.below (b2.mono (by omega))).below (b3.mono (by omega))).eqv (fun c => rfl)
  rev := (m2.below (b3.mono (by omega))).eqv (fun c => rfl)
  oj := ⟨by omega, by omega⟩
  oi := ⟨by omega, by omega⟩
  orr := ⟨by omega, by omega⟩
  ov := fun q hq => by simp [Value.ownBlock] at hq
  ne1 := by omega
  ne2 := by omega
  ne3 := by omega
  ne4 := fun q hq => by simp [Value.ownBlock] at hq
  dis := fun q h1 h2 => by omega
  ltD := fun q h1 => by omega
  ltO := fun q h1 => h1.2
  ok := okJ_nil g }
set_option maxRecDepth 100000 in
theorem journal_built (gl : List Value) (hl : gl.length = 21) (a b : Nat) : Tryz.prog.built 168 [(0, .agg gl.toArray), (2, .map (some a)), (3, .map (some b))] = some (gl ++ [Value.slice none 0 0, Value.map (some a), Value.map (some b)]).toArray :=
 match gl, hl with
 | [x0, x1, x2, x3, x4, x5, x6, x7, x8, x9, x10, x11, x12, x13, x14, x15, x16, x17, x18, x19, x20], _ => by kernel_rfl
set_option maxHeartbeats 2000000 in
theorem new_c (g : XGroup) (gl : List Value) (w : World) (hg : GroupC w (· < w.heap.size) gl g) (hsm : smallG g) : Calls Tryz.prog 81 #[.agg gl.toArray] w (NewPost g w) := by
 have hmm := @run_makeMap Tryz.prog
 have HVAL := Lib.hid (group_v hg hsm)
 have hlen : gl.toArray.size = 21 := by have := hg.len; simpa using this
 have HGS := Lib.hid hlen
 have HCP := Lib.hid (fun (w2 : World) (hb : Below w.heap.size w w2) (hB : groupB g = true) => groupCopy_c g gl w2 (hg.keep hb) hsm (groupB_pos hB))
 obtain ⟨b, hb⟩ : ∃ b, groupB g = b := ⟨_, rfl⟩
 have HB := Lib.hid hb
 rw [hb] at HVAL
 clear hg hsm hlen hb
 go_enter Tryz.func81, Tryz.ntmps81
 go_upto_region 1 with fail
 have H1 := heap_alloc_new w (.cells gl.toArray 29)
 have HB1 := below1 w (.cells gl.toArray 29)
 have HS1 := blk_lt H1
 generalize hW1 : w.alloc (Obj.cells gl.toArray 29) = W at *
 clear hW1
 have HK := Lib.hid H1
 clear H1
 go_wp2_with (show wpList _ _ _ (Oper.mk (some 4) _ _ _ _ _ :: _) _ _; refine wpList_load_row_g rfl 29 (.tmp 1) rfl (w.heap.size) rfl _ _ _ _ HK.out Tryz.underlying29 rfl (by rw [info_group]; exact congrArg some HGS.out.symm) ?_)
 refine (HVAL.out W HB1).mono ?_
 rintro e w2 ⟨rfl, hb2⟩
 have hb02 := HB1.trans (hb2.mono HB1.size)
 have HK2 := Lib.hid ((hb2.block _ HS1).trans HK.out)
 cases b with
 | false =>
  have hf := HB.out
  go_wp2_with fail
  go_ret2
  exact ⟨hb02, .inl ⟨hf, rfl⟩⟩
 | true =>
 go_upto_region 3 with fail
 go_wp2_with (show wpList _ _ _ (Oper.mk (some 7) _ _ _ _ _ :: _) _ _; refine wpList_load_row_g rfl 29 (.tmp 1) rfl (w.heap.size) rfl _ _ _ _ HK2.out Tryz.underlying29 rfl (by rw [info_group]; exact congrArg some HGS.out.symm) ?_)
 refine (HCP.out w2 hb02 HB.out).mono ?_
 rintro e w3 ⟨gl3, rfl, hg3, hb3⟩
 have hl3 : gl3.length = 21 := hg3.len
 have HG3 := Lib.hid hg3
 have HB3 := Lib.hid hb3
 have HL3 := Lib.hid hl3
 clear hg3 hl3 hb3
 obtain ⟨cs, hcs⟩ : ∃ cs : Array Value, cs = (gl3 ++ [Value.slice none 0 0, Value.map (some w3.heap.size), Value.map (some (w3.heap.size + 1))]).toArray := ⟨_, rfl⟩
 have HBLT := Lib.hid ((journal_built gl3 HL3.out w3.heap.size (w3.heap.size + 1)).trans (congrArg some hcs.symm))
 have HCS := Lib.hid hcs
 clear hcs
 go_wp2_with (show wpList _ _ _ (Oper.mk (some 11) _ _ _ _ _ :: _) _ _; go_loud (refine wpList_built rfl 168 _ rfl [(0, .agg gl3.toArray), (2, .map (some w3.heap.size)), (3, .map (some (w3.heap.size + 1)))] (by simp [Act.eval]) cs HBLT.out ?_))
 go_ret2
 obtain ⟨D, O, hJ, hbJ, hDO⟩ := JC.made (w := w) (GroupC.mono HG3.out (fun q hq => by have := hb02.size; omega)) (hb02.trans (HB3.out.mono hb02.size)) HCS.out rfl
 exact ⟨hbJ, .inr ⟨HB.out, _, D, O, by simp, hJ, hDO⟩⟩
def getI (es : List XEntry) (id : Int) : Int := match idxE es id with | some k => (k : Int) | none => -1
theorem getI_some {es : List XEntry} {id : Int} {k : Nat} (hk : k < es.length) (h : es[k].id = id) (hall : ∀ j (hj : j < k), es[j].id ≠ id) : getI es id = k := by
 have : idxE es id = some k := by
  unfold idxE
  rw [List.findIdx?_eq_some_iff_getElem]
  exact ⟨hk, by simpa using h, fun j hj => by simpa using hall j hj⟩
 unfold getI
 rw [this]
theorem getI_none {es : List XEntry} {id : Int} (hall : ∀ j (hj : j < es.length), es[j].id ≠ id) : getI es id = -1 := by
 have : idxE es id = none := by
  unfold idxE
  rw [List.findIdx?_eq_none_iff]
  intro x hx
  obtain ⟨j, hj, rfl⟩ := List.getElem_of_mem hx
  simpa using hall j hj
 unfold getI
 rw [this]
theorem revId_skip : ∀ {es : List XEntry} {id : Int} (k : Nat), (∀ j (hj : j < es.length), j < k → ¬ (es[j].kind = 3 ∧ es[j].of_ = id)) → revId es id = revId (es.drop k) id
 | [], id, k, _ => by simp
 | x :: es, id, 0, _ => rfl
 | x :: es, id, k + 1, h => by
  have h0 := h 0 (by simp) (by omega)
  simp only [List.getElem_cons_zero] at h0
  rw [List.drop_succ_cons]
  show (if x.kind = 3 ∧ x.of_ = id then x.id else revId es id) = _
  rw [if_neg h0]
  exact revId_skip k (fun j hj hk => by have := h (j + 1) (by simp; omega) (by omega); simpa using this)
theorem revId_hit {es : List XEntry} {id : Int} {k : Nat} (hk : k < es.length) (h : es[k].kind = 3 ∧ es[k].of_ = id) (hall : ∀ j (hj : j < es.length), j < k → ¬ (es[j].kind = 3 ∧ es[j].of_ = id)) : revId es id = es[k].id := by
 rw [revId_skip k hall, List.drop_eq_getElem_cons hk]
 show (if es[k].kind = 3 ∧ es[k].of_ = id then es[k].id else _) = _
 rw [if_pos h]
theorem revId_miss {es : List XEntry} {id : Int} (hall : ∀ j (hj : j < es.length), ¬ (es[j].kind = 3 ∧ es[j].of_ = id)) : revId es id = 0 := by
 rw [revId_skip es.length (fun j hj _ => hall j hj), List.drop_length]
 rfl
set_option maxHeartbeats 1000000 in
theorem rget_c (es : List XEntry) (A : Option Addr) (c : Nat) (id : Int) (w : World) (hl : ListC EntryC 7 w (· < w.heap.size) [.slice A es.length c] es) : Calls Tryz.prog 145 #[.slice A es.length c, .int .i64 id] w (Quiet w (.int .i64 (getI es id))) := by
 obtain ⟨r, hr⟩ : ∃ r, getI es id = r := ⟨_, rfl⟩
 rw [hr]
 have HR := Lib.hid hr
 have hbn := hl.cap
 obtain ⟨n, hnl⟩ : ∃ n, es.length = n := ⟨_, rfl⟩
 have HL := Lib.hid hl
 have HN := Lib.hid hnl
 rw [hnl] at hbn ⊢
 unfold maxLen at hbn
 have hn9 : n ≤ 9223372036854775807 := by omega
 clear hr hl hnl hbn
 go_enter Tryz.func145, Tryz.ntmps145
 go_wp2_with fail
 go_loopw [5] (fun i wr => ∃ k : Nat, k ≤ n ∧ i = .int .i64 (k : Int) ∧ Below w.heap.size w wr ∧ ∀ j (hj : j < es.length), j < k → es[j].id ≠ id) (fun i _ => n - (intOf i).toNat)
 case atStart => exact ⟨0, by omega, rfl, Below.refl _ _, fun j hj h => by omega⟩
 case round =>
  obtain ⟨k, hk, rfl, hb, hall⟩ := hrel
  have HALL := Lib.hid hall
  clear hall
  by_cases hlt : k < n
  case pos =>
   have hltI : (k : Int) < (n : Int) := by omega
   have hkl : k < es.length := by rw [HN.out]; exact hlt
   obtain ⟨b, o, cs, hAe, hbw, hes, hat⟩ := ListC.get HL.out k hkl
   subst hAe
   obtain ⟨Al, cl, hcs, _⟩ := EntryC.lit hes
   subst hcs
   have c0 : wr.cell? ⟨b, o + k * 7, none⟩ = _ := (hat.fr (Fr.ofBelow hb)).c (j := 0) rfl
   obtain ⟨xi, hxi⟩ : ∃ xi, es[k].id = xi := ⟨_, rfl⟩
   rw [hxi] at c0
   have HXI := Lib.hid hxi
   have hnz : 0 < n := by omega
   clear hes hat hxi
   by_cases he : xi = id
   case pos =>
    have he1 : (xi == id) = true := by simpa using he
    have hf := Lib.hid (show r = (k : Int) by rw [← HR.out]; exact getI_some hkl (HXI.out.trans he) (fun j hj => HALL.out j (by omega) hj))
    clear he
    go_wp2_with fail
    go_ret
    exact ⟨by rw [hf.out]; first | done | rfl, hb⟩
   case neg =>
    have he1 : (xi == id) = false := by simpa using he
    have HNE := Lib.hid he
    clear he
    go_wp2_with fail
    go_roundw
    case rel => exact ⟨k + 1, by omega, by go_num, hb, fun j hj h => by
     rcases Nat.lt_or_ge j k with h1 | h1
     · exact HALL.out j hj h1
     · have : j = k := by omega
       subst this
       rw [HXI.out]; exact HNE.out⟩
    case measure => first | exact meas_v hlt | (simp only [intOf]; omega)
  case neg =>
   have hltI : ¬ (k : Int) < (n : Int) := by omega
   have hf := Lib.hid (show r = -1 from HR.out.symm.trans (getI_none (fun j hj => HALL.out j hj (by have := HN.out; omega))))
   go_wp2_with fail
   go_ret
   exact ⟨by rw [hf.out]; first | done | rfl, hb⟩
set_option maxHeartbeats 1000000 in
theorem rrev_c (es : List XEntry) (A : Option Addr) (c : Nat) (id : Int) (w : World) (hl : ListC EntryC 7 w (· < w.heap.size) [.slice A es.length c] es) : Calls Tryz.prog 146 #[.slice A es.length c, .int .i64 id] w (Quiet w (.int .i64 (revId es id))) := by
 obtain ⟨r, hr⟩ : ∃ r, revId es id = r := ⟨_, rfl⟩
 rw [hr]
 have HR := Lib.hid hr
 have hbn := hl.cap
 obtain ⟨n, hnl⟩ : ∃ n, es.length = n := ⟨_, rfl⟩
 have HL := Lib.hid hl
 have HN := Lib.hid hnl
 rw [hnl] at hbn ⊢
 unfold maxLen at hbn
 have hn9 : n ≤ 9223372036854775807 := by omega
 clear hr hl hnl hbn
 go_enter Tryz.func146, Tryz.ntmps146
 go_wp2_with fail
 go_loopw [5] (fun i wr => ∃ k : Nat, k ≤ n ∧ i = .int .i64 (k : Int) ∧ Below w.heap.size w wr ∧ ∀ j (hj : j < es.length), j < k → ¬ (es[j].kind = 3 ∧ es[j].of_ = id)) (fun i _ => n - (intOf i).toNat)
 case atStart => exact ⟨0, by omega, rfl, Below.refl _ _, fun j hj h => by omega⟩
 case round =>
  obtain ⟨k, hk, rfl, hb, hall⟩ := hrel
  have HALL := Lib.hid hall
  clear hall
  by_cases hlt : k < n
  case pos =>
   have hltI : (k : Int) < (n : Int) := by omega
   have hkl : k < es.length := by rw [HN.out]; exact hlt
   obtain ⟨b, o, cs, hAe, hbw, hes, hat⟩ := ListC.get HL.out k hkl
   subst hAe
   obtain ⟨Al, cl, hcs, _⟩ := EntryC.lit hes
   subst hcs
   have c3 := (hat.fr (Fr.ofBelow hb)).c (j := 3) rfl
   have c4 := (hat.fr (Fr.ofBelow hb)).c (j := 4) rfl
   have c0 : wr.cell? ⟨b, o + k * 7, none⟩ = _ := (hat.fr (Fr.ofBelow hb)).c (j := 0) rfl
   obtain ⟨x, hx⟩ : ∃ x, es[k] = x := ⟨_, rfl⟩
   rw [hx] at c0 c3 c4
   have HX := Lib.hid hx
   obtain ⟨xi, xe, xd, xk, xo, xt, ls⟩ := x
   simp only at c0 c3 c4
   have hnz : 0 < n := by omega
   clear hes hat hx
   by_cases he : xk = 3
   case neg =>
    have he1 : (xk == 3) = false := by simpa using he
    have HNE := Lib.hid he
    clear he
    go_wp2_with fail
    go_roundw
    case rel => exact ⟨k + 1, by omega, by go_num, hb, fun j hj h => by
     rcases Nat.lt_or_ge j k with h1 | h1
     · exact HALL.out j hj h1
     · have : j = k := by omega
       subst this
       rw [HX.out]; exact fun h => HNE.out h.1⟩
    case measure => first | exact meas_v hlt | (simp only [intOf]; omega)
   case pos =>
    have he1 : (xk == 3) = true := by simpa using he
    have HKE := Lib.hid he
    clear he
    by_cases ho : xo = id
    case pos =>
     have ho1 : (xo == id) = true := by simpa using ho
     have hf := Lib.hid (show r = xi by rw [← HR.out, revId_hit hkl (by rw [HX.out]; exact ⟨HKE.out, ho⟩) HALL.out, HX.out])
     clear ho
     go_wp2_with fail
     go_ret
     exact ⟨by rw [hf.out]; first | done | rfl, hb⟩
    case neg =>
     have ho1 : (xo == id) = false := by simpa using ho
     have HNE := Lib.hid ho
     clear ho
     go_wp2_with fail
     go_roundw
     case rel => exact ⟨k + 1, by omega, by go_num, hb, fun j hj h => by
      rcases Nat.lt_or_ge j k with h1 | h1
      · exact HALL.out j hj h1
      · have : j = k := by omega
        subst this
        rw [HX.out]; exact fun h => HNE.out h.2⟩
     case measure => first | exact meas_v hlt | (simp only [intOf]; omega)
  case neg =>
   have hltI : ¬ (k : Int) < (n : Int) := by omega
   have hf := Lib.hid (show r = 0 from HR.out.symm.trans (revId_miss (fun j hj => HALL.out j hj (by have := HN.out; omega))))
   go_wp2_with fail
   go_ret
   exact ⟨by rw [hf.out]; first | done | rfl, hb⟩
theorem neg_bd {x : XLine} (h : lineBd x) (hm : midL x) : lineBd (negL x) := ⟨h.1, by have h1 := hm.1; have h2 := hm.2; show intBd (-x.amount); unfold intBd; omega, h.2.2⟩
set_option maxHeartbeats 4000000 in
theorem ropp_c (a ls : List XLine) (Aa Al : Option Addr) (ca cl : Nat) (w : World) (ha : ListC LineC 3 w (· < w.heap.size) [.slice Aa a.length ca] a) (hl : ListC LineC 3 w (· < w.heap.size) [.slice Al ls.length cl] ls) (hm : ∀ x ∈ ls, midL x) (hn : ls.length ≤ 1000) : Calls Tryz.prog 147 #[.slice Aa a.length ca, .slice Al ls.length cl] w (Quiet w (.bool (oppB a ls))) := by
 obtain ⟨ia, hia, hzia, hsia, hbia⟩ := info_parts info_lineA
 have HL := Lib.hid hl
 have HMD := Lib.hid hm
 have HA := Lib.hid ha
 obtain ⟨r, hr⟩ : ∃ r, oppB a ls = r := ⟨_, rfl⟩
 rw [hr]
 have HR := Lib.hid hr
 obtain ⟨na, hna⟩ : ∃ n, a.length = n := ⟨_, rfl⟩
 obtain ⟨nl, hnl⟩ : ∃ n, ls.length = n := ⟨_, rfl⟩
 have HN := Lib.hid hnl
 have HNA := Lib.hid hna
 rw [hnl] at hn
 rw [hna, hnl]
 clear hl hm hnl ha hr hna
 go_enter Tryz.func147, Tryz.ntmps147
 go_wp2_with fail
 go_loopw [5, 6] (fun v i wr => ∃ (k : Nat), k ≤ nl ∧ i = .int .i64 (k : Int) ∧ Below w.heap.size w wr ∧ wr.ownsRow w.heap.size 76 3 v k (((ls.take k).map negL).flatMap lineL)) (fun _ i _ => nl - (intOf i).toNat)
 case atStart => exact ⟨0, by omega, rfl, Below.refl _ _, World.ownsRow_nil _ _ _ _⟩
 case round =>
  obtain ⟨k, hk, rfl, hb, how⟩ := hrel
  have HOW := Lib.hid how
  have HBW := Lib.hid hb
  have hsz := hb.size
  by_cases hlt : k < nl
  case pos =>
   have hltI : (k : Int) < (nl : Int) := by omega
   have hkl : k < ls.length := by rw [HN.out]; exact hlt
   obtain ⟨b, o, es, hAe, hbw, hes, hat⟩ := ListC.get HL.out k hkl
   subst hAe
   have hes1 := (LineC.lit hes).1
   rw [hes1] at hat
   have hmd := HMD.out _ (List.getElem_mem hkl)
   have HST := Lib.hid (neg_step hkl)
   obtain ⟨x, hx⟩ : ∃ x, ls[k] = x := ⟨_, rfl⟩
   rw [hx] at hat hmd HST
   obtain ⟨la, lm, lp⟩ := x
   obtain ⟨hm1, hm2⟩ := hmd
   try simp only at hat hm1 hm2
   have HAR := Lib.hid ((hat.fr (Fr.ofBelow hb)).range)
   clear hes hes1 hat hx
   go_upto_region 6 with (show wpList _ _ _ (Oper.mk (some 17) _ _ _ _ _ :: _) _ _; refine wpList_load_mid rfl 76 (.tmp 16) rfl b (o + k * 3) rfl [.int .i64 la, .int .i64 lm, .int .i64 lp] _ HAR.out Tryz.underlying76 rfl info_line ?_)
   have H6 := heap_alloc_new wr (.cells #[.int .i64 la, .int .i64 lm, .int .i64 lp] 76)
   have HB6 := below1 wr (.cells #[.int .i64 la, .int .i64 lm, .int .i64 lp] 76)
   have HS6 := blk_lt H6
   have HOX := how.alloc (.cells #[.int .i64 la, .int .i64 lm, .int .i64 lp] 76)
   generalize hW6 : wr.alloc (Obj.cells #[.int .i64 la, .int .i64 lm, .int .i64 lp] 76) = W6 at *
   clear hW6
   have q1 := blk_cell H6 1
   have q2 := blk_frozen H6 1
   have HOX6 := Lib.hid HOX
   have HK6 := Lib.hid H6
   have hb6 := HB6
   clear H6 how HOX
   go_upto_region 7 with fail
   have H7 := heap_setCell_same HK6.out 1 (.int .i64 (-lm))
   have HB7 : Below wr.heap.size wr (W6.setCell ⟨wr.heap.size, 1, none⟩ (.int .i64 (-lm))) := HB6.setCell (p := ⟨wr.heap.size, 1, none⟩) (Nat.le_refl _) _
   have HO7 := own_same (w' := W6.setCell ⟨wr.heap.size, 1, none⟩ (.int .i64 (-lm))) HOX6.out (fun g hg => Below.heap_setCell W6 ⟨wr.heap.size, 1, none⟩ _ g (by show g ≠ wr.heap.size; have := (HOW.out.lt _ hg).2; omega))
   generalize W6.setCell ⟨wr.heap.size, 1, none⟩ (.int .i64 (-lm)) = W7 at *
   have HK7 := Lib.hid (show W7.heap[wr.heap.size]? = some (.cells #[.int .i64 la, .int .i64 (-lm), .int .i64 lp] 76 (0, 0)) from H7)
   have HOW7 := Lib.hid HO7
   have HBB7 := Lib.hid HB7
   have hsz7 := HB7.size
   clear H7 HO7 HB7 q1 q2
   go_wp2_with (first | (show wpList _ _ _ (Oper.mk (some 23) _ _ _ _ _ :: _) _ _; refine wpList_load_row_g rfl 76 (.tmp 7) rfl wr.heap.size rfl _ _ _ _ HK7.out Tryz.underlying76 rfl info_line ?_) | (at_builtin; go_loud (refine wpList_app _ rfl (.tmp 22) (.tmp 24) 44 rfl w.heap.size 76 ia _ 3 24 lines_uty hia hzia hsia hbia rfl (by decide) u5 k (((ls.take k).map negL).flatMap lineL) rfl (HOW7.out.alloc _) (fun _ => True) (some ⟨W7.heap.size, 0, none⟩) 1 1 [.int .i64 la, .int .i64 (-lm), .int .i64 lp] rfl (rd_new (heap_alloc_new _ _) rfl) (by simp [Value.oneCell']) (by simp only [maxLen]; omega) (by omega) (by simp; omega) ?_); intro v9 w9 hown9 hg9 hat9))
   go_roundw
   case rel =>
    refine ⟨k + 1, by omega, by go_num, ?_, ?_⟩
    · exact below_grown ((HBW.out.trans (HBB7.out.mono hsz)).alloc (by omega) _) hg9 (fun q hq => (HOW.out.lt _ hq).1) (Nat.le_refl _)
    · rw [HST.out]
      exact hown9
   case measure => first | exact meas_v hlt | (simp only [intOf]; omega)
  case neg =>
   have hltI : ¬ (k : Int) < (nl : Int) := by omega
   have hkn : k = nl := by omega
   subst hkn
   have hall : (ls.take k) = ls := List.take_of_length_le (by rw [HN.out]; omega)
   rw [hall] at how
   have hlc : ListC LineC 3 wr (· < wr.heap.size) [u5] (ls.map negL) := own_listL (base := w.heap.size) (by rw [List.length_map, HN.out]; exact how) (fun x hx => by
    obtain ⟨y, hy, rfl⟩ := List.mem_map.1 hx
    exact neg_bd (lines_bd HL.out y hy) (HMD.out y hy)) (fun g hg => (how.lt _ hg).2)
   obtain ⟨A9, c9, rfl⟩ : ∃ A9 c9, u5 = .slice A9 k c9 := by
    obtain ⟨A9, c9, e, _⟩ := hlc
    rw [List.length_map, HN.out] at e
    exact ⟨A9, c9, by simpa using e⟩
   have HSM := Lib.hid (same_c a (ls.map negL) Aa A9 ca c9 wr (lines_keep HA.out hb) (by rw [List.length_map, HN.out]; exact hlc))
   have hcall : Calls Tryz.prog 163 #[.slice Aa na ca, .slice A9 k c9] wr (Quiet wr (.bool r)) := by
    have h := HSM.out
    rw [List.length_map, HN.out, HNA.out, show decide (a = ls.map negL) = r from HR.out] at h
    exact h
   have HCALL := Lib.hid hcall
   clear how hall hlc hcall HSM
   go_wp2_with fail
   refine HCALL.out.mono ?_
   rintro e w9 ⟨rfl, hb9⟩
   go_wp2_with fail
   go_ret
   exact ⟨rfl, HBW.out.trans (hb9.mono hsz)⟩
end Go.Proofs.YtekelchdbkjjjaaGreat
