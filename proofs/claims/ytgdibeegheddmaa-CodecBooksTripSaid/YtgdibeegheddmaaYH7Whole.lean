/- The reference writer: a whole event; whether two are the same; whether one is small. Written by gen_h7.py. -/
import Derived.Test.YtgdibeegheddmaaYH6RefLists
namespace Go.Proofs.Ytgdibeegheddmaa
open Go Go.RowKit
set_option linter.unusedVariables false
set_option linter.unusedSimpArgs false
attribute [local go_sem ↓] Go.wp_at_zero Go.wp_at_succ
theorem At.range {w : World} {Q : Nat → Prop} {b o : Nat} {vs : List Value} (h : At w Q ⟨b, o, none⟩ vs) : w.rangeAt b o vs := fun q u hq => h.c hq
/-- An event is small. -/
structure Few (x : XEvent) : Prop where
  lines : x.entry.lines.length ≤ 100
  etext : x.entry.text.size ≤ 1000
  cur : x.rate.currency.size ≤ 1000
  left : x.match_.left.length ≤ 100
  right : x.match_.right.length ≤ 100
  text : x.text.size ≤ 70000
theorem EntryC.keep {w w' : World} {cs : List Value} {x : XEntry} (h : EntryC w (· < w.heap.size) cs x) (hb : Below w.heap.size w w') : EntryC w' (· < w'.heap.size) cs x :=
  (h.fr (Fr.ofBelow hb)).mono (fun k hk => by have := hb.size; omega)
theorem RateC.keep {w w' : World} {cs : List Value} {x : XRate} (h : RateC w (· < w.heap.size) cs x) (hb : Below w.heap.size w w') : RateC w' (· < w'.heap.size) cs x :=
  (h.fr (Fr.ofBelow hb)).mono (fun k hk => by have := hb.size; omega)
theorem HoldingC.keep {w w' : World} {cs : List Value} {x : XHolding} (h : HoldingC w (· < w.heap.size) cs x) (hb : Below w.heap.size w w') : HoldingC w' (· < w'.heap.size) cs x :=
  (h.fr (Fr.ofBelow hb)).mono (fun k hk => by have := hb.size; omega)
theorem MatchC.keep {w w' : World} {cs : List Value} {x : XMatch} (h : MatchC w (· < w.heap.size) cs x) (hb : Below w.heap.size w w') : MatchC w' (· < w'.heap.size) cs x :=
  (h.fr (Fr.ofBelow hb)).mono (fun k hk => by have := hb.size; omega)
theorem StockC.keep {w w' : World} {cs : List Value} {x : XStock} (h : StockC w (· < w.heap.size) cs x) (hb : Below w.heap.size w w') : StockC w' (· < w'.heap.size) cs x :=
  (h.fr (Fr.ofBelow hb)).mono (fun k hk => by have := hb.size; omega)
theorem EventC.keep {w w' : World} {cs : List Value} {x : XEvent} (h : EventC w (· < w.heap.size) cs x) (hb : Below w.heap.size w w') : EventC w' (· < w'.heap.size) cs x :=
  (h.fr (Fr.ofBelow hb)).mono (fun k hk => by have := hb.size; omega)
theorem LineC.keep {w w' : World} {cs : List Value} {x : XLine} (h : LineC w (· < w.heap.size) cs x) (hb : Below w.heap.size w w') : LineC w' (· < w'.heap.size) cs x :=
  (h.fr (Fr.ofBelow hb)).mono (fun k hk => by have := hb.size; omega)
theorem RefC.keep {w w' : World} {cs : List Value} {x : XRef} (h : RefC w (· < w.heap.size) cs x) (hb : Below w.heap.size w w') : RefC w' (· < w'.heap.size) cs x :=
  (h.fr (Fr.ofBelow hb)).mono (fun k hk => by have := hb.size; omega)
theorem AccountC.keep {w w' : World} {cs : List Value} {x : XAccount} (h : AccountC w (· < w.heap.size) cs x) (hb : Below w.heap.size w w') : AccountC w' (· < w'.heap.size) cs x :=
  (h.fr (Fr.ofBelow hb)).mono (fun k hk => by have := hb.size; omega)
theorem LinkC.keep {w w' : World} {cs : List Value} {x : XLink} (h : LinkC w (· < w.heap.size) cs x) (hb : Below w.heap.size w w') : LinkC w' (· < w'.heap.size) cs x :=
  (h.fr (Fr.ofBelow hb)).mono (fun k hk => by have := hb.size; omega)
theorem EntityC.keep {w w' : World} {cs : List Value} {x : XEntity} (h : EntityC w (· < w.heap.size) cs x) (hb : Below w.heap.size w w') : EntityC w' (· < w'.heap.size) cs x :=
  (h.fr (Fr.ofBelow hb)).mono (fun k hk => by have := hb.size; omega)
theorem GroupC.keep {w w' : World} {cs : List Value} {x : XGroup} (h : GroupC w (· < w.heap.size) cs x) (hb : Below w.heap.size w w') : GroupC w' (· < w'.heap.size) cs x :=
  (h.fr (Fr.ofBelow hb)).mono (fun k hk => by have := hb.size; omega)
theorem BooksC.keep {w w' : World} {cs : List Value} {x : XBooks} (h : BooksC w (· < w.heap.size) cs x) (hb : Below w.heap.size w w') : BooksC w' (· < w'.heap.size) cs x :=
  (h.fr (Fr.ofBelow hb)).mono (fun k hk => by have := hb.size; omega)

theorem rRate_a (x : XRate) (cx : List Value) (w : World) (hx : RateC w (· < w.heap.size) cx x) (hs : x.currency.size ≤ 10000000000) :
    Calls Try.prog 36 #[.agg cx.toArray] w (NewP w (encRate x)) := by
  obtain ⟨_, _, _, _, rfl, h0, ⟨rfl, b1⟩, ⟨rfl, b2⟩, ⟨rfl, b3⟩⟩ := hx
  cases h0
  exact rRate_n _ _ _ _ w hs b1 b2 b3 _ (by simp [encRate])
theorem rHolding_a (x : XHolding) (cx : List Value) (w : World) (hx : HoldingC w (· < w.heap.size) cx x) :
    Calls Try.prog 37 #[.agg cx.toArray] w (NewP w (encHolding x)) := by
  obtain ⟨_, _, _, _, rfl, ⟨rfl, b0⟩, ⟨rfl, b1⟩, ⟨rfl, b2⟩, ⟨rfl, b3⟩⟩ := hx
  exact rHolding_n _ _ _ _ w b0 b1 b2 b3 _ (by simp [encHolding])
theorem rStock_a (x : XStock) (cx : List Value) (w : World) (hx : StockC w (· < w.heap.size) cx x) :
    Calls Try.prog 39 #[.agg cx.toArray] w (NewP w (encStock x)) := by
  obtain ⟨_, _, _, _, _, rfl, ⟨rfl, b0⟩, ⟨rfl, b1⟩, ⟨rfl, b2⟩, ⟨rfl, b3⟩, ⟨rfl, b4⟩⟩ := hx
  exact rStock_n _ _ _ _ _ w b0 b1 b2 b3 b4 _ (by simp [encStock])
theorem encRate_len (x : XRate) : (encRate x).length ≤ 40 + x.currency.size := by
  have h1 := enc_len x.kind
  have h2 := enc_len x.when_
  have h3 := enc_len x.value
  have h4 := encS_len x.currency
  simp only [encRate, List.length_append]
  omega
theorem encHolding_len (x : XHolding) : (encHolding x).length ≤ 40 := by
  have h1 := enc_len x.holder
  have h2 := enc_len x.entity
  have h3 := enc_len x.date
  have h4 := enc_len x.share
  simp only [encHolding, List.length_append]
  omega
theorem encStock_len (x : XStock) : (encStock x).length ≤ 50 := by
  have h1 := enc_len x.period
  have h2 := enc_len x.seller
  have h3 := enc_len x.buyer
  have h4 := enc_len x.amount
  have h5 := enc_len x.margin
  simp only [encStock, List.length_append]
  omega
theorem Few.len {x : XEvent} (h : Few x) : (encEvent x).length ≤ 100000 := by
  have h1 := enc_len x.kind
  have h2 := enc_len x.a
  have h3 := enc_len x.b
  have h4 := encS_len x.text
  have h5 := encEntry_len x.entry
  have h6 := encRate_len x.rate
  have h7 := encHolding_len x.holding
  have h8 := encMatch_len x.match_
  have h9 := encStock_len x.stock
  have := h.lines
  have := h.etext
  have := h.cur
  have := h.left
  have := h.right
  have := h.text
  simp only [encEvent, List.length_append]
  omega
theorem Few.lenAll {x : XEvent} (h : Few x) : (encAll x).length ≤ 100000 := by
  have := h.len
  simp only [encEvent, encAll, List.length_append] at *
  omega
theorem encFields_le (x : XEvent) : (encFields x).length ≤ (encEvent x).length := by
  unfold encFields encEvent
  (repeat' split) <;> simp only [List.length_append, List.length_nil] <;> omega
theorem Few.lenEv {x : XEvent} (h : Few x) : (encEv x).length ≤ 110000 := by
  have h1 := h.len
  have h2 := encFields_le x
  have h3 := enc_len x.kind
  simp only [encEv, List.length_append]
  omega
set_option maxHeartbeats 2000000 in
set_option maxRecDepth 100000 in
theorem rWhole_c (x : XEvent) (cx : List Value) (w : World) (hx : EventC w (· < w.heap.size) cx x) (hf : Few x) :
    Calls Try.prog 45 #[.agg cx.toArray] w (NewP w (encEvent x)) := by
  have HX := Lib.hid hx
  clear hx
  have HLL := Lib.hid (show (encEvent x).length ≤ 100000000000 by have := hf.len; omega)
  have b1 := hf.lines
  have b2 := hf.etext
  have b3 := hf.cur
  have b4 := hf.left
  have b5 := hf.right
  have b6 := hf.text
  go_enter Try.func45, Try.ntmps45
  go_wp2_with fail
  have hbox : (w.alloc (Obj.cells cx.toArray 45)).heap[w.heap.size]? = some (Obj.cells cx.toArray 45) := heap_alloc_new w _
  generalize hW : w.alloc (Obj.cells cx.toArray 45) = W at *
  have hbW : Below w.heap.size w W := by rw [← hW]; exact below1 w _
  have hWs : w.heap.size < W.heap.size := by rw [← hW]; simp
  clear hW
  have hat := EventC.at_ (HX.out.keep hbW) (box_at hbox)
  simp only [Nat.zero_add] at hat
  obtain ⟨⟨C0, i0⟩, ⟨l1, f1, m1⟩, ⟨l2, f2, m2⟩, ⟨l3, f3, m3⟩, ⟨l4, f4, m4⟩, ⟨l5, f5, m5⟩, ⟨C25, i25⟩, ⟨C26, i26⟩, C27⟩ := hat
  have F1 := Lib.hid f1
  have R1 := Lib.hid m1
  have F2 := Lib.hid f2
  have R2 := Lib.hid m2
  have F3 := Lib.hid f3
  have R3 := Lib.hid m3
  have F4 := Lib.hid f4
  have R4 := Lib.hid m4
  have F5 := Lib.hid f5
  have R5 := Lib.hid m5
  clear hbox f1 f2 f3 f4 f5 m1 m2 m3 m4 m5
  refine wp_region_inv (Ks W [.val (.pointer (some ⟨w.heap.size, 0, none⟩)), .val (.int .i64 x.kind), .row (enc x.kind), .val (.pointer (some ⟨w.heap.size, 1, none⟩)), .val (.agg l1.toArray), .row (encEntry x.entry), .val (.pointer (some ⟨w.heap.size, 8, none⟩)), .val (.agg l2.toArray), .row (encRate x.rate), .val (.pointer (some ⟨w.heap.size, 12, none⟩)), .val (.agg l3.toArray), .row (encHolding x.holding), .val (.pointer (some ⟨w.heap.size, 16, none⟩)), .val (.agg l4.toArray), .row (encMatch x.match_), .val (.pointer (some ⟨w.heap.size, 20, none⟩)), .val (.agg l5.toArray), .row (encStock x.stock), .val (.pointer (some ⟨w.heap.size, 25, none⟩)), .val (.int .i64 x.a), .val (.pointer (some ⟨w.heap.size, 26, none⟩)), .val (.int .i64 x.b), .ints [x.a, x.b], .row (([x.a, x.b] : List Int).flatMap enc), .val (.pointer (some ⟨w.heap.size, 27, none⟩)), .val (.string x.text), .row (encS x.text), .parts [enc x.kind, encEntry x.entry, encRate x.rate, encHolding x.holding, encMatch x.match_, encStock x.stock, ([x.a, x.b] : List Int).flatMap enc, encS x.text], .row (encEvent x), .row (encEvent x)])
    (fun w' => Below W.heap.size W w') (by kernel_rfl) (by kernel_rfl) (by kernel_rfl) (Below.refl _ _).drew ?_ ?_
  · refine ⟨?_, ?_, ?_, ?_, ?_, ?_, ?_, ?_, ?_, ?_, ?_, ?_, ?_, ?_, ?_, ?_, ?_, ?_, ?_, ?_, ?_, ?_, ?_, ?_, ?_, ?_, ?_, ?_, ?_, ?_, trivial⟩
    · intro listed A0 w2 hI hd hnd K hK
      have e0 := hI.slot hnd 1 _ rfl (by kernel_rfl)
      have hS := hI.world
      refine wanted_go rfl ?_
      clear hI hd hnd
      go_simp
      exact hK.out _ _ hS (Ks.of rfl rfl) (fun _ _ h => h)
    · intro listed A0 w2 hI hd hnd K hK
      have e0 := hI.depv hd 0 3 _ rfl rfl rfl (by kernel_rfl)
      have hS := hI.world
      have hcc : w2.cell? ⟨w.heap.size, 0, none⟩ = _ := (hS.cell (p := ⟨w.heap.size, 0, none⟩) hWs).trans C0
      refine wanted_go rfl ?_
      clear hI hd hnd
      go_simp
      exact hK.out _ _ hS (Ks.of rfl rfl) (fun _ _ h => h)
    · intro listed A0 w2 hI hd hnd K hK
      have e0 := hI.depv hd 1 4 _ rfl rfl rfl (by kernel_rfl)
      have hS := hI.world
      refine wanted_go rfl ?_
      clear hI hd hnd
      go_simp
      go_at_call 14
      refine (refInt_c x.kind w2 (by first | exact And.left (by assumption) | omega) (by first | exact And.right (by assumption) | omega)).mono ?_
      rintro e w3 hP
      obtain ⟨v, rfl, h1, h2, h3⟩ := NewP.from hP hS
      exact hK.out _ _ h1 (Ks.of rfl h2) (Ks.keep h3)
    · intro listed A0 w2 hI hd hnd K hK
      have e0 := hI.slot hnd 1 _ rfl (by kernel_rfl)
      have hS := hI.world
      refine wanted_go rfl ?_
      clear hI hd hnd
      go_simp
      exact hK.out _ _ hS (Ks.of rfl rfl) (fun _ _ h => h)
    · intro listed A0 w2 hI hd hnd K hK
      have e0 := hI.depv hd 3 6 _ rfl rfl rfl (by kernel_rfl)
      have hS := hI.world
      have hrange := (R1.out.fr (Fr.ofBelow hS)).range
      have hisize : (Try.prog.info? 34).map (·.size) = some l1.length := by rw [info34, (F1.out).len]
      refine wanted_go rfl ?_
      clear hI hd hnd
      refine wp_load_mid 34 (.tmp 6) rfl _ _ (by simpa [Act.eval, Array.getD_eq_getD_getElem?] using e0) _ _ hrange Try.underlying34 rfl hisize ?_
      exact hK.out _ _ hS (Ks.of rfl rfl) (fun _ _ h => h)
    · intro listed A0 w2 hI hd hnd K hK
      have e0 := hI.depv hd 4 7 _ rfl rfl rfl (by kernel_rfl)
      have hS := hI.world
      refine wanted_go rfl ?_
      clear hI hd hnd
      go_simp
      go_at_call 35
      refine (rEntry_c x.entry l1 w2 (F1.out.keep hS) (by omega) (by omega)).mono ?_
      rintro e w3 hP
      obtain ⟨v, rfl, h1, h2, h3⟩ := NewP.from hP hS
      exact hK.out _ _ h1 (Ks.of rfl h2) (Ks.keep h3)
    · intro listed A0 w2 hI hd hnd K hK
      have e0 := hI.slot hnd 1 _ rfl (by kernel_rfl)
      have hS := hI.world
      refine wanted_go rfl ?_
      clear hI hd hnd
      go_simp
      exact hK.out _ _ hS (Ks.of rfl rfl) (fun _ _ h => h)
    · intro listed A0 w2 hI hd hnd K hK
      have e0 := hI.depv hd 6 9 _ rfl rfl rfl (by kernel_rfl)
      have hS := hI.world
      have hrange := (R2.out.fr (Fr.ofBelow hS)).range
      have hisize : (Try.prog.info? 36).map (·.size) = some l2.length := by rw [info36, (F2.out).len]
      refine wanted_go rfl ?_
      clear hI hd hnd
      refine wp_load_mid 36 (.tmp 9) rfl _ _ (by simpa [Act.eval, Array.getD_eq_getD_getElem?] using e0) _ _ hrange Try.underlying36 rfl hisize ?_
      exact hK.out _ _ hS (Ks.of rfl rfl) (fun _ _ h => h)
    · intro listed A0 w2 hI hd hnd K hK
      have e0 := hI.depv hd 7 10 _ rfl rfl rfl (by kernel_rfl)
      have hS := hI.world
      refine wanted_go rfl ?_
      clear hI hd hnd
      go_simp
      go_at_call 36
      refine (rRate_a x.rate l2 w2 (F2.out.keep hS) (by omega)).mono ?_
      rintro e w3 hP
      obtain ⟨v, rfl, h1, h2, h3⟩ := NewP.from hP hS
      exact hK.out _ _ h1 (Ks.of rfl h2) (Ks.keep h3)
    · intro listed A0 w2 hI hd hnd K hK
      have e0 := hI.slot hnd 1 _ rfl (by kernel_rfl)
      have hS := hI.world
      refine wanted_go rfl ?_
      clear hI hd hnd
      go_simp
      exact hK.out _ _ hS (Ks.of rfl rfl) (fun _ _ h => h)
    · intro listed A0 w2 hI hd hnd K hK
      have e0 := hI.depv hd 9 12 _ rfl rfl rfl (by kernel_rfl)
      have hS := hI.world
      have hrange := (R3.out.fr (Fr.ofBelow hS)).range
      have hisize : (Try.prog.info? 38).map (·.size) = some l3.length := by rw [info38, (F3.out).len]
      refine wanted_go rfl ?_
      clear hI hd hnd
      refine wp_load_mid 38 (.tmp 12) rfl _ _ (by simpa [Act.eval, Array.getD_eq_getD_getElem?] using e0) _ _ hrange Try.underlying38 rfl hisize ?_
      exact hK.out _ _ hS (Ks.of rfl rfl) (fun _ _ h => h)
    · intro listed A0 w2 hI hd hnd K hK
      have e0 := hI.depv hd 10 13 _ rfl rfl rfl (by kernel_rfl)
      have hS := hI.world
      refine wanted_go rfl ?_
      clear hI hd hnd
      go_simp
      go_at_call 37
      refine (rHolding_a x.holding l3 w2 (F3.out.keep hS)).mono ?_
      rintro e w3 hP
      obtain ⟨v, rfl, h1, h2, h3⟩ := NewP.from hP hS
      exact hK.out _ _ h1 (Ks.of rfl h2) (Ks.keep h3)
    · intro listed A0 w2 hI hd hnd K hK
      have e0 := hI.slot hnd 1 _ rfl (by kernel_rfl)
      have hS := hI.world
      refine wanted_go rfl ?_
      clear hI hd hnd
      go_simp
      exact hK.out _ _ hS (Ks.of rfl rfl) (fun _ _ h => h)
    · intro listed A0 w2 hI hd hnd K hK
      have e0 := hI.depv hd 12 15 _ rfl rfl rfl (by kernel_rfl)
      have hS := hI.world
      have hrange := (R4.out.fr (Fr.ofBelow hS)).range
      have hisize : (Try.prog.info? 41).map (·.size) = some l4.length := by rw [info41, (F4.out).len]
      refine wanted_go rfl ?_
      clear hI hd hnd
      refine wp_load_mid 41 (.tmp 15) rfl _ _ (by simpa [Act.eval, Array.getD_eq_getD_getElem?] using e0) _ _ hrange Try.underlying41 rfl hisize ?_
      exact hK.out _ _ hS (Ks.of rfl rfl) (fun _ _ h => h)
    · intro listed A0 w2 hI hd hnd K hK
      have e0 := hI.depv hd 13 16 _ rfl rfl rfl (by kernel_rfl)
      have hS := hI.world
      refine wanted_go rfl ?_
      clear hI hd hnd
      go_simp
      go_at_call 38
      refine (rMatch_c x.match_ l4 w2 (F4.out.keep hS) (by omega) (by omega)).mono ?_
      rintro e w3 hP
      obtain ⟨v, rfl, h1, h2, h3⟩ := NewP.from hP hS
      exact hK.out _ _ h1 (Ks.of rfl h2) (Ks.keep h3)
    · intro listed A0 w2 hI hd hnd K hK
      have e0 := hI.slot hnd 1 _ rfl (by kernel_rfl)
      have hS := hI.world
      refine wanted_go rfl ?_
      clear hI hd hnd
      go_simp
      exact hK.out _ _ hS (Ks.of rfl rfl) (fun _ _ h => h)
    · intro listed A0 w2 hI hd hnd K hK
      have e0 := hI.depv hd 15 18 _ rfl rfl rfl (by kernel_rfl)
      have hS := hI.world
      have hrange := (R5.out.fr (Fr.ofBelow hS)).range
      have hisize : (Try.prog.info? 43).map (·.size) = some l5.length := by rw [info43, (F5.out).len]
      refine wanted_go rfl ?_
      clear hI hd hnd
      refine wp_load_mid 43 (.tmp 18) rfl _ _ (by simpa [Act.eval, Array.getD_eq_getD_getElem?] using e0) _ _ hrange Try.underlying43 rfl hisize ?_
      exact hK.out _ _ hS (Ks.of rfl rfl) (fun _ _ h => h)
    · intro listed A0 w2 hI hd hnd K hK
      have e0 := hI.depv hd 16 19 _ rfl rfl rfl (by kernel_rfl)
      have hS := hI.world
      refine wanted_go rfl ?_
      clear hI hd hnd
      go_simp
      go_at_call 39
      refine (rStock_a x.stock l5 w2 (F5.out.keep hS)).mono ?_
      rintro e w3 hP
      obtain ⟨v, rfl, h1, h2, h3⟩ := NewP.from hP hS
      exact hK.out _ _ h1 (Ks.of rfl h2) (Ks.keep h3)
    · intro listed A0 w2 hI hd hnd K hK
      have e0 := hI.slot hnd 1 _ rfl (by kernel_rfl)
      have hS := hI.world
      refine wanted_go rfl ?_
      clear hI hd hnd
      go_simp
      exact hK.out _ _ hS (Ks.of rfl rfl) (fun _ _ h => h)
    · intro listed A0 w2 hI hd hnd K hK
      have e0 := hI.depv hd 18 21 _ rfl rfl rfl (by kernel_rfl)
      have hS := hI.world
      have hcc : w2.cell? ⟨w.heap.size, 25, none⟩ = _ := (hS.cell (p := ⟨w.heap.size, 25, none⟩) hWs).trans C25
      refine wanted_go rfl ?_
      clear hI hd hnd
      go_simp
      exact hK.out _ _ hS (Ks.of rfl rfl) (fun _ _ h => h)
    · intro listed A0 w2 hI hd hnd K hK
      have e0 := hI.slot hnd 1 _ rfl (by kernel_rfl)
      have hS := hI.world
      refine wanted_go rfl ?_
      clear hI hd hnd
      go_simp
      exact hK.out _ _ hS (Ks.of rfl rfl) (fun _ _ h => h)
    · intro listed A0 w2 hI hd hnd K hK
      have e0 := hI.depv hd 20 23 _ rfl rfl rfl (by kernel_rfl)
      have hS := hI.world
      have hcc : w2.cell? ⟨w.heap.size, 26, none⟩ = _ := (hS.cell (p := ⟨w.heap.size, 26, none⟩) hWs).trans C26
      refine wanted_go rfl ?_
      clear hI hd hnd
      go_simp
      exact hK.out _ _ hS (Ks.of rfl rfl) (fun _ _ h => h)
    · intro listed A0 w2 hI hd hnd K hK
      have e0 := hI.depv hd 19 22 _ rfl rfl rfl (by kernel_rfl)
      have e1 := hI.depv hd 21 24 _ rfl rfl rfl (by kernel_rfl)
      have hS := hI.world
      refine wanted_go rfl ?_
      clear hI hd hnd
      go_simp
      exact hK.out _ _ (hS.alloc hS.size _) (Ks.of rfl (NewInts.made (W := W) [x.a, x.b] 2 rfl _ rfl _ rfl)) (Ks.keep (below1 w2 _))
    · intro listed A0 w2 hI hd hnd K hK
      obtain ⟨x0, e0, h0⟩ := hI.dep hd 22 25 rfl rfl rfl (by kernel_rfl)
      obtain ⟨bb0, rfl, hr0⟩ := h0
      have hS := hI.world
      refine wanted_go rfl ?_
      clear hI hd hnd
      go_simp
      go_at_call 41
      refine (ints_n _ _ _ [x.a, x.b] (([x.a, x.b] : List Int).flatMap enc) w2 rfl (rfl) hr0 (by simp [i25, i26]) (by simp)).mono ?_
      rintro e w3 hP
      obtain ⟨v, rfl, h1, h2, h3⟩ := NewP.from hP hS
      exact hK.out _ _ h1 (Ks.of rfl h2) (Ks.keep h3)
    · intro listed A0 w2 hI hd hnd K hK
      have e0 := hI.slot hnd 1 _ rfl (by kernel_rfl)
      have hS := hI.world
      refine wanted_go rfl ?_
      clear hI hd hnd
      go_simp
      exact hK.out _ _ hS (Ks.of rfl rfl) (fun _ _ h => h)
    · intro listed A0 w2 hI hd hnd K hK
      have e0 := hI.depv hd 24 27 _ rfl rfl rfl (by kernel_rfl)
      have hS := hI.world
      have hcc : w2.cell? ⟨w.heap.size, 27, none⟩ = _ := (hS.cell (p := ⟨w.heap.size, 27, none⟩) hWs).trans C27
      refine wanted_go rfl ?_
      clear hI hd hnd
      go_simp
      exact hK.out _ _ hS (Ks.of rfl rfl) (fun _ _ h => h)
    · intro listed A0 w2 hI hd hnd K hK
      have e0 := hI.depv hd 25 28 _ rfl rfl rfl (by kernel_rfl)
      have hS := hI.world
      refine wanted_go rfl ?_
      clear hI hd hnd
      go_simp
      go_at_call 40
      refine (text_c x.text w2 (by omega)).mono ?_
      rintro e w3 hP
      obtain ⟨v, rfl, h1, h2, h3⟩ := NewP.from hP hS
      exact hK.out _ _ h1 (Ks.of rfl h2) (Ks.keep h3)
    · intro listed A0 w2 hI hd hnd K hK
      obtain ⟨x0, e0, h0⟩ := hI.dep hd 2 5 rfl rfl rfl (by kernel_rfl)
      obtain ⟨x1, e1, h1⟩ := hI.dep hd 5 8 rfl rfl rfl (by kernel_rfl)
      obtain ⟨x2, e2, h2⟩ := hI.dep hd 8 11 rfl rfl rfl (by kernel_rfl)
      obtain ⟨x3, e3, h3⟩ := hI.dep hd 11 14 rfl rfl rfl (by kernel_rfl)
      obtain ⟨x4, e4, h4⟩ := hI.dep hd 14 17 rfl rfl rfl (by kernel_rfl)
      obtain ⟨x5, e5, h5⟩ := hI.dep hd 17 20 rfl rfl rfl (by kernel_rfl)
      obtain ⟨x6, e6, h6⟩ := hI.dep hd 23 26 rfl rfl rfl (by kernel_rfl)
      obtain ⟨x7, e7, h7⟩ := hI.dep hd 26 29 rfl rfl rfl (by kernel_rfl)
      have hS := hI.world
      obtain ⟨A0, n0, c0, rfl⟩ := Bytes.shape h0.1
      obtain ⟨A1, n1, c1, rfl⟩ := Bytes.shape h1.1
      obtain ⟨A2, n2, c2, rfl⟩ := Bytes.shape h2.1
      obtain ⟨A3, n3, c3, rfl⟩ := Bytes.shape h3.1
      obtain ⟨A4, n4, c4, rfl⟩ := Bytes.shape h4.1
      obtain ⟨A5, n5, c5, rfl⟩ := Bytes.shape h5.1
      obtain ⟨A6, n6, c6, rfl⟩ := Bytes.shape h6.1
      obtain ⟨A7, n7, c7, rfl⟩ := Bytes.shape h7.1
      have HPP := Lib.hid (Parts.cons h0 (Parts.cons h1 (Parts.cons h2 (Parts.cons h3 (Parts.cons h4 (Parts.cons h5 (Parts.cons h6 (Parts.cons h7 (Parts.nil w2)))))))))
      refine wanted_go rfl ?_
      clear hI hd hnd h0 h1 h2 h3 h4 h5 h6 h7
      go_simp
      exact hK.out _ _ (hS.alloc hS.size _) (Ks.of rfl (NewParts.made (W := W) _ [enc x.kind, encEntry x.entry, encRate x.rate, encHolding x.holding, encMatch x.match_, encStock x.stock, ([x.a, x.b] : List Int).flatMap enc, encS x.text] 8 rfl rfl _ rfl _ rfl HPP.out)) (Ks.keep (below1 w2 _))
    · intro listed A0 w2 hI hd hnd K hK
      obtain ⟨x0, e0, h0⟩ := hI.dep hd 27 30 rfl rfl rfl (by kernel_rfl)
      obtain ⟨bb0, vs0, rfl, hr0, hp0⟩ := h0
      have hS := hI.world
      have HPP := Lib.hid hp0
      clear hp0
      refine wanted_go rfl ?_
      clear hI hd hnd
      go_simp
      go_at_call 64
      refine (join_n _ _ _ vs0 [enc x.kind, encEntry x.entry, encRate x.rate, encHolding x.holding, encMatch x.match_, encStock x.stock, ([x.a, x.b] : List Int).flatMap enc, encS x.text] (encEvent x) w2 rfl (by simp [encEvent]) hr0 HPP.out HLL.out (by simp)).mono ?_
      rintro e w3 hP
      obtain ⟨v, rfl, h1, h2, h3⟩ := NewP.from hP hS
      exact hK.out _ _ h1 (Ks.of rfl h2) (Ks.keep h3)
    · intro listed A0 w2 hI hd hnd K hK
      obtain ⟨x0, e0, h0⟩ := hI.dep hd 28 31 rfl rfl rfl (by kernel_rfl)
      have hS := hI.world
      refine wanted_go rfl ?_
      clear hI hd hnd
      go_simp
      exact hK.out _ _ hS (Ks.of rfl h0) (fun _ _ h => h)
  · intro listed A0 w2 hI hall
    obtain ⟨x0, g0, h0⟩ := hI.got 0 _ 3 rfl rfl (hall 0 (by decide))
    obtain ⟨x1, g1, h1⟩ := hI.got 1 _ 4 rfl rfl (hall 1 (by decide))
    obtain ⟨x2, g2, h2⟩ := hI.got 2 _ 5 rfl rfl (hall 2 (by decide))
    obtain ⟨x3, g3, h3⟩ := hI.got 3 _ 6 rfl rfl (hall 3 (by decide))
    obtain ⟨x4, g4, h4⟩ := hI.got 4 _ 7 rfl rfl (hall 4 (by decide))
    obtain ⟨x5, g5, h5⟩ := hI.got 5 _ 8 rfl rfl (hall 5 (by decide))
    obtain ⟨x6, g6, h6⟩ := hI.got 6 _ 9 rfl rfl (hall 6 (by decide))
    obtain ⟨x7, g7, h7⟩ := hI.got 7 _ 10 rfl rfl (hall 7 (by decide))
    obtain ⟨x8, g8, h8⟩ := hI.got 8 _ 11 rfl rfl (hall 8 (by decide))
    obtain ⟨x9, g9, h9⟩ := hI.got 9 _ 12 rfl rfl (hall 9 (by decide))
    obtain ⟨x10, g10, h10⟩ := hI.got 10 _ 13 rfl rfl (hall 10 (by decide))
    obtain ⟨x11, g11, h11⟩ := hI.got 11 _ 14 rfl rfl (hall 11 (by decide))
    obtain ⟨x12, g12, h12⟩ := hI.got 12 _ 15 rfl rfl (hall 12 (by decide))
    obtain ⟨x13, g13, h13⟩ := hI.got 13 _ 16 rfl rfl (hall 13 (by decide))
    obtain ⟨x14, g14, h14⟩ := hI.got 14 _ 17 rfl rfl (hall 14 (by decide))
    obtain ⟨x15, g15, h15⟩ := hI.got 15 _ 18 rfl rfl (hall 15 (by decide))
    obtain ⟨x16, g16, h16⟩ := hI.got 16 _ 19 rfl rfl (hall 16 (by decide))
    obtain ⟨x17, g17, h17⟩ := hI.got 17 _ 20 rfl rfl (hall 17 (by decide))
    obtain ⟨x18, g18, h18⟩ := hI.got 18 _ 21 rfl rfl (hall 18 (by decide))
    obtain ⟨x19, g19, h19⟩ := hI.got 19 _ 22 rfl rfl (hall 19 (by decide))
    obtain ⟨x20, g20, h20⟩ := hI.got 20 _ 23 rfl rfl (hall 20 (by decide))
    obtain ⟨x21, g21, h21⟩ := hI.got 21 _ 24 rfl rfl (hall 21 (by decide))
    obtain ⟨x22, g22, h22⟩ := hI.got 22 _ 25 rfl rfl (hall 22 (by decide))
    obtain ⟨x23, g23, h23⟩ := hI.got 23 _ 26 rfl rfl (hall 23 (by decide))
    obtain ⟨x24, g24, h24⟩ := hI.got 24 _ 27 rfl rfl (hall 24 (by decide))
    obtain ⟨x25, g25, h25⟩ := hI.got 25 _ 28 rfl rfl (hall 25 (by decide))
    obtain ⟨x26, g26, h26⟩ := hI.got 26 _ 29 rfl rfl (hall 26 (by decide))
    obtain ⟨x27, g27, h27⟩ := hI.got 27 _ 30 rfl rfl (hall 27 (by decide))
    obtain ⟨x28, g28, h28⟩ := hI.got 28 _ 31 rfl rfl (hall 28 (by decide))
    obtain ⟨x29, g29, h29⟩ := hI.got 29 _ 2 rfl rfl (hall 29 (by decide))
    have hS := hI.world
    have hA : A0 = _ := hI.tmps [(3, x0), (4, x1), (5, x2), (6, x3), (7, x4), (8, x5), (9, x6), (10, x7), (11, x8), (12, x9), (13, x10), (14, x11), (15, x12), (16, x13), (17, x14), (18, x15), (19, x16), (20, x17), (21, x18), (22, x19), (23, x20), (24, x21), (25, x22), (26, x23), (27, x24), (28, x25), (29, x26), (30, x27), (31, x28), (2, x29)] (by simp only [List.mem_cons, List.not_mem_nil, or_false, forall_eq_or_imp, forall_eq]; exact ⟨g0, g1, g2, g3, g4, g5, g6, g7, g8, g9, g10, g11, g12, g13, g14, g15, g16, g17, g18, g19, g20, g21, g22, g23, g24, g25, g26, g27, g28, g29⟩) (by kernel_rfl)
    have k29 : NewBytes W w2 x29 (encEvent x) := h29 _ rfl
    clear h0 g0 h1 g1 h2 g2 h3 g3 h4 g4 h5 g5 h6 g6 h7 g7 h8 g8 h9 g9 h10 g10 h11 g11 h12 g12 h13 g13 h14 g14 h15 g15 h16 g16 h17 g17 h18 g18 h19 g19 h20 g20 h21 g21 h22 g22 h23 g23 h24 g24 h25 g25 h26 g26 h27 g27 h28 g28 h29 g29 hI hall
    simp only [setAll, List.foldl, List.setIfInBounds_toArray, List.set_cons_zero, List.set_cons_succ] at hA
    rw [hA]
    clear hA
    go_wp2_with fail
    go_ret
    exact NewP.below ⟨_, rfl, k29⟩ hbW
theorem bstr_beq (a b : List UInt8) : ((bstr a).toList == (bstr b).toList) = decide (a = b) := by
  rw [bstr_list, bstr_list, Bool.eq_iff_iff, beq_iff_eq, decide_eq_true_iff]
set_option maxHeartbeats 2000000 in
set_option maxRecDepth 100000 in
theorem rSame_c (x y : XEvent) (cx cy : List Value) (w : World) (hx : EventC w (· < w.heap.size) cx x) (hy : EventC w (· < w.heap.size) cy y) (hfx : Few x) (hfy : Few y) :
    Calls Try.prog 22 #[.agg cx.toArray, .agg cy.toArray] w fun e w' => e = .returned (.bool (decide (encEvent x = encEvent y))) ∧ Below w.heap.size w w' := by
  have HX := Lib.hid hx
  have HY := Lib.hid hy
  clear hx hy
  go_enter Try.func22, Try.ntmps22
  go_wp2_with fail
  have h2 := heap2 w (.cells cx.toArray 45) (.cells cy.toArray 45)
  generalize hW : (w.alloc (Obj.cells cx.toArray 45)).alloc (Obj.cells cy.toArray 45) = W at *
  obtain ⟨H0, H1, HS, HF⟩ := h2
  have hbW : Below w.heap.size w W := HF.below
  have hWs : w.heap.size + 1 < W.heap.size := by omega
  clear hW HF
  have EX := Lib.hid (HX.out.keep hbW)
  have EY := Lib.hid (HY.out.keep hbW)
  have RX := Lib.hid (box_at H0)
  have RY := Lib.hid (box_at H1)
  clear H0 H1 HS
  refine wp_region_inv (Ks W [.val (.agg cx.toArray), .row (encEvent x), .val (.string (bstr (encEvent x))), .val (.agg cy.toArray), .row (encEvent y), .val (.string (bstr (encEvent y))), .val (.bool (decide (encEvent x = encEvent y))), .val (.bool (decide (encEvent x = encEvent y)))])
    (fun w' => Below W.heap.size W w') (by kernel_rfl) (by kernel_rfl) (by kernel_rfl) (Below.refl _ _).drew ?_ ?_
  · refine ⟨?_, ?_, ?_, ?_, ?_, ?_, ?_, ?_, trivial⟩
    · intro listed A0 w2 hI hd hnd K hK
      have e0 := hI.slot hnd 2 _ rfl (by kernel_rfl)
      have hS := hI.world
      have hrange := (RX.out.fr (Fr.ofBelow hS)).range
      have hisize : (Try.prog.info? 45).map (·.size) = some cx.length := by rw [info45, (EX.out).len]
      refine wanted_go rfl ?_
      clear hI hd hnd
      refine wp_load_mid 45 (.tmp 2) rfl _ _ (by simpa [Act.eval, Array.getD_eq_getD_getElem?] using e0) _ _ hrange Try.underlying45 rfl hisize ?_
      exact hK.out _ _ hS (Ks.of rfl rfl) (fun _ _ h => h)
    · intro listed A0 w2 hI hd hnd K hK
      have e0 := hI.depv hd 0 5 _ rfl rfl rfl (by kernel_rfl)
      have hS := hI.world
      refine wanted_go rfl ?_
      clear hI hd hnd
      go_simp
      go_at_call 45
      refine (rWhole_c x cx w2 (EX.out.keep hS) hfx).mono ?_
      rintro e w3 hP
      obtain ⟨v, rfl, h1, h2, h3⟩ := NewP.from hP hS
      exact hK.out _ _ h1 (Ks.of rfl h2) (Ks.keep h3)
    · intro listed A0 w2 hI hd hnd K hK
      obtain ⟨x0, e0, h0⟩ := hI.dep hd 1 6 rfl rfl rfl (by kernel_rfl)
      have hS := hI.world
      obtain ⟨Ab, cb, rfl, _, _⟩ := h0.1.form
      have hcv : (convert 22 9 (.slice Ab (encEvent x).length cb)).run Try.prog w2 = .ok (.string (bstr (encEvent x))) w2 := run_str (h0.1.rd (fun k hk => h0.1.lt hk)).2
      clear h0
      refine wanted_go rfl ?_
      clear hI hd hnd
      go_simp
      exact hK.out _ _ hS (Ks.of rfl rfl) (fun _ _ h => h)
    · intro listed A0 w2 hI hd hnd K hK
      have e0 := hI.slot hnd 3 _ rfl (by kernel_rfl)
      have hS := hI.world
      have hrange := (RY.out.fr (Fr.ofBelow hS)).range
      have hisize : (Try.prog.info? 45).map (·.size) = some cy.length := by rw [info45, (EY.out).len]
      refine wanted_go rfl ?_
      clear hI hd hnd
      refine wp_load_mid 45 (.tmp 3) rfl _ _ (by simpa [Act.eval, Array.getD_eq_getD_getElem?] using e0) _ _ hrange Try.underlying45 rfl hisize ?_
      exact hK.out _ _ hS (Ks.of rfl rfl) (fun _ _ h => h)
    · intro listed A0 w2 hI hd hnd K hK
      have e0 := hI.depv hd 3 8 _ rfl rfl rfl (by kernel_rfl)
      have hS := hI.world
      refine wanted_go rfl ?_
      clear hI hd hnd
      go_simp
      go_at_call 45
      refine (rWhole_c y cy w2 (EY.out.keep hS) hfy).mono ?_
      rintro e w3 hP
      obtain ⟨v, rfl, h1, h2, h3⟩ := NewP.from hP hS
      exact hK.out _ _ h1 (Ks.of rfl h2) (Ks.keep h3)
    · intro listed A0 w2 hI hd hnd K hK
      obtain ⟨x0, e0, h0⟩ := hI.dep hd 4 9 rfl rfl rfl (by kernel_rfl)
      have hS := hI.world
      obtain ⟨Ab, cb, rfl, _, _⟩ := h0.1.form
      have hcv : (convert 22 9 (.slice Ab (encEvent y).length cb)).run Try.prog w2 = .ok (.string (bstr (encEvent y))) w2 := run_str (h0.1.rd (fun k hk => h0.1.lt hk)).2
      clear h0
      refine wanted_go rfl ?_
      clear hI hd hnd
      go_simp
      exact hK.out _ _ hS (Ks.of rfl rfl) (fun _ _ h => h)
    · intro listed A0 w2 hI hd hnd K hK
      have e0 := hI.depv hd 2 7 _ rfl rfl rfl (by kernel_rfl)
      have e1 := hI.depv hd 5 10 _ rfl rfl rfl (by kernel_rfl)
      have hS := hI.world
      have hbe : ((bstr (encEvent x)).toList == (bstr (encEvent y)).toList) = decide (encEvent x = encEvent y) := bstr_beq _ _
      refine wanted_go rfl ?_
      clear hI hd hnd
      go_simp
      exact hK.out _ _ hS (Ks.of rfl rfl) (fun _ _ h => h)
    · intro listed A0 w2 hI hd hnd K hK
      have e0 := hI.depv hd 6 11 _ rfl rfl rfl (by kernel_rfl)
      have hS := hI.world
      refine wanted_go rfl ?_
      clear hI hd hnd
      go_simp
      exact hK.out _ _ hS (Ks.of rfl rfl) (fun _ _ h => h)
  · intro listed A0 w2 hI hall
    obtain ⟨x0, g0, h0⟩ := hI.got 0 _ 5 rfl rfl (hall 0 (by decide))
    obtain ⟨x1, g1, h1⟩ := hI.got 1 _ 6 rfl rfl (hall 1 (by decide))
    obtain ⟨x2, g2, h2⟩ := hI.got 2 _ 7 rfl rfl (hall 2 (by decide))
    obtain ⟨x3, g3, h3⟩ := hI.got 3 _ 8 rfl rfl (hall 3 (by decide))
    obtain ⟨x4, g4, h4⟩ := hI.got 4 _ 9 rfl rfl (hall 4 (by decide))
    obtain ⟨x5, g5, h5⟩ := hI.got 5 _ 10 rfl rfl (hall 5 (by decide))
    obtain ⟨x6, g6, h6⟩ := hI.got 6 _ 11 rfl rfl (hall 6 (by decide))
    obtain ⟨x7, g7, h7⟩ := hI.got 7 _ 4 rfl rfl (hall 7 (by decide))
    have hS := hI.world
    have hA : A0 = _ := hI.tmps [(5, x0), (6, x1), (7, x2), (8, x3), (9, x4), (10, x5), (11, x6), (4, x7)] (by simp only [List.mem_cons, List.not_mem_nil, or_false, forall_eq_or_imp, forall_eq]; exact ⟨g0, g1, g2, g3, g4, g5, g6, g7⟩) (by kernel_rfl)
    obtain rfl : x7 = .bool (decide (encEvent x = encEvent y)) := h7 _ rfl
    clear h0 g0 h1 g1 h2 g2 h3 g3 h4 g4 h5 g5 h6 g6 h7 g7 hI hall
    simp only [setAll, List.foldl, List.setIfInBounds_toArray, List.set_cons_zero, List.set_cons_succ] at hA
    rw [hA]
    clear hA
    go_wp2_with fail
    go_ret
    exact ⟨rfl, hbW.trans (hS.mono hbW.size)⟩
def fewB (x : XEvent) : Bool := decide (x.entry.lines.length ≤ 100) && decide (x.entry.text.size ≤ 1000) && decide (x.rate.currency.size ≤ 1000) && decide (x.match_.left.length ≤ 100) && decide (x.match_.right.length ≤ 100) && decide (x.text.size ≤ 70000)
theorem fewB_few {x : XEvent} (h : fewB x = true) : Few x := by
  simp only [fewB, Bool.and_eq_true, decide_eq_true_iff] at h
  obtain ⟨⟨⟨⟨⟨h1, h2⟩, h3⟩, h4⟩, h5⟩, h6⟩ := h
  exact ⟨h1, h2, h3, h4, h5, h6⟩
set_option maxHeartbeats 2000000 in
set_option maxRecDepth 100000 in
theorem rFew_c (x : XEvent) (cx : List Value) (w : World) (hx : EventC w (· < w.heap.size) cx x) :
    Calls Try.prog 16 #[.agg cx.toArray] w fun e w' => e = .returned (.bool (fewB x)) ∧ Below w.heap.size w w' := by
  have HX := Lib.hid hx
  obtain ⟨r, hr⟩ : ∃ r, r = fewB x := ⟨_, rfl⟩
  rw [← hr]
  have HR := Lib.hid hr
  clear hx hr
  go_enter Try.func16, Try.ntmps16
  go_upto_region 1 with fail
  have hbox : (w.alloc (Obj.cells cx.toArray 45)).heap[w.heap.size]? = some (Obj.cells cx.toArray 45) := heap_alloc_new w _
  generalize hW : w.alloc (Obj.cells cx.toArray 45) = W at *
  have hbW : Below w.heap.size w W := by rw [← hW]; exact below1 w _
  clear hW
  have hat := EventC.at_ (HX.out.keep hbW) (box_at hbox)
  simp only [Nat.zero_add] at hat
  obtain ⟨_, ⟨l1, f1, m1⟩, ⟨l2, f2, m2⟩, _, ⟨l4, f4, m4⟩, _, _, _, C27⟩ := hat
  obtain ⟨_, _, _, _, _, C6, ⟨cl, hcl, acl⟩⟩ := f1.at_ m1
  obtain ⟨C8, _, _, _⟩ := f2.at_ m2
  obtain ⟨_, ⟨cle, hle, ale⟩, ⟨cri, hri, ari⟩, _⟩ := f4.at_ m4
  obtain ⟨Al, cal, rfl, _, _, _⟩ := hcl
  obtain ⟨Ae, cae, rfl, _, _, _⟩ := hle
  obtain ⟨Ar, car, rfl, _, _, _⟩ := hri
  have C7 := acl.c (j := 0) rfl
  have C17 := ale.c (j := 0) rfl
  have C18 := ari.c (j := 0) rfl
  simp only [Nat.reduceAdd, Nat.add_zero] at C6 C7 C8 C17 C18
  clear hbox f1 m1 f2 m2 f4 m4 acl ale ari
  by_cases h0 : x.entry.lines.length ≤ 100
  case neg =>
    have k0 : ¬ (x.entry.lines.length : Int) ≤ 100 := by omega
    have hrf : r = false := by rw [HR.out]; simp [fewB, h0]; (try omega)
    subst hrf
    clear h0
    go_wp2_with fail
    go_ret
    exact ⟨rfl, hbW⟩
  by_cases h1 : x.entry.text.size ≤ 1000
  case neg =>
    have k0 : (x.entry.lines.length : Int) ≤ 100 := by omega
    have k1 : ¬ (x.entry.text.size : Int) ≤ 1000 := by omega
    have hrf : r = false := by rw [HR.out]; simp [fewB, h0, h1]; (try omega)
    subst hrf
    clear h0 h1
    go_wp2_with fail
    go_ret
    exact ⟨rfl, hbW⟩
  by_cases h2 : x.rate.currency.size ≤ 1000
  case neg =>
    have k0 : (x.entry.lines.length : Int) ≤ 100 := by omega
    have k1 : (x.entry.text.size : Int) ≤ 1000 := by omega
    have k2 : ¬ (x.rate.currency.size : Int) ≤ 1000 := by omega
    have hrf : r = false := by rw [HR.out]; simp [fewB, h0, h1, h2]; (try omega)
    subst hrf
    clear h0 h1 h2
    go_wp2_with fail
    go_ret
    exact ⟨rfl, hbW⟩
  by_cases h3 : x.match_.left.length ≤ 100
  case neg =>
    have k0 : (x.entry.lines.length : Int) ≤ 100 := by omega
    have k1 : (x.entry.text.size : Int) ≤ 1000 := by omega
    have k2 : (x.rate.currency.size : Int) ≤ 1000 := by omega
    have k3 : ¬ (x.match_.left.length : Int) ≤ 100 := by omega
    have hrf : r = false := by rw [HR.out]; simp [fewB, h0, h1, h2, h3]; (try omega)
    subst hrf
    clear h0 h1 h2 h3
    go_wp2_with fail
    go_ret
    exact ⟨rfl, hbW⟩
  by_cases h4 : x.match_.right.length ≤ 100
  case neg =>
    have k0 : (x.entry.lines.length : Int) ≤ 100 := by omega
    have k1 : (x.entry.text.size : Int) ≤ 1000 := by omega
    have k2 : (x.rate.currency.size : Int) ≤ 1000 := by omega
    have k3 : (x.match_.left.length : Int) ≤ 100 := by omega
    have k4 : ¬ (x.match_.right.length : Int) ≤ 100 := by omega
    have hrf : r = false := by rw [HR.out]; simp [fewB, h0, h1, h2, h3, h4]; (try omega)
    subst hrf
    clear h0 h1 h2 h3 h4
    go_wp2_with fail
    go_ret
    exact ⟨rfl, hbW⟩
  by_cases h5 : x.text.size ≤ 70000
  case neg =>
    have k0 : (x.entry.lines.length : Int) ≤ 100 := by omega
    have k1 : (x.entry.text.size : Int) ≤ 1000 := by omega
    have k2 : (x.rate.currency.size : Int) ≤ 1000 := by omega
    have k3 : (x.match_.left.length : Int) ≤ 100 := by omega
    have k4 : (x.match_.right.length : Int) ≤ 100 := by omega
    have k5 : ¬ (x.text.size : Int) ≤ 70000 := by omega
    have hrf : r = false := by rw [HR.out]; simp [fewB, h0, h1, h2, h3, h4, h5]; (try omega)
    subst hrf
    clear h0 h1 h2 h3 h4 h5
    go_wp2_with fail
    go_ret
    exact ⟨rfl, hbW⟩
  have k0 : (x.entry.lines.length : Int) ≤ 100 := by omega
  have k1 : (x.entry.text.size : Int) ≤ 1000 := by omega
  have k2 : (x.rate.currency.size : Int) ≤ 1000 := by omega
  have k3 : (x.match_.left.length : Int) ≤ 100 := by omega
  have k4 : (x.match_.right.length : Int) ≤ 100 := by omega
  have k5 : (x.text.size : Int) ≤ 70000 := by omega
  have hrf : r = true := by rw [HR.out]; simp [fewB, h0, h1, h2, h3, h4, h5]
  subst hrf
  clear h0 h1 h2 h3 h4 h5
  go_wp2_with fail
  go_ret
  exact ⟨rfl, hbW⟩
end Go.Proofs.Ytgdibeegheddmaa
