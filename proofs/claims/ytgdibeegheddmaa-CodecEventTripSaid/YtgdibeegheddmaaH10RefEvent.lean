/- The reference's Event. Written by gen_h10.py. -/
import Derived.Test.YtgdibeegheddmaaH9Proper
namespace Go.Proofs.Ytgdibeegheddmaa
open Go Go.RowKit
set_option linter.unusedVariables false
set_option linter.unusedSimpArgs false
attribute [local go_sem ↓] Go.wp_at_zero Go.wp_at_succ
def evR (E : List UInt8) : List UInt8 × Int := if 65536 < E.length then ([], 6) else (E, 0)
theorem NewBytes.nilB {w w' : World} (hb : Below w.heap.size w w') : NewBytes w w' (.slice none 0 0) [] := ⟨Bytes.nil _, fun k hk => by simp [Value.ownBlock] at hk, hb⟩

set_option maxHeartbeats 1000000 in
set_option maxRecDepth 100000 in
theorem rEvent_no (x : XEvent) (cx : List Value) (w : World) (hx : EventC w (· < w.heap.size) cx x) (hf : Few x) (hp : properB x = false) :
    Calls Try.prog 18 #[.agg cx.toArray] w (BytesErr w ([], 1)) := by
  have HX := Lib.hid hx
  have HC45 := Lib.hid (size45 hx.len)
  have HP := Lib.hid hp
  clear hx hp
  go_enter Try.func18, Try.ntmps18
  go_upto_region 1 with fail
  have hbox : (w.alloc (Obj.cells cx.toArray 45)).heap[w.heap.size]? = some (Obj.cells cx.toArray 45) := heap_alloc_new w _
  generalize hW : w.alloc (Obj.cells cx.toArray 45) = W at *
  have hbW : Below w.heap.size w W := by rw [← hW]; exact below1 w _
  have hWs : w.heap.size < W.heap.size := by rw [← hW]; simp
  clear hW
  have EX := Lib.hid (HX.out.keep hbW)
  have HB := Lib.hid hbox
  have hat := EventC.at_ EX.out (box_at hbox)
  simp only [Nat.zero_add] at hat
  clear hbox
  go_wp2_with (refine wpList_load_row rfl 45 (.tmp 1) rfl w.heap.size rfl 45 cx.toArray (0, 0) _ HB.out Try.underlying45 rfl HC45.out ?_)
  refine (rProper_c x cx W EX.out hf).mono ?_
  rintro e w1 ⟨rfl, hb1⟩
  rw [HP.out]
  clear hat
  go_wp2_with fail
  go_ret2
  exact ⟨.slice none 0 0, rfl, NewBytes.nilB (hbW.trans (hb1.mono hbW.size))⟩

set_option maxHeartbeats 1000000 in
set_option maxRecDepth 100000 in
theorem rEvent_1 (x : XEvent) (cx : List Value) (w : World) (hx : EventC w (· < w.heap.size) cx x) (hf : Few x) (hp : properB x = true) (hk : x.kind = 1) (r : List UInt8 × Int) (hr : r = evR (enc 1 ++ (encEntry x.entry))) :
    Calls Try.prog 18 #[.agg cx.toArray] w (BytesErr w r) := by
  have HR := Lib.hid hr
  clear hr
  have HKK := Lib.hid hk
  clear hk
  have HX := Lib.hid hx
  have HC45 := Lib.hid (size45 hx.len)
  have HP := Lib.hid hp
  clear hx hp
  go_enter Try.func18, Try.ntmps18
  go_upto_region 1 with fail
  have hbox : (w.alloc (Obj.cells cx.toArray 45)).heap[w.heap.size]? = some (Obj.cells cx.toArray 45) := heap_alloc_new w _
  generalize hW : w.alloc (Obj.cells cx.toArray 45) = W at *
  have hbW : Below w.heap.size w W := by rw [← hW]; exact below1 w _
  have hWs : w.heap.size < W.heap.size := by rw [← hW]; simp
  clear hW
  have EX := Lib.hid (HX.out.keep hbW)
  have HB := Lib.hid hbox
  have hat := EventC.at_ EX.out (box_at hbox)
  simp only [Nat.zero_add] at hat
  clear hbox
  go_wp2_with (refine wpList_load_row rfl 45 (.tmp 1) rfl w.heap.size rfl 45 cx.toArray (0, 0) _ HB.out Try.underlying45 rfl HC45.out ?_)
  refine (rProper_c x cx W EX.out hf).mono ?_
  rintro e w1 ⟨rfl, hb1⟩
  rw [HP.out]
  obtain ⟨⟨C0, i0⟩, ⟨l1, f1, m1⟩, ⟨l2, f2, m2⟩, ⟨l3, f3, m3⟩, ⟨l4, f4, m4⟩, ⟨l5, f5, m5⟩, ⟨C25, i25⟩, ⟨C26, i26⟩, C27⟩ := hat
  rw [HKK.out] at C0
  have b1 := hf.lines
  have b2 := hf.etext
  have b3 := hf.cur
  have b4 := hf.left
  have b5 := hf.right
  have b6 := hf.text
  have hek := enc_len 1
  have C0X := (Below.refl W.heap.size W).cell (p := ⟨w.heap.size, 0, none⟩) hWs |>.trans C0
  have K1 := (hb1.cell (p := ⟨w.heap.size, 0, none⟩) hWs).trans C0
  have F1 := Lib.hid f1
  have R1 := Lib.hid m1
  have HI := Lib.hid (show (Try.prog.info? 34).map (·.size) = some l1.length by rw [info34, f1.len])
  clear C25 C26
  clear C27
  clear f1 f2 f3 f4 f5 m1 m2 m3 m4 m5
  have HC0 := Lib.hid C0
  clear C0
  go_wp2_with fail
  refine (refInt_c 1 w1 (by omega) (by omega)).mono ?_
  rintro e w2 ⟨v2, rfl, hn2a⟩
  obtain ⟨A2, c2, rfl, _, _⟩ := hn2a.1.form
  have hn2 : NewBytes W w2 (.slice A2 (enc 1).length c2) (enc 1) := ⟨hn2a.1, fun k hk => Nat.le_trans hb1.size (hn2a.2.1 k hk), hb1.trans (hn2a.2.2.mono hb1.size)⟩
  have K2 := (hn2.2.2.cell (p := ⟨w.heap.size, 0, none⟩) hWs).trans C0X
  have hbB := hn2.2.2
  clear K1 hn2a
  have hel := encEntry_len x.entry
  have hrange := (R1.out.fr (Fr.ofBelow hbB)).range
  go_wp2_with (refine wpList_load_mid rfl 34 (.tmp 24) rfl w.heap.size 1 rfl l1 _ hrange Try.underlying34 rfl HI.out ?_)
  refine (rEntry_c x.entry l1 _ (F1.out.keep hbB) (by omega) (by omega)).mono ?_
  rintro e w3 hP3
  obtain ⟨v3, rfl, hm3⟩ := hP3
  have hn2k3 := hn2.keep hm3.2.2
  obtain ⟨A3, c3, rfl, _, _⟩ := hm3.1.form
  have K3 := (hn2k3.2.2.cell (p := ⟨w.heap.size, 0, none⟩) hWs).trans C0X
  clear K2 hrange
  obtain ⟨E4, hE4⟩ : ∃ E, E = enc 1 ++ (encEntry x.entry) := ⟨_, rfl⟩
  have hlen4 : E4.length ≤ 1000000 := by rw [hE4]; simp only [List.length_append]; omega
  have HE4 := Lib.hid hE4
  clear hE4
  have HE := Lib.hid (show enc 1 ++ (encEntry x.entry) = E4 from by rw [HE4.out])
  by_cases hbig : 65536 < (E4).length
  · have hbI : (65536 : Int) < ((E4).length : Int) := by omega
    have HRR := Lib.hid (show r = ([], 6) by rw [HR.out, HE.out]; exact if_pos hbig)
    clear hbig
    go_wp2_with (at_builtin; go_loud (refine wpList_appB _ rfl (.tmp 23) (.tmp 26) rfl _ (enc 1) rfl hn2k3.1 (· < w3.heap.size) A3 c3 (encEntry x.entry) rfl (hm3.1.rd (fun k hk => hm3.1.lt hk)).2 (by unfold Lim; omega) ?_); intro v4 w4 hby4 hg4 hat4; rw [← HE4.out] at hby4; obtain ⟨A4, c4, rfl, _, _⟩ := hby4.form; have hn4 := hn2k3.app hby4 hg4 hat4; have K4 := (hn4.2.2.cell (p := ⟨w.heap.size, 0, none⟩) hWs).trans C0X)
    go_ret2
    rw [HRR.out]
    exact ⟨.slice none 0 0, rfl, NewBytes.nilB (hbW.trans (hn4.2.2.mono hbW.size))⟩
  · have hbI : ¬ (65536 : Int) < ((E4).length : Int) := by omega
    have HRR := Lib.hid (show r = (E4, 0) by rw [HR.out, HE.out]; exact if_neg hbig)
    clear hbig
    go_wp2_with (at_builtin; go_loud (refine wpList_appB _ rfl (.tmp 23) (.tmp 26) rfl _ (enc 1) rfl hn2k3.1 (· < w3.heap.size) A3 c3 (encEntry x.entry) rfl (hm3.1.rd (fun k hk => hm3.1.lt hk)).2 (by unfold Lim; omega) ?_); intro v4 w4 hby4 hg4 hat4; rw [← HE4.out] at hby4; obtain ⟨A4, c4, rfl, _, _⟩ := hby4.form; have hn4 := hn2k3.app hby4 hg4 hat4; have K4 := (hn4.2.2.cell (p := ⟨w.heap.size, 0, none⟩) hWs).trans C0X)
    go_ret2
    rw [HRR.out]
    exact ⟨_, rfl, hn4.1, fun k hk => Nat.le_trans hbW.size (hn4.2.1 k hk), hbW.trans (hn4.2.2.mono hbW.size)⟩

set_option maxHeartbeats 1000000 in
set_option maxRecDepth 100000 in
theorem rEvent_2 (x : XEvent) (cx : List Value) (w : World) (hx : EventC w (· < w.heap.size) cx x) (hf : Few x) (hp : properB x = true) (hk : x.kind = 2) (r : List UInt8 × Int) (hr : r = evR (enc 2 ++ (encRate x.rate))) :
    Calls Try.prog 18 #[.agg cx.toArray] w (BytesErr w r) := by
  have HR := Lib.hid hr
  clear hr
  have HKK := Lib.hid hk
  clear hk
  have HX := Lib.hid hx
  have HC45 := Lib.hid (size45 hx.len)
  have HP := Lib.hid hp
  clear hx hp
  go_enter Try.func18, Try.ntmps18
  go_upto_region 1 with fail
  have hbox : (w.alloc (Obj.cells cx.toArray 45)).heap[w.heap.size]? = some (Obj.cells cx.toArray 45) := heap_alloc_new w _
  generalize hW : w.alloc (Obj.cells cx.toArray 45) = W at *
  have hbW : Below w.heap.size w W := by rw [← hW]; exact below1 w _
  have hWs : w.heap.size < W.heap.size := by rw [← hW]; simp
  clear hW
  have EX := Lib.hid (HX.out.keep hbW)
  have HB := Lib.hid hbox
  have hat := EventC.at_ EX.out (box_at hbox)
  simp only [Nat.zero_add] at hat
  clear hbox
  go_wp2_with (refine wpList_load_row rfl 45 (.tmp 1) rfl w.heap.size rfl 45 cx.toArray (0, 0) _ HB.out Try.underlying45 rfl HC45.out ?_)
  refine (rProper_c x cx W EX.out hf).mono ?_
  rintro e w1 ⟨rfl, hb1⟩
  rw [HP.out]
  obtain ⟨⟨C0, i0⟩, ⟨l1, f1, m1⟩, ⟨l2, f2, m2⟩, ⟨l3, f3, m3⟩, ⟨l4, f4, m4⟩, ⟨l5, f5, m5⟩, ⟨C25, i25⟩, ⟨C26, i26⟩, C27⟩ := hat
  rw [HKK.out] at C0
  have b1 := hf.lines
  have b2 := hf.etext
  have b3 := hf.cur
  have b4 := hf.left
  have b5 := hf.right
  have b6 := hf.text
  have hek := enc_len 2
  have C0X := (Below.refl W.heap.size W).cell (p := ⟨w.heap.size, 0, none⟩) hWs |>.trans C0
  have K1 := (hb1.cell (p := ⟨w.heap.size, 0, none⟩) hWs).trans C0
  have F2 := Lib.hid f2
  have R2 := Lib.hid m2
  have HI := Lib.hid (show (Try.prog.info? 36).map (·.size) = some l2.length by rw [info36, f2.len])
  clear C25 C26
  clear C27
  clear f1 f2 f3 f4 f5 m1 m2 m3 m4 m5
  have HC0 := Lib.hid C0
  clear C0
  go_wp2_with fail
  refine (refInt_c 2 w1 (by omega) (by omega)).mono ?_
  rintro e w2 ⟨v2, rfl, hn2a⟩
  obtain ⟨A2, c2, rfl, _, _⟩ := hn2a.1.form
  have hn2 : NewBytes W w2 (.slice A2 (enc 2).length c2) (enc 2) := ⟨hn2a.1, fun k hk => Nat.le_trans hb1.size (hn2a.2.1 k hk), hb1.trans (hn2a.2.2.mono hb1.size)⟩
  have K2 := (hn2.2.2.cell (p := ⟨w.heap.size, 0, none⟩) hWs).trans C0X
  have hbB := hn2.2.2
  clear K1 hn2a
  have hel := encRate_len x.rate
  have hrange := (R2.out.fr (Fr.ofBelow hbB)).range
  go_wp2_with (refine wpList_load_mid rfl 36 (.tmp 31) rfl w.heap.size 8 rfl l2 _ hrange Try.underlying36 rfl HI.out ?_)
  refine (rRate_a x.rate l2 _ (F2.out.keep hbB) (by omega)).mono ?_
  rintro e w3 hP3
  obtain ⟨v3, rfl, hm3⟩ := hP3
  have hn2k3 := hn2.keep hm3.2.2
  obtain ⟨A3, c3, rfl, _, _⟩ := hm3.1.form
  have K3 := (hn2k3.2.2.cell (p := ⟨w.heap.size, 0, none⟩) hWs).trans C0X
  clear K2 hrange
  obtain ⟨E4, hE4⟩ : ∃ E, E = enc 2 ++ (encRate x.rate) := ⟨_, rfl⟩
  have hlen4 : E4.length ≤ 1000000 := by rw [hE4]; simp only [List.length_append]; omega
  have HE4 := Lib.hid hE4
  clear hE4
  have HE := Lib.hid (show enc 2 ++ (encRate x.rate) = E4 from by rw [HE4.out])
  by_cases hbig : 65536 < (E4).length
  · have hbI : (65536 : Int) < ((E4).length : Int) := by omega
    have HRR := Lib.hid (show r = ([], 6) by rw [HR.out, HE.out]; exact if_pos hbig)
    clear hbig
    go_wp2_with (at_builtin; go_loud (refine wpList_appB _ rfl (.tmp 30) (.tmp 33) rfl _ (enc 2) rfl hn2k3.1 (· < w3.heap.size) A3 c3 (encRate x.rate) rfl (hm3.1.rd (fun k hk => hm3.1.lt hk)).2 (by unfold Lim; omega) ?_); intro v4 w4 hby4 hg4 hat4; rw [← HE4.out] at hby4; obtain ⟨A4, c4, rfl, _, _⟩ := hby4.form; have hn4 := hn2k3.app hby4 hg4 hat4; have K4 := (hn4.2.2.cell (p := ⟨w.heap.size, 0, none⟩) hWs).trans C0X)
    go_ret2
    rw [HRR.out]
    exact ⟨.slice none 0 0, rfl, NewBytes.nilB (hbW.trans (hn4.2.2.mono hbW.size))⟩
  · have hbI : ¬ (65536 : Int) < ((E4).length : Int) := by omega
    have HRR := Lib.hid (show r = (E4, 0) by rw [HR.out, HE.out]; exact if_neg hbig)
    clear hbig
    go_wp2_with (at_builtin; go_loud (refine wpList_appB _ rfl (.tmp 30) (.tmp 33) rfl _ (enc 2) rfl hn2k3.1 (· < w3.heap.size) A3 c3 (encRate x.rate) rfl (hm3.1.rd (fun k hk => hm3.1.lt hk)).2 (by unfold Lim; omega) ?_); intro v4 w4 hby4 hg4 hat4; rw [← HE4.out] at hby4; obtain ⟨A4, c4, rfl, _, _⟩ := hby4.form; have hn4 := hn2k3.app hby4 hg4 hat4; have K4 := (hn4.2.2.cell (p := ⟨w.heap.size, 0, none⟩) hWs).trans C0X)
    go_ret2
    rw [HRR.out]
    exact ⟨_, rfl, hn4.1, fun k hk => Nat.le_trans hbW.size (hn4.2.1 k hk), hbW.trans (hn4.2.2.mono hbW.size)⟩

set_option maxHeartbeats 1000000 in
set_option maxRecDepth 100000 in
theorem rEvent_3 (x : XEvent) (cx : List Value) (w : World) (hx : EventC w (· < w.heap.size) cx x) (hf : Few x) (hp : properB x = true) (hk : x.kind = 3) (r : List UInt8 × Int) (hr : r = evR (enc 3 ++ (encHolding x.holding))) :
    Calls Try.prog 18 #[.agg cx.toArray] w (BytesErr w r) := by
  have HR := Lib.hid hr
  clear hr
  have HKK := Lib.hid hk
  clear hk
  have HX := Lib.hid hx
  have HC45 := Lib.hid (size45 hx.len)
  have HP := Lib.hid hp
  clear hx hp
  go_enter Try.func18, Try.ntmps18
  go_upto_region 1 with fail
  have hbox : (w.alloc (Obj.cells cx.toArray 45)).heap[w.heap.size]? = some (Obj.cells cx.toArray 45) := heap_alloc_new w _
  generalize hW : w.alloc (Obj.cells cx.toArray 45) = W at *
  have hbW : Below w.heap.size w W := by rw [← hW]; exact below1 w _
  have hWs : w.heap.size < W.heap.size := by rw [← hW]; simp
  clear hW
  have EX := Lib.hid (HX.out.keep hbW)
  have HB := Lib.hid hbox
  have hat := EventC.at_ EX.out (box_at hbox)
  simp only [Nat.zero_add] at hat
  clear hbox
  go_wp2_with (refine wpList_load_row rfl 45 (.tmp 1) rfl w.heap.size rfl 45 cx.toArray (0, 0) _ HB.out Try.underlying45 rfl HC45.out ?_)
  refine (rProper_c x cx W EX.out hf).mono ?_
  rintro e w1 ⟨rfl, hb1⟩
  rw [HP.out]
  obtain ⟨⟨C0, i0⟩, ⟨l1, f1, m1⟩, ⟨l2, f2, m2⟩, ⟨l3, f3, m3⟩, ⟨l4, f4, m4⟩, ⟨l5, f5, m5⟩, ⟨C25, i25⟩, ⟨C26, i26⟩, C27⟩ := hat
  rw [HKK.out] at C0
  have b1 := hf.lines
  have b2 := hf.etext
  have b3 := hf.cur
  have b4 := hf.left
  have b5 := hf.right
  have b6 := hf.text
  have hek := enc_len 3
  have C0X := (Below.refl W.heap.size W).cell (p := ⟨w.heap.size, 0, none⟩) hWs |>.trans C0
  have K1 := (hb1.cell (p := ⟨w.heap.size, 0, none⟩) hWs).trans C0
  have F3 := Lib.hid f3
  have R3 := Lib.hid m3
  have HI := Lib.hid (show (Try.prog.info? 38).map (·.size) = some l3.length by rw [info38, f3.len])
  clear C25 C26
  clear C27
  clear f1 f2 f3 f4 f5 m1 m2 m3 m4 m5
  have HC0 := Lib.hid C0
  clear C0
  go_wp2_with fail
  refine (refInt_c 3 w1 (by omega) (by omega)).mono ?_
  rintro e w2 ⟨v2, rfl, hn2a⟩
  obtain ⟨A2, c2, rfl, _, _⟩ := hn2a.1.form
  have hn2 : NewBytes W w2 (.slice A2 (enc 3).length c2) (enc 3) := ⟨hn2a.1, fun k hk => Nat.le_trans hb1.size (hn2a.2.1 k hk), hb1.trans (hn2a.2.2.mono hb1.size)⟩
  have K2 := (hn2.2.2.cell (p := ⟨w.heap.size, 0, none⟩) hWs).trans C0X
  have hbB := hn2.2.2
  clear K1 hn2a
  have hel := encHolding_len x.holding
  have hrange := (R3.out.fr (Fr.ofBelow hbB)).range
  go_wp2_with (refine wpList_load_mid rfl 38 (.tmp 38) rfl w.heap.size 12 rfl l3 _ hrange Try.underlying38 rfl HI.out ?_)
  refine (rHolding_a x.holding l3 _ (F3.out.keep hbB)).mono ?_
  rintro e w3 hP3
  obtain ⟨v3, rfl, hm3⟩ := hP3
  have hn2k3 := hn2.keep hm3.2.2
  obtain ⟨A3, c3, rfl, _, _⟩ := hm3.1.form
  have K3 := (hn2k3.2.2.cell (p := ⟨w.heap.size, 0, none⟩) hWs).trans C0X
  clear K2 hrange
  obtain ⟨E4, hE4⟩ : ∃ E, E = enc 3 ++ (encHolding x.holding) := ⟨_, rfl⟩
  have hlen4 : E4.length ≤ 1000000 := by rw [hE4]; simp only [List.length_append]; omega
  have HE4 := Lib.hid hE4
  clear hE4
  have HE := Lib.hid (show enc 3 ++ (encHolding x.holding) = E4 from by rw [HE4.out])
  by_cases hbig : 65536 < (E4).length
  · have hbI : (65536 : Int) < ((E4).length : Int) := by omega
    have HRR := Lib.hid (show r = ([], 6) by rw [HR.out, HE.out]; exact if_pos hbig)
    clear hbig
    go_wp2_with (at_builtin; go_loud (refine wpList_appB _ rfl (.tmp 37) (.tmp 40) rfl _ (enc 3) rfl hn2k3.1 (· < w3.heap.size) A3 c3 (encHolding x.holding) rfl (hm3.1.rd (fun k hk => hm3.1.lt hk)).2 (by unfold Lim; omega) ?_); intro v4 w4 hby4 hg4 hat4; rw [← HE4.out] at hby4; obtain ⟨A4, c4, rfl, _, _⟩ := hby4.form; have hn4 := hn2k3.app hby4 hg4 hat4; have K4 := (hn4.2.2.cell (p := ⟨w.heap.size, 0, none⟩) hWs).trans C0X)
    go_ret2
    rw [HRR.out]
    exact ⟨.slice none 0 0, rfl, NewBytes.nilB (hbW.trans (hn4.2.2.mono hbW.size))⟩
  · have hbI : ¬ (65536 : Int) < ((E4).length : Int) := by omega
    have HRR := Lib.hid (show r = (E4, 0) by rw [HR.out, HE.out]; exact if_neg hbig)
    clear hbig
    go_wp2_with (at_builtin; go_loud (refine wpList_appB _ rfl (.tmp 37) (.tmp 40) rfl _ (enc 3) rfl hn2k3.1 (· < w3.heap.size) A3 c3 (encHolding x.holding) rfl (hm3.1.rd (fun k hk => hm3.1.lt hk)).2 (by unfold Lim; omega) ?_); intro v4 w4 hby4 hg4 hat4; rw [← HE4.out] at hby4; obtain ⟨A4, c4, rfl, _, _⟩ := hby4.form; have hn4 := hn2k3.app hby4 hg4 hat4; have K4 := (hn4.2.2.cell (p := ⟨w.heap.size, 0, none⟩) hWs).trans C0X)
    go_ret2
    rw [HRR.out]
    exact ⟨_, rfl, hn4.1, fun k hk => Nat.le_trans hbW.size (hn4.2.1 k hk), hbW.trans (hn4.2.2.mono hbW.size)⟩

set_option maxHeartbeats 1000000 in
set_option maxRecDepth 100000 in
theorem rEvent_4 (x : XEvent) (cx : List Value) (w : World) (hx : EventC w (· < w.heap.size) cx x) (hf : Few x) (hp : properB x = true) (hk : x.kind = 4) (r : List UInt8 × Int) (hr : r = evR (enc 4 ++ (encMatch x.match_))) :
    Calls Try.prog 18 #[.agg cx.toArray] w (BytesErr w r) := by
  have HR := Lib.hid hr
  clear hr
  have HKK := Lib.hid hk
  clear hk
  have HX := Lib.hid hx
  have HC45 := Lib.hid (size45 hx.len)
  have HP := Lib.hid hp
  clear hx hp
  go_enter Try.func18, Try.ntmps18
  go_upto_region 1 with fail
  have hbox : (w.alloc (Obj.cells cx.toArray 45)).heap[w.heap.size]? = some (Obj.cells cx.toArray 45) := heap_alloc_new w _
  generalize hW : w.alloc (Obj.cells cx.toArray 45) = W at *
  have hbW : Below w.heap.size w W := by rw [← hW]; exact below1 w _
  have hWs : w.heap.size < W.heap.size := by rw [← hW]; simp
  clear hW
  have EX := Lib.hid (HX.out.keep hbW)
  have HB := Lib.hid hbox
  have hat := EventC.at_ EX.out (box_at hbox)
  simp only [Nat.zero_add] at hat
  clear hbox
  go_wp2_with (refine wpList_load_row rfl 45 (.tmp 1) rfl w.heap.size rfl 45 cx.toArray (0, 0) _ HB.out Try.underlying45 rfl HC45.out ?_)
  refine (rProper_c x cx W EX.out hf).mono ?_
  rintro e w1 ⟨rfl, hb1⟩
  rw [HP.out]
  obtain ⟨⟨C0, i0⟩, ⟨l1, f1, m1⟩, ⟨l2, f2, m2⟩, ⟨l3, f3, m3⟩, ⟨l4, f4, m4⟩, ⟨l5, f5, m5⟩, ⟨C25, i25⟩, ⟨C26, i26⟩, C27⟩ := hat
  rw [HKK.out] at C0
  have b1 := hf.lines
  have b2 := hf.etext
  have b3 := hf.cur
  have b4 := hf.left
  have b5 := hf.right
  have b6 := hf.text
  have hek := enc_len 4
  have C0X := (Below.refl W.heap.size W).cell (p := ⟨w.heap.size, 0, none⟩) hWs |>.trans C0
  have K1 := (hb1.cell (p := ⟨w.heap.size, 0, none⟩) hWs).trans C0
  have F4 := Lib.hid f4
  have R4 := Lib.hid m4
  have HI := Lib.hid (show (Try.prog.info? 41).map (·.size) = some l4.length by rw [info41, f4.len])
  clear C25 C26
  clear C27
  clear f1 f2 f3 f4 f5 m1 m2 m3 m4 m5
  have HC0 := Lib.hid C0
  clear C0
  go_wp2_with fail
  refine (refInt_c 4 w1 (by omega) (by omega)).mono ?_
  rintro e w2 ⟨v2, rfl, hn2a⟩
  obtain ⟨A2, c2, rfl, _, _⟩ := hn2a.1.form
  have hn2 : NewBytes W w2 (.slice A2 (enc 4).length c2) (enc 4) := ⟨hn2a.1, fun k hk => Nat.le_trans hb1.size (hn2a.2.1 k hk), hb1.trans (hn2a.2.2.mono hb1.size)⟩
  have K2 := (hn2.2.2.cell (p := ⟨w.heap.size, 0, none⟩) hWs).trans C0X
  have hbB := hn2.2.2
  clear K1 hn2a
  have hel := encMatch_len x.match_
  have hrange := (R4.out.fr (Fr.ofBelow hbB)).range
  go_wp2_with (refine wpList_load_mid rfl 41 (.tmp 45) rfl w.heap.size 16 rfl l4 _ hrange Try.underlying41 rfl HI.out ?_)
  refine (rMatch_c x.match_ l4 _ (F4.out.keep hbB) (by omega) (by omega)).mono ?_
  rintro e w3 hP3
  obtain ⟨v3, rfl, hm3⟩ := hP3
  have hn2k3 := hn2.keep hm3.2.2
  obtain ⟨A3, c3, rfl, _, _⟩ := hm3.1.form
  have K3 := (hn2k3.2.2.cell (p := ⟨w.heap.size, 0, none⟩) hWs).trans C0X
  clear K2 hrange
  obtain ⟨E4, hE4⟩ : ∃ E, E = enc 4 ++ (encMatch x.match_) := ⟨_, rfl⟩
  have hlen4 : E4.length ≤ 1000000 := by rw [hE4]; simp only [List.length_append]; omega
  have HE4 := Lib.hid hE4
  clear hE4
  have HE := Lib.hid (show enc 4 ++ (encMatch x.match_) = E4 from by rw [HE4.out])
  by_cases hbig : 65536 < (E4).length
  · have hbI : (65536 : Int) < ((E4).length : Int) := by omega
    have HRR := Lib.hid (show r = ([], 6) by rw [HR.out, HE.out]; exact if_pos hbig)
    clear hbig
    go_wp2_with (at_builtin; go_loud (refine wpList_appB _ rfl (.tmp 44) (.tmp 47) rfl _ (enc 4) rfl hn2k3.1 (· < w3.heap.size) A3 c3 (encMatch x.match_) rfl (hm3.1.rd (fun k hk => hm3.1.lt hk)).2 (by unfold Lim; omega) ?_); intro v4 w4 hby4 hg4 hat4; rw [← HE4.out] at hby4; obtain ⟨A4, c4, rfl, _, _⟩ := hby4.form; have hn4 := hn2k3.app hby4 hg4 hat4; have K4 := (hn4.2.2.cell (p := ⟨w.heap.size, 0, none⟩) hWs).trans C0X)
    go_ret2
    rw [HRR.out]
    exact ⟨.slice none 0 0, rfl, NewBytes.nilB (hbW.trans (hn4.2.2.mono hbW.size))⟩
  · have hbI : ¬ (65536 : Int) < ((E4).length : Int) := by omega
    have HRR := Lib.hid (show r = (E4, 0) by rw [HR.out, HE.out]; exact if_neg hbig)
    clear hbig
    go_wp2_with (at_builtin; go_loud (refine wpList_appB _ rfl (.tmp 44) (.tmp 47) rfl _ (enc 4) rfl hn2k3.1 (· < w3.heap.size) A3 c3 (encMatch x.match_) rfl (hm3.1.rd (fun k hk => hm3.1.lt hk)).2 (by unfold Lim; omega) ?_); intro v4 w4 hby4 hg4 hat4; rw [← HE4.out] at hby4; obtain ⟨A4, c4, rfl, _, _⟩ := hby4.form; have hn4 := hn2k3.app hby4 hg4 hat4; have K4 := (hn4.2.2.cell (p := ⟨w.heap.size, 0, none⟩) hWs).trans C0X)
    go_ret2
    rw [HRR.out]
    exact ⟨_, rfl, hn4.1, fun k hk => Nat.le_trans hbW.size (hn4.2.1 k hk), hbW.trans (hn4.2.2.mono hbW.size)⟩

set_option maxHeartbeats 1000000 in
set_option maxRecDepth 100000 in
theorem rEvent_5 (x : XEvent) (cx : List Value) (w : World) (hx : EventC w (· < w.heap.size) cx x) (hf : Few x) (hp : properB x = true) (hk : x.kind = 5) (r : List UInt8 × Int) (hr : r = evR (enc 5 ++ (enc x.a ++ enc x.b))) :
    Calls Try.prog 18 #[.agg cx.toArray] w (BytesErr w r) := by
  have HR := Lib.hid hr
  clear hr
  have HKK := Lib.hid hk
  clear hk
  have HX := Lib.hid hx
  have HC45 := Lib.hid (size45 hx.len)
  have HP := Lib.hid hp
  clear hx hp
  go_enter Try.func18, Try.ntmps18
  go_upto_region 1 with fail
  have hbox : (w.alloc (Obj.cells cx.toArray 45)).heap[w.heap.size]? = some (Obj.cells cx.toArray 45) := heap_alloc_new w _
  generalize hW : w.alloc (Obj.cells cx.toArray 45) = W at *
  have hbW : Below w.heap.size w W := by rw [← hW]; exact below1 w _
  have hWs : w.heap.size < W.heap.size := by rw [← hW]; simp
  clear hW
  have EX := Lib.hid (HX.out.keep hbW)
  have HB := Lib.hid hbox
  have hat := EventC.at_ EX.out (box_at hbox)
  simp only [Nat.zero_add] at hat
  clear hbox
  go_wp2_with (refine wpList_load_row rfl 45 (.tmp 1) rfl w.heap.size rfl 45 cx.toArray (0, 0) _ HB.out Try.underlying45 rfl HC45.out ?_)
  refine (rProper_c x cx W EX.out hf).mono ?_
  rintro e w1 ⟨rfl, hb1⟩
  rw [HP.out]
  obtain ⟨⟨C0, i0⟩, ⟨l1, f1, m1⟩, ⟨l2, f2, m2⟩, ⟨l3, f3, m3⟩, ⟨l4, f4, m4⟩, ⟨l5, f5, m5⟩, ⟨C25, i25⟩, ⟨C26, i26⟩, C27⟩ := hat
  rw [HKK.out] at C0
  have b1 := hf.lines
  have b2 := hf.etext
  have b3 := hf.cur
  have b4 := hf.left
  have b5 := hf.right
  have b6 := hf.text
  have hek := enc_len 5
  have C0X := (Below.refl W.heap.size W).cell (p := ⟨w.heap.size, 0, none⟩) hWs |>.trans C0
  have K1 := (hb1.cell (p := ⟨w.heap.size, 0, none⟩) hWs).trans C0
  clear C27
  clear f1 f2 f3 f4 f5 m1 m2 m3 m4 m5
  have HC0 := Lib.hid C0
  clear C0
  go_wp2_with fail
  refine (refInt_c 5 w1 (by omega) (by omega)).mono ?_
  rintro e w2 ⟨v2, rfl, hn2a⟩
  obtain ⟨A2, c2, rfl, _, _⟩ := hn2a.1.form
  have hn2 : NewBytes W w2 (.slice A2 (enc 5).length c2) (enc 5) := ⟨hn2a.1, fun k hk => Nat.le_trans hb1.size (hn2a.2.1 k hk), hb1.trans (hn2a.2.2.mono hb1.size)⟩
  have K2 := (hn2.2.2.cell (p := ⟨w.heap.size, 0, none⟩) hWs).trans C0X
  have hbB := hn2.2.2
  clear K1 hn2a
  obtain ⟨M, hM⟩ : ∃ M, M = enc x.a ++ enc x.b := ⟨_, rfl⟩
  have hea : M.length ≤ 20 := by rw [hM]; have h1 := enc_len x.a; have h2 := enc_len x.b; simp only [List.length_append]; omega
  have HM := Lib.hid hM
  clear hM
  have K25 := (hbB.cell (p := ⟨w.heap.size, 25, none⟩) hWs).trans C25
  have K26 := (hbB.cell (p := ⟨w.heap.size, 26, none⟩) hWs).trans C26
  clear C25 C26
  go_wp2_with fail
  refine (ints_n _ 2 2 [x.a, x.b] M _ rfl (by rw [HM.out]; simp [List.flatMap]) (row_rd _ (iv [x.a, x.b]) 3 _ 2 (by simp) rfl) (by simp [i25, i26]) (by simp)).mono ?_
  rintro e w3 hP3
  obtain ⟨v3, rfl, hm3⟩ := hP3.below (below1 w2 _)
  have hn2k3 := hn2.keep hm3.2.2
  obtain ⟨A3, c3, rfl, _, _⟩ := hm3.1.form
  have K3 := (hn2k3.2.2.cell (p := ⟨w.heap.size, 0, none⟩) hWs).trans C0X
  clear K2 K25 K26 hP3
  obtain ⟨E4, hE4⟩ : ∃ E, E = enc 5 ++ M := ⟨_, rfl⟩
  have hlen4 : E4.length ≤ 1000000 := by rw [hE4]; simp only [List.length_append]; omega
  have HE4 := Lib.hid hE4
  clear hE4
  have HE := Lib.hid (show enc 5 ++ (enc x.a ++ enc x.b) = E4 from by rw [HE4.out, HM.out])
  by_cases hbig : 65536 < (E4).length
  · have hbI : (65536 : Int) < ((E4).length : Int) := by omega
    have HRR := Lib.hid (show r = ([], 6) by rw [HR.out, HE.out]; exact if_pos hbig)
    clear hbig
    go_wp2_with (at_builtin; go_loud (refine wpList_appB _ rfl (.tmp 13) (.tmp 19) rfl _ (enc 5) rfl hn2k3.1 (· < w3.heap.size) A3 c3 (M) rfl (hm3.1.rd (fun k hk => hm3.1.lt hk)).2 (by unfold Lim; omega) ?_); intro v4 w4 hby4 hg4 hat4; rw [← HE4.out] at hby4; obtain ⟨A4, c4, rfl, _, _⟩ := hby4.form; have hn4 := hn2k3.app hby4 hg4 hat4; have K4 := (hn4.2.2.cell (p := ⟨w.heap.size, 0, none⟩) hWs).trans C0X)
    go_ret2
    rw [HRR.out]
    exact ⟨.slice none 0 0, rfl, NewBytes.nilB (hbW.trans (hn4.2.2.mono hbW.size))⟩
  · have hbI : ¬ (65536 : Int) < ((E4).length : Int) := by omega
    have HRR := Lib.hid (show r = (E4, 0) by rw [HR.out, HE.out]; exact if_neg hbig)
    clear hbig
    go_wp2_with (at_builtin; go_loud (refine wpList_appB _ rfl (.tmp 13) (.tmp 19) rfl _ (enc 5) rfl hn2k3.1 (· < w3.heap.size) A3 c3 (M) rfl (hm3.1.rd (fun k hk => hm3.1.lt hk)).2 (by unfold Lim; omega) ?_); intro v4 w4 hby4 hg4 hat4; rw [← HE4.out] at hby4; obtain ⟨A4, c4, rfl, _, _⟩ := hby4.form; have hn4 := hn2k3.app hby4 hg4 hat4; have K4 := (hn4.2.2.cell (p := ⟨w.heap.size, 0, none⟩) hWs).trans C0X)
    go_ret2
    rw [HRR.out]
    exact ⟨_, rfl, hn4.1, fun k hk => Nat.le_trans hbW.size (hn4.2.1 k hk), hbW.trans (hn4.2.2.mono hbW.size)⟩

set_option maxHeartbeats 1000000 in
set_option maxRecDepth 100000 in
theorem rEvent_6 (x : XEvent) (cx : List Value) (w : World) (hx : EventC w (· < w.heap.size) cx x) (hf : Few x) (hp : properB x = true) (hk : x.kind = 6) (r : List UInt8 × Int) (hr : r = evR (enc 6 ++ (encStock x.stock))) :
    Calls Try.prog 18 #[.agg cx.toArray] w (BytesErr w r) := by
  have HR := Lib.hid hr
  clear hr
  have HKK := Lib.hid hk
  clear hk
  have HX := Lib.hid hx
  have HC45 := Lib.hid (size45 hx.len)
  have HP := Lib.hid hp
  clear hx hp
  go_enter Try.func18, Try.ntmps18
  go_upto_region 1 with fail
  have hbox : (w.alloc (Obj.cells cx.toArray 45)).heap[w.heap.size]? = some (Obj.cells cx.toArray 45) := heap_alloc_new w _
  generalize hW : w.alloc (Obj.cells cx.toArray 45) = W at *
  have hbW : Below w.heap.size w W := by rw [← hW]; exact below1 w _
  have hWs : w.heap.size < W.heap.size := by rw [← hW]; simp
  clear hW
  have EX := Lib.hid (HX.out.keep hbW)
  have HB := Lib.hid hbox
  have hat := EventC.at_ EX.out (box_at hbox)
  simp only [Nat.zero_add] at hat
  clear hbox
  go_wp2_with (refine wpList_load_row rfl 45 (.tmp 1) rfl w.heap.size rfl 45 cx.toArray (0, 0) _ HB.out Try.underlying45 rfl HC45.out ?_)
  refine (rProper_c x cx W EX.out hf).mono ?_
  rintro e w1 ⟨rfl, hb1⟩
  rw [HP.out]
  obtain ⟨⟨C0, i0⟩, ⟨l1, f1, m1⟩, ⟨l2, f2, m2⟩, ⟨l3, f3, m3⟩, ⟨l4, f4, m4⟩, ⟨l5, f5, m5⟩, ⟨C25, i25⟩, ⟨C26, i26⟩, C27⟩ := hat
  rw [HKK.out] at C0
  have b1 := hf.lines
  have b2 := hf.etext
  have b3 := hf.cur
  have b4 := hf.left
  have b5 := hf.right
  have b6 := hf.text
  have hek := enc_len 6
  have C0X := (Below.refl W.heap.size W).cell (p := ⟨w.heap.size, 0, none⟩) hWs |>.trans C0
  have K1 := (hb1.cell (p := ⟨w.heap.size, 0, none⟩) hWs).trans C0
  have F5 := Lib.hid f5
  have R5 := Lib.hid m5
  have HI := Lib.hid (show (Try.prog.info? 43).map (·.size) = some l5.length by rw [info43, f5.len])
  clear C25 C26
  clear C27
  clear f1 f2 f3 f4 f5 m1 m2 m3 m4 m5
  have HC0 := Lib.hid C0
  clear C0
  go_wp2_with fail
  refine (refInt_c 6 w1 (by omega) (by omega)).mono ?_
  rintro e w2 ⟨v2, rfl, hn2a⟩
  obtain ⟨A2, c2, rfl, _, _⟩ := hn2a.1.form
  have hn2 : NewBytes W w2 (.slice A2 (enc 6).length c2) (enc 6) := ⟨hn2a.1, fun k hk => Nat.le_trans hb1.size (hn2a.2.1 k hk), hb1.trans (hn2a.2.2.mono hb1.size)⟩
  have K2 := (hn2.2.2.cell (p := ⟨w.heap.size, 0, none⟩) hWs).trans C0X
  have hbB := hn2.2.2
  clear K1 hn2a
  have hel := encStock_len x.stock
  have hrange := (R5.out.fr (Fr.ofBelow hbB)).range
  go_wp2_with (refine wpList_load_mid rfl 43 (.tmp 52) rfl w.heap.size 20 rfl l5 _ hrange Try.underlying43 rfl HI.out ?_)
  refine (rStock_a x.stock l5 _ (F5.out.keep hbB)).mono ?_
  rintro e w3 hP3
  obtain ⟨v3, rfl, hm3⟩ := hP3
  have hn2k3 := hn2.keep hm3.2.2
  obtain ⟨A3, c3, rfl, _, _⟩ := hm3.1.form
  have K3 := (hn2k3.2.2.cell (p := ⟨w.heap.size, 0, none⟩) hWs).trans C0X
  clear K2 hrange
  obtain ⟨E4, hE4⟩ : ∃ E, E = enc 6 ++ (encStock x.stock) := ⟨_, rfl⟩
  have hlen4 : E4.length ≤ 1000000 := by rw [hE4]; simp only [List.length_append]; omega
  have HE4 := Lib.hid hE4
  clear hE4
  have HE := Lib.hid (show enc 6 ++ (encStock x.stock) = E4 from by rw [HE4.out])
  by_cases hbig : 65536 < (E4).length
  · have hbI : (65536 : Int) < ((E4).length : Int) := by omega
    have HRR := Lib.hid (show r = ([], 6) by rw [HR.out, HE.out]; exact if_pos hbig)
    clear hbig
    go_wp2_with (at_builtin; go_loud (refine wpList_appB _ rfl (.tmp 51) (.tmp 54) rfl _ (enc 6) rfl hn2k3.1 (· < w3.heap.size) A3 c3 (encStock x.stock) rfl (hm3.1.rd (fun k hk => hm3.1.lt hk)).2 (by unfold Lim; omega) ?_); intro v4 w4 hby4 hg4 hat4; rw [← HE4.out] at hby4; obtain ⟨A4, c4, rfl, _, _⟩ := hby4.form; have hn4 := hn2k3.app hby4 hg4 hat4; have K4 := (hn4.2.2.cell (p := ⟨w.heap.size, 0, none⟩) hWs).trans C0X)
    go_ret2
    rw [HRR.out]
    exact ⟨.slice none 0 0, rfl, NewBytes.nilB (hbW.trans (hn4.2.2.mono hbW.size))⟩
  · have hbI : ¬ (65536 : Int) < ((E4).length : Int) := by omega
    have HRR := Lib.hid (show r = (E4, 0) by rw [HR.out, HE.out]; exact if_neg hbig)
    clear hbig
    go_wp2_with (at_builtin; go_loud (refine wpList_appB _ rfl (.tmp 51) (.tmp 54) rfl _ (enc 6) rfl hn2k3.1 (· < w3.heap.size) A3 c3 (encStock x.stock) rfl (hm3.1.rd (fun k hk => hm3.1.lt hk)).2 (by unfold Lim; omega) ?_); intro v4 w4 hby4 hg4 hat4; rw [← HE4.out] at hby4; obtain ⟨A4, c4, rfl, _, _⟩ := hby4.form; have hn4 := hn2k3.app hby4 hg4 hat4; have K4 := (hn4.2.2.cell (p := ⟨w.heap.size, 0, none⟩) hWs).trans C0X)
    go_ret2
    rw [HRR.out]
    exact ⟨_, rfl, hn4.1, fun k hk => Nat.le_trans hbW.size (hn4.2.1 k hk), hbW.trans (hn4.2.2.mono hbW.size)⟩

set_option maxHeartbeats 1000000 in
set_option maxRecDepth 100000 in
theorem rEvent_7 (x : XEvent) (cx : List Value) (w : World) (hx : EventC w (· < w.heap.size) cx x) (hf : Few x) (hp : properB x = true) (hk : x.kind = 7) (r : List UInt8 × Int) (hr : r = evR (enc 7 ++ (encS x.text))) :
    Calls Try.prog 18 #[.agg cx.toArray] w (BytesErr w r) := by
  have HR := Lib.hid hr
  clear hr
  have HKK := Lib.hid hk
  clear hk
  have HX := Lib.hid hx
  have HC45 := Lib.hid (size45 hx.len)
  have HP := Lib.hid hp
  clear hx hp
  go_enter Try.func18, Try.ntmps18
  go_upto_region 1 with fail
  have hbox : (w.alloc (Obj.cells cx.toArray 45)).heap[w.heap.size]? = some (Obj.cells cx.toArray 45) := heap_alloc_new w _
  generalize hW : w.alloc (Obj.cells cx.toArray 45) = W at *
  have hbW : Below w.heap.size w W := by rw [← hW]; exact below1 w _
  have hWs : w.heap.size < W.heap.size := by rw [← hW]; simp
  clear hW
  have EX := Lib.hid (HX.out.keep hbW)
  have HB := Lib.hid hbox
  have hat := EventC.at_ EX.out (box_at hbox)
  simp only [Nat.zero_add] at hat
  clear hbox
  go_wp2_with (refine wpList_load_row rfl 45 (.tmp 1) rfl w.heap.size rfl 45 cx.toArray (0, 0) _ HB.out Try.underlying45 rfl HC45.out ?_)
  refine (rProper_c x cx W EX.out hf).mono ?_
  rintro e w1 ⟨rfl, hb1⟩
  rw [HP.out]
  obtain ⟨⟨C0, i0⟩, ⟨l1, f1, m1⟩, ⟨l2, f2, m2⟩, ⟨l3, f3, m3⟩, ⟨l4, f4, m4⟩, ⟨l5, f5, m5⟩, ⟨C25, i25⟩, ⟨C26, i26⟩, C27⟩ := hat
  rw [HKK.out] at C0
  have b1 := hf.lines
  have b2 := hf.etext
  have b3 := hf.cur
  have b4 := hf.left
  have b5 := hf.right
  have b6 := hf.text
  have hek := enc_len 7
  have C0X := (Below.refl W.heap.size W).cell (p := ⟨w.heap.size, 0, none⟩) hWs |>.trans C0
  have K1 := (hb1.cell (p := ⟨w.heap.size, 0, none⟩) hWs).trans C0
  clear C25 C26
  clear f1 f2 f3 f4 f5 m1 m2 m3 m4 m5
  have HC0 := Lib.hid C0
  clear C0
  go_wp2_with fail
  refine (refInt_c 7 w1 (by omega) (by omega)).mono ?_
  rintro e w2 ⟨v2, rfl, hn2a⟩
  obtain ⟨A2, c2, rfl, _, _⟩ := hn2a.1.form
  have hn2 : NewBytes W w2 (.slice A2 (enc 7).length c2) (enc 7) := ⟨hn2a.1, fun k hk => Nat.le_trans hb1.size (hn2a.2.1 k hk), hb1.trans (hn2a.2.2.mono hb1.size)⟩
  have K2 := (hn2.2.2.cell (p := ⟨w.heap.size, 0, none⟩) hWs).trans C0X
  have hbB := hn2.2.2
  clear K1 hn2a
  have hel := encS_len x.text
  have K27 := (hbB.cell (p := ⟨w.heap.size, 27, none⟩) hWs).trans C27
  clear C27
  go_wp2_with fail
  refine (text_c x.text _ (by omega)).mono ?_
  rintro e w3 hP3
  obtain ⟨v3, rfl, hm3⟩ := hP3
  have hn2k3 := hn2.keep hm3.2.2
  obtain ⟨A3, c3, rfl, _, _⟩ := hm3.1.form
  have K3 := (hn2k3.2.2.cell (p := ⟨w.heap.size, 0, none⟩) hWs).trans C0X
  clear K2 K27
  obtain ⟨E4, hE4⟩ : ∃ E, E = enc 7 ++ (encS x.text) := ⟨_, rfl⟩
  have hlen4 : E4.length ≤ 1000000 := by rw [hE4]; simp only [List.length_append]; omega
  have HE4 := Lib.hid hE4
  clear hE4
  have HE := Lib.hid (show enc 7 ++ (encS x.text) = E4 from by rw [HE4.out])
  by_cases hbig : 65536 < (E4).length
  · have hbI : (65536 : Int) < ((E4).length : Int) := by omega
    have HRR := Lib.hid (show r = ([], 6) by rw [HR.out, HE.out]; exact if_pos hbig)
    clear hbig
    go_wp2_with (at_builtin; go_loud (refine wpList_appB _ rfl (.tmp 58) (.tmp 61) rfl _ (enc 7) rfl hn2k3.1 (· < w3.heap.size) A3 c3 (encS x.text) rfl (hm3.1.rd (fun k hk => hm3.1.lt hk)).2 (by unfold Lim; omega) ?_); intro v4 w4 hby4 hg4 hat4; rw [← HE4.out] at hby4; obtain ⟨A4, c4, rfl, _, _⟩ := hby4.form; have hn4 := hn2k3.app hby4 hg4 hat4; have K4 := (hn4.2.2.cell (p := ⟨w.heap.size, 0, none⟩) hWs).trans C0X)
    go_ret2
    rw [HRR.out]
    exact ⟨.slice none 0 0, rfl, NewBytes.nilB (hbW.trans (hn4.2.2.mono hbW.size))⟩
  · have hbI : ¬ (65536 : Int) < ((E4).length : Int) := by omega
    have HRR := Lib.hid (show r = (E4, 0) by rw [HR.out, HE.out]; exact if_neg hbig)
    clear hbig
    go_wp2_with (at_builtin; go_loud (refine wpList_appB _ rfl (.tmp 58) (.tmp 61) rfl _ (enc 7) rfl hn2k3.1 (· < w3.heap.size) A3 c3 (encS x.text) rfl (hm3.1.rd (fun k hk => hm3.1.lt hk)).2 (by unfold Lim; omega) ?_); intro v4 w4 hby4 hg4 hat4; rw [← HE4.out] at hby4; obtain ⟨A4, c4, rfl, _, _⟩ := hby4.form; have hn4 := hn2k3.app hby4 hg4 hat4; have K4 := (hn4.2.2.cell (p := ⟨w.heap.size, 0, none⟩) hWs).trans C0X)
    go_ret2
    rw [HRR.out]
    exact ⟨_, rfl, hn4.1, fun k hk => Nat.le_trans hbW.size (hn4.2.1 k hk), hbW.trans (hn4.2.2.mono hbW.size)⟩

set_option maxHeartbeats 1000000 in
set_option maxRecDepth 100000 in
theorem rEvent_8 (x : XEvent) (cx : List Value) (w : World) (hx : EventC w (· < w.heap.size) cx x) (hf : Few x) (hp : properB x = true) (hk : x.kind = 8) (r : List UInt8 × Int) (hr : r = evR (enc 8 ++ (enc x.a ++ enc x.b))) :
    Calls Try.prog 18 #[.agg cx.toArray] w (BytesErr w r) := by
  have HR := Lib.hid hr
  clear hr
  have HKK := Lib.hid hk
  clear hk
  have HX := Lib.hid hx
  have HC45 := Lib.hid (size45 hx.len)
  have HP := Lib.hid hp
  clear hx hp
  go_enter Try.func18, Try.ntmps18
  go_upto_region 1 with fail
  have hbox : (w.alloc (Obj.cells cx.toArray 45)).heap[w.heap.size]? = some (Obj.cells cx.toArray 45) := heap_alloc_new w _
  generalize hW : w.alloc (Obj.cells cx.toArray 45) = W at *
  have hbW : Below w.heap.size w W := by rw [← hW]; exact below1 w _
  have hWs : w.heap.size < W.heap.size := by rw [← hW]; simp
  clear hW
  have EX := Lib.hid (HX.out.keep hbW)
  have HB := Lib.hid hbox
  have hat := EventC.at_ EX.out (box_at hbox)
  simp only [Nat.zero_add] at hat
  clear hbox
  go_wp2_with (refine wpList_load_row rfl 45 (.tmp 1) rfl w.heap.size rfl 45 cx.toArray (0, 0) _ HB.out Try.underlying45 rfl HC45.out ?_)
  refine (rProper_c x cx W EX.out hf).mono ?_
  rintro e w1 ⟨rfl, hb1⟩
  rw [HP.out]
  obtain ⟨⟨C0, i0⟩, ⟨l1, f1, m1⟩, ⟨l2, f2, m2⟩, ⟨l3, f3, m3⟩, ⟨l4, f4, m4⟩, ⟨l5, f5, m5⟩, ⟨C25, i25⟩, ⟨C26, i26⟩, C27⟩ := hat
  rw [HKK.out] at C0
  have b1 := hf.lines
  have b2 := hf.etext
  have b3 := hf.cur
  have b4 := hf.left
  have b5 := hf.right
  have b6 := hf.text
  have hek := enc_len 8
  have C0X := (Below.refl W.heap.size W).cell (p := ⟨w.heap.size, 0, none⟩) hWs |>.trans C0
  have K1 := (hb1.cell (p := ⟨w.heap.size, 0, none⟩) hWs).trans C0
  clear C27
  clear f1 f2 f3 f4 f5 m1 m2 m3 m4 m5
  have HC0 := Lib.hid C0
  clear C0
  go_wp2_with fail
  refine (refInt_c 8 w1 (by omega) (by omega)).mono ?_
  rintro e w2 ⟨v2, rfl, hn2a⟩
  obtain ⟨A2, c2, rfl, _, _⟩ := hn2a.1.form
  have hn2 : NewBytes W w2 (.slice A2 (enc 8).length c2) (enc 8) := ⟨hn2a.1, fun k hk => Nat.le_trans hb1.size (hn2a.2.1 k hk), hb1.trans (hn2a.2.2.mono hb1.size)⟩
  have K2 := (hn2.2.2.cell (p := ⟨w.heap.size, 0, none⟩) hWs).trans C0X
  have hbB := hn2.2.2
  clear K1 hn2a
  obtain ⟨M, hM⟩ : ∃ M, M = enc x.a ++ enc x.b := ⟨_, rfl⟩
  have hea : M.length ≤ 20 := by rw [hM]; have h1 := enc_len x.a; have h2 := enc_len x.b; simp only [List.length_append]; omega
  have HM := Lib.hid hM
  clear hM
  have K25 := (hbB.cell (p := ⟨w.heap.size, 25, none⟩) hWs).trans C25
  have K26 := (hbB.cell (p := ⟨w.heap.size, 26, none⟩) hWs).trans C26
  clear C25 C26
  go_wp2_with fail
  refine (ints_n _ 2 2 [x.a, x.b] M _ rfl (by rw [HM.out]; simp [List.flatMap]) (row_rd _ (iv [x.a, x.b]) 3 _ 2 (by simp) rfl) (by simp [i25, i26]) (by simp)).mono ?_
  rintro e w3 hP3
  obtain ⟨v3, rfl, hm3⟩ := hP3.below (below1 w2 _)
  have hn2k3 := hn2.keep hm3.2.2
  obtain ⟨A3, c3, rfl, _, _⟩ := hm3.1.form
  have K3 := (hn2k3.2.2.cell (p := ⟨w.heap.size, 0, none⟩) hWs).trans C0X
  clear K2 K25 K26 hP3
  obtain ⟨E4, hE4⟩ : ∃ E, E = enc 8 ++ M := ⟨_, rfl⟩
  have hlen4 : E4.length ≤ 1000000 := by rw [hE4]; simp only [List.length_append]; omega
  have HE4 := Lib.hid hE4
  clear hE4
  have HE := Lib.hid (show enc 8 ++ (enc x.a ++ enc x.b) = E4 from by rw [HE4.out, HM.out])
  by_cases hbig : 65536 < (E4).length
  · have hbI : (65536 : Int) < ((E4).length : Int) := by omega
    have HRR := Lib.hid (show r = ([], 6) by rw [HR.out, HE.out]; exact if_pos hbig)
    clear hbig
    go_wp2_with (at_builtin; go_loud (refine wpList_appB _ rfl (.tmp 13) (.tmp 19) rfl _ (enc 8) rfl hn2k3.1 (· < w3.heap.size) A3 c3 (M) rfl (hm3.1.rd (fun k hk => hm3.1.lt hk)).2 (by unfold Lim; omega) ?_); intro v4 w4 hby4 hg4 hat4; rw [← HE4.out] at hby4; obtain ⟨A4, c4, rfl, _, _⟩ := hby4.form; have hn4 := hn2k3.app hby4 hg4 hat4; have K4 := (hn4.2.2.cell (p := ⟨w.heap.size, 0, none⟩) hWs).trans C0X)
    go_ret2
    rw [HRR.out]
    exact ⟨.slice none 0 0, rfl, NewBytes.nilB (hbW.trans (hn4.2.2.mono hbW.size))⟩
  · have hbI : ¬ (65536 : Int) < ((E4).length : Int) := by omega
    have HRR := Lib.hid (show r = (E4, 0) by rw [HR.out, HE.out]; exact if_neg hbig)
    clear hbig
    go_wp2_with (at_builtin; go_loud (refine wpList_appB _ rfl (.tmp 13) (.tmp 19) rfl _ (enc 8) rfl hn2k3.1 (· < w3.heap.size) A3 c3 (M) rfl (hm3.1.rd (fun k hk => hm3.1.lt hk)).2 (by unfold Lim; omega) ?_); intro v4 w4 hby4 hg4 hat4; rw [← HE4.out] at hby4; obtain ⟨A4, c4, rfl, _, _⟩ := hby4.form; have hn4 := hn2k3.app hby4 hg4 hat4; have K4 := (hn4.2.2.cell (p := ⟨w.heap.size, 0, none⟩) hWs).trans C0X)
    go_ret2
    rw [HRR.out]
    exact ⟨_, rfl, hn4.1, fun k hk => Nat.le_trans hbW.size (hn4.2.1 k hk), hbW.trans (hn4.2.2.mono hbW.size)⟩

set_option maxHeartbeats 1000000 in
set_option maxRecDepth 100000 in
theorem rEvent_9 (x : XEvent) (cx : List Value) (w : World) (hx : EventC w (· < w.heap.size) cx x) (hf : Few x) (hp : properB x = true) (hk : x.kind = 9) (r : List UInt8 × Int) (hr : r = evR (enc 9 ++ (enc x.a ++ enc x.b))) :
    Calls Try.prog 18 #[.agg cx.toArray] w (BytesErr w r) := by
  have HR := Lib.hid hr
  clear hr
  have HKK := Lib.hid hk
  clear hk
  have HX := Lib.hid hx
  have HC45 := Lib.hid (size45 hx.len)
  have HP := Lib.hid hp
  clear hx hp
  go_enter Try.func18, Try.ntmps18
  go_upto_region 1 with fail
  have hbox : (w.alloc (Obj.cells cx.toArray 45)).heap[w.heap.size]? = some (Obj.cells cx.toArray 45) := heap_alloc_new w _
  generalize hW : w.alloc (Obj.cells cx.toArray 45) = W at *
  have hbW : Below w.heap.size w W := by rw [← hW]; exact below1 w _
  have hWs : w.heap.size < W.heap.size := by rw [← hW]; simp
  clear hW
  have EX := Lib.hid (HX.out.keep hbW)
  have HB := Lib.hid hbox
  have hat := EventC.at_ EX.out (box_at hbox)
  simp only [Nat.zero_add] at hat
  clear hbox
  go_wp2_with (refine wpList_load_row rfl 45 (.tmp 1) rfl w.heap.size rfl 45 cx.toArray (0, 0) _ HB.out Try.underlying45 rfl HC45.out ?_)
  refine (rProper_c x cx W EX.out hf).mono ?_
  rintro e w1 ⟨rfl, hb1⟩
  rw [HP.out]
  obtain ⟨⟨C0, i0⟩, ⟨l1, f1, m1⟩, ⟨l2, f2, m2⟩, ⟨l3, f3, m3⟩, ⟨l4, f4, m4⟩, ⟨l5, f5, m5⟩, ⟨C25, i25⟩, ⟨C26, i26⟩, C27⟩ := hat
  rw [HKK.out] at C0
  have b1 := hf.lines
  have b2 := hf.etext
  have b3 := hf.cur
  have b4 := hf.left
  have b5 := hf.right
  have b6 := hf.text
  have hek := enc_len 9
  have C0X := (Below.refl W.heap.size W).cell (p := ⟨w.heap.size, 0, none⟩) hWs |>.trans C0
  have K1 := (hb1.cell (p := ⟨w.heap.size, 0, none⟩) hWs).trans C0
  clear C27
  clear f1 f2 f3 f4 f5 m1 m2 m3 m4 m5
  have HC0 := Lib.hid C0
  clear C0
  go_wp2_with fail
  refine (refInt_c 9 w1 (by omega) (by omega)).mono ?_
  rintro e w2 ⟨v2, rfl, hn2a⟩
  obtain ⟨A2, c2, rfl, _, _⟩ := hn2a.1.form
  have hn2 : NewBytes W w2 (.slice A2 (enc 9).length c2) (enc 9) := ⟨hn2a.1, fun k hk => Nat.le_trans hb1.size (hn2a.2.1 k hk), hb1.trans (hn2a.2.2.mono hb1.size)⟩
  have K2 := (hn2.2.2.cell (p := ⟨w.heap.size, 0, none⟩) hWs).trans C0X
  have hbB := hn2.2.2
  clear K1 hn2a
  obtain ⟨M, hM⟩ : ∃ M, M = enc x.a ++ enc x.b := ⟨_, rfl⟩
  have hea : M.length ≤ 20 := by rw [hM]; have h1 := enc_len x.a; have h2 := enc_len x.b; simp only [List.length_append]; omega
  have HM := Lib.hid hM
  clear hM
  have K25 := (hbB.cell (p := ⟨w.heap.size, 25, none⟩) hWs).trans C25
  have K26 := (hbB.cell (p := ⟨w.heap.size, 26, none⟩) hWs).trans C26
  clear C25 C26
  go_wp2_with fail
  refine (ints_n _ 2 2 [x.a, x.b] M _ rfl (by rw [HM.out]; simp [List.flatMap]) (row_rd _ (iv [x.a, x.b]) 3 _ 2 (by simp) rfl) (by simp [i25, i26]) (by simp)).mono ?_
  rintro e w3 hP3
  obtain ⟨v3, rfl, hm3⟩ := hP3.below (below1 w2 _)
  have hn2k3 := hn2.keep hm3.2.2
  obtain ⟨A3, c3, rfl, _, _⟩ := hm3.1.form
  have K3 := (hn2k3.2.2.cell (p := ⟨w.heap.size, 0, none⟩) hWs).trans C0X
  clear K2 K25 K26 hP3
  obtain ⟨E4, hE4⟩ : ∃ E, E = enc 9 ++ M := ⟨_, rfl⟩
  have hlen4 : E4.length ≤ 1000000 := by rw [hE4]; simp only [List.length_append]; omega
  have HE4 := Lib.hid hE4
  clear hE4
  have HE := Lib.hid (show enc 9 ++ (enc x.a ++ enc x.b) = E4 from by rw [HE4.out, HM.out])
  by_cases hbig : 65536 < (E4).length
  · have hbI : (65536 : Int) < ((E4).length : Int) := by omega
    have HRR := Lib.hid (show r = ([], 6) by rw [HR.out, HE.out]; exact if_pos hbig)
    clear hbig
    go_wp2_with (at_builtin; go_loud (refine wpList_appB _ rfl (.tmp 13) (.tmp 19) rfl _ (enc 9) rfl hn2k3.1 (· < w3.heap.size) A3 c3 (M) rfl (hm3.1.rd (fun k hk => hm3.1.lt hk)).2 (by unfold Lim; omega) ?_); intro v4 w4 hby4 hg4 hat4; rw [← HE4.out] at hby4; obtain ⟨A4, c4, rfl, _, _⟩ := hby4.form; have hn4 := hn2k3.app hby4 hg4 hat4; have K4 := (hn4.2.2.cell (p := ⟨w.heap.size, 0, none⟩) hWs).trans C0X)
    go_ret2
    rw [HRR.out]
    exact ⟨.slice none 0 0, rfl, NewBytes.nilB (hbW.trans (hn4.2.2.mono hbW.size))⟩
  · have hbI : ¬ (65536 : Int) < ((E4).length : Int) := by omega
    have HRR := Lib.hid (show r = (E4, 0) by rw [HR.out, HE.out]; exact if_neg hbig)
    clear hbig
    go_wp2_with (at_builtin; go_loud (refine wpList_appB _ rfl (.tmp 13) (.tmp 19) rfl _ (enc 9) rfl hn2k3.1 (· < w3.heap.size) A3 c3 (M) rfl (hm3.1.rd (fun k hk => hm3.1.lt hk)).2 (by unfold Lim; omega) ?_); intro v4 w4 hby4 hg4 hat4; rw [← HE4.out] at hby4; obtain ⟨A4, c4, rfl, _, _⟩ := hby4.form; have hn4 := hn2k3.app hby4 hg4 hat4; have K4 := (hn4.2.2.cell (p := ⟨w.heap.size, 0, none⟩) hWs).trans C0X)
    go_ret2
    rw [HRR.out]
    exact ⟨_, rfl, hn4.1, fun k hk => Nat.le_trans hbW.size (hn4.2.1 k hk), hbW.trans (hn4.2.2.mono hbW.size)⟩

set_option maxHeartbeats 1000000 in
set_option maxRecDepth 100000 in
theorem rEvent_10 (x : XEvent) (cx : List Value) (w : World) (hx : EventC w (· < w.heap.size) cx x) (hf : Few x) (hp : properB x = true) (hk : x.kind = 10) (r : List UInt8 × Int) (hr : r = evR (enc 10 ++ (enc x.a ++ enc x.b ++ encS x.text))) :
    Calls Try.prog 18 #[.agg cx.toArray] w (BytesErr w r) := by
  have HR := Lib.hid hr
  clear hr
  have HKK := Lib.hid hk
  clear hk
  have HX := Lib.hid hx
  have HC45 := Lib.hid (size45 hx.len)
  have HP := Lib.hid hp
  clear hx hp
  go_enter Try.func18, Try.ntmps18
  go_upto_region 1 with fail
  have hbox : (w.alloc (Obj.cells cx.toArray 45)).heap[w.heap.size]? = some (Obj.cells cx.toArray 45) := heap_alloc_new w _
  generalize hW : w.alloc (Obj.cells cx.toArray 45) = W at *
  have hbW : Below w.heap.size w W := by rw [← hW]; exact below1 w _
  have hWs : w.heap.size < W.heap.size := by rw [← hW]; simp
  clear hW
  have EX := Lib.hid (HX.out.keep hbW)
  have HB := Lib.hid hbox
  have hat := EventC.at_ EX.out (box_at hbox)
  simp only [Nat.zero_add] at hat
  clear hbox
  go_wp2_with (refine wpList_load_row rfl 45 (.tmp 1) rfl w.heap.size rfl 45 cx.toArray (0, 0) _ HB.out Try.underlying45 rfl HC45.out ?_)
  refine (rProper_c x cx W EX.out hf).mono ?_
  rintro e w1 ⟨rfl, hb1⟩
  rw [HP.out]
  obtain ⟨⟨C0, i0⟩, ⟨l1, f1, m1⟩, ⟨l2, f2, m2⟩, ⟨l3, f3, m3⟩, ⟨l4, f4, m4⟩, ⟨l5, f5, m5⟩, ⟨C25, i25⟩, ⟨C26, i26⟩, C27⟩ := hat
  rw [HKK.out] at C0
  have b1 := hf.lines
  have b2 := hf.etext
  have b3 := hf.cur
  have b4 := hf.left
  have b5 := hf.right
  have b6 := hf.text
  have hek := enc_len 10
  have C0X := (Below.refl W.heap.size W).cell (p := ⟨w.heap.size, 0, none⟩) hWs |>.trans C0
  have K1 := (hb1.cell (p := ⟨w.heap.size, 0, none⟩) hWs).trans C0
  clear f1 f2 f3 f4 f5 m1 m2 m3 m4 m5
  have HC0 := Lib.hid C0
  clear C0
  go_wp2_with fail
  refine (refInt_c 10 w1 (by omega) (by omega)).mono ?_
  rintro e w2 ⟨v2, rfl, hn2a⟩
  obtain ⟨A2, c2, rfl, _, _⟩ := hn2a.1.form
  have hn2 : NewBytes W w2 (.slice A2 (enc 10).length c2) (enc 10) := ⟨hn2a.1, fun k hk => Nat.le_trans hb1.size (hn2a.2.1 k hk), hb1.trans (hn2a.2.2.mono hb1.size)⟩
  have K2 := (hn2.2.2.cell (p := ⟨w.heap.size, 0, none⟩) hWs).trans C0X
  have hbB := hn2.2.2
  clear K1 hn2a
  obtain ⟨M, hM⟩ : ∃ M, M = enc x.a ++ enc x.b := ⟨_, rfl⟩
  have hea : M.length ≤ 20 := by rw [hM]; have h1 := enc_len x.a; have h2 := enc_len x.b; simp only [List.length_append]; omega
  have HM := Lib.hid hM
  clear hM
  have K25 := (hbB.cell (p := ⟨w.heap.size, 25, none⟩) hWs).trans C25
  have K26 := (hbB.cell (p := ⟨w.heap.size, 26, none⟩) hWs).trans C26
  clear C25 C26
  have hel := encS_len x.text
  have H27 := Lib.hid C27
  clear C27
  go_wp2_with fail
  refine (ints_n _ 2 2 [x.a, x.b] M _ rfl (by rw [HM.out]; simp [List.flatMap]) (row_rd _ (iv [x.a, x.b]) 3 _ 2 (by simp) rfl) (by simp [i25, i26]) (by simp)).mono ?_
  rintro e w3 hP3
  obtain ⟨v3, rfl, hm3⟩ := hP3.below (below1 w2 _)
  have hn2k3 := hn2.keep hm3.2.2
  obtain ⟨A3, c3, rfl, _, _⟩ := hm3.1.form
  have K3 := (hn2k3.2.2.cell (p := ⟨w.heap.size, 0, none⟩) hWs).trans C0X
  clear K2 K25 K26 hP3
  obtain ⟨E4, hE4⟩ : ∃ E, E = enc 10 ++ M := ⟨_, rfl⟩
  have hlen4 : E4.length ≤ 1000000 := by rw [hE4]; simp only [List.length_append]; omega
  have HE4 := Lib.hid hE4
  clear hE4
  go_wp2_with (at_builtin; go_loud (refine wpList_appB _ rfl (.tmp 13) (.tmp 19) rfl _ (enc 10) rfl hn2k3.1 (· < w3.heap.size) A3 c3 (M) rfl (hm3.1.rd (fun k hk => hm3.1.lt hk)).2 (by unfold Lim; omega) ?_); intro v4 w4 hby4 hg4 hat4; rw [← HE4.out] at hby4; obtain ⟨A4, c4, rfl, _, _⟩ := hby4.form; have hn4 := hn2k3.app hby4 hg4 hat4; have K4 := (hn4.2.2.cell (p := ⟨w.heap.size, 0, none⟩) hWs).trans C0X; have K27 := (hn4.2.2.cell (p := ⟨w.heap.size, 27, none⟩) hWs).trans H27.out)
  refine (text_c x.text _ (by omega)).mono ?_
  rintro e w5 hP5
  obtain ⟨v5, rfl, hm5⟩ := hP5
  have hn4k5 := hn4.keep hm5.2.2
  obtain ⟨A5, c5, rfl, _, _⟩ := hm5.1.form
  have K5 := (hn4k5.2.2.cell (p := ⟨w.heap.size, 0, none⟩) hWs).trans C0X
  clear K4 K27
  obtain ⟨E6, hE6⟩ : ∃ E, E = E4 ++ encS x.text := ⟨_, rfl⟩
  have hlen6 : E6.length ≤ 2000000 := by rw [hE6]; simp only [List.length_append]; omega
  have HE6 := Lib.hid hE6
  clear hE6
  have HE := Lib.hid (show enc 10 ++ (enc x.a ++ enc x.b ++ encS x.text) = E6 from by rw [HE6.out, HE4.out, HM.out]; simp only [List.append_assoc])
  by_cases hbig : 65536 < (E6).length
  · have hbI : (65536 : Int) < ((E6).length : Int) := by omega
    have HRR := Lib.hid (show r = ([], 6) by rw [HR.out, HE.out]; exact if_pos hbig)
    clear hbig
    go_wp2_with (at_builtin; go_loud (refine wpList_appB _ rfl (.tmp 66) (.tmp 69) rfl _ (E4) rfl hn4k5.1 (· < w5.heap.size) A5 c5 (encS x.text) rfl (hm5.1.rd (fun k hk => hm5.1.lt hk)).2 (by unfold Lim; omega) ?_); intro v6 w6 hby6 hg6 hat6; rw [← HE6.out] at hby6; obtain ⟨A6, c6, rfl, _, _⟩ := hby6.form; have hn6 := hn4k5.app hby6 hg6 hat6; have K6 := (hn6.2.2.cell (p := ⟨w.heap.size, 0, none⟩) hWs).trans C0X)
    go_ret2
    rw [HRR.out]
    exact ⟨.slice none 0 0, rfl, NewBytes.nilB (hbW.trans (hn6.2.2.mono hbW.size))⟩
  · have hbI : ¬ (65536 : Int) < ((E6).length : Int) := by omega
    have HRR := Lib.hid (show r = (E6, 0) by rw [HR.out, HE.out]; exact if_neg hbig)
    clear hbig
    go_wp2_with (at_builtin; go_loud (refine wpList_appB _ rfl (.tmp 66) (.tmp 69) rfl _ (E4) rfl hn4k5.1 (· < w5.heap.size) A5 c5 (encS x.text) rfl (hm5.1.rd (fun k hk => hm5.1.lt hk)).2 (by unfold Lim; omega) ?_); intro v6 w6 hby6 hg6 hat6; rw [← HE6.out] at hby6; obtain ⟨A6, c6, rfl, _, _⟩ := hby6.form; have hn6 := hn4k5.app hby6 hg6 hat6; have K6 := (hn6.2.2.cell (p := ⟨w.heap.size, 0, none⟩) hWs).trans C0X)
    go_ret2
    rw [HRR.out]
    exact ⟨_, rfl, hn6.1, fun k hk => Nat.le_trans hbW.size (hn6.2.1 k hk), hbW.trans (hn6.2.2.mono hbW.size)⟩

theorem rEvent_c (x : XEvent) (cx : List Value) (w : World) (hx : EventC w (· < w.heap.size) cx x) (hf : Few x) :
    Calls Try.prog 18 #[.agg cx.toArray] w (BytesErr w (eventR x)) := by
  by_cases hp : properB x = true
  · have e : eventR x = evR (encEv x) := by unfold eventR evR; rw [if_pos hp]
    rw [e]
    have hkn : known x.kind = true := by
      unfold properB at hp; rw [Bool.and_eq_true] at hp; exact hp.1
    have h2 : 1 ≤ x.kind ∧ x.kind ≤ 10 := by simpa [known] using hkn
    have hc : x.kind = 1 ∨ x.kind = 2 ∨ x.kind = 3 ∨ x.kind = 4 ∨ x.kind = 5 ∨ x.kind = 6 ∨ x.kind = 7 ∨ x.kind = 8 ∨ x.kind = 9 ∨ x.kind = 10 := by omega
    rcases hc with h | h | h | h | h | h | h | h | h | h
    · exact rEvent_1 x cx w hx hf hp h _ (by rw [encEv, h]; simp [encFields, h])
    · exact rEvent_2 x cx w hx hf hp h _ (by rw [encEv, h]; simp [encFields, h])
    · exact rEvent_3 x cx w hx hf hp h _ (by rw [encEv, h]; simp [encFields, h])
    · exact rEvent_4 x cx w hx hf hp h _ (by rw [encEv, h]; simp [encFields, h])
    · exact rEvent_5 x cx w hx hf hp h _ (by rw [encEv, h]; simp [encFields, h])
    · exact rEvent_6 x cx w hx hf hp h _ (by rw [encEv, h]; simp [encFields, h])
    · exact rEvent_7 x cx w hx hf hp h _ (by rw [encEv, h]; simp [encFields, h])
    · exact rEvent_8 x cx w hx hf hp h _ (by rw [encEv, h]; simp [encFields, h])
    · exact rEvent_9 x cx w hx hf hp h _ (by rw [encEv, h]; simp [encFields, h])
    · exact rEvent_10 x cx w hx hf hp h _ (by rw [encEv, h]; simp [encFields, h])
  · have e : eventR x = ([], 1) := by unfold eventR; rw [if_neg hp]
    rw [e]
    exact rEvent_no x cx w hx hf (by simpa using hp)
end Go.Proofs.Ytgdibeegheddmaa
