/- The reference writer of books. Written by gen_k2.py. -/
import Derived.Test.YtgdibeegheddmaaYK1RefGroup
namespace Go.Proofs.Ytgdibeegheddmaa
open Go Go.RowKit
set_option linter.unusedVariables false
set_option linter.unusedSimpArgs false
attribute [local go_sem ↓] Go.wp_at_zero Go.wp_at_succ
theorem info133 : (Try.prog.info? 133).map (·.size) = some 5 := by kernel_rfl
theorem info57 : (Try.prog.info? 57).map (·.size) = some 15 := by kernel_rfl
theorem info60 : (Try.prog.info? 60).map (·.size) = some 21 := by kernel_rfl
theorem info67 : (Try.prog.info? 67).map (·.size) = some 27 := by kernel_rfl
/-- A group is small. -/
structure FewGrp (x : XGroup) : Prop where
  cur : x.currency.size ≤ 1000
  chart : x.chart.length ≤ 250
  ents : x.entities.length ≤ 15
  each : ∀ y ∈ x.entities, FewEnt y
theorem encRoles_len (x : XRoles) : (encRoles x).length ≤ 150 := by
  have h0 := enc_len x.investment
  have h1 := enc_len x.goodwill
  have h2 := enc_len x.associates
  have h3 := enc_len x.inventory
  have h4 := enc_len x.reserve
  have h5 := enc_len x.minority
  have h6 := enc_len x.retained
  have h7 := enc_len x.acquired
  have h8 := enc_len x.owners
  have h9 := enc_len x.disposal
  have h10 := enc_len x.associateProfit
  have h11 := enc_len x.dividends
  have h12 := enc_len x.minorityProfit
  have h13 := enc_len x.difference
  have h14 := enc_len x.margin
  simp only [encRoles, List.length_append]
  omega
theorem encCal_len (x : XCal) : (encCal x).length ≤ 30 := by
  have h1 := enc_len x.year
  have h2 := enc_len x.month
  have h3 := enc_len x.periods
  simp only [encCal, List.length_append]
  omega
theorem FewGrp.len {x : XGroup} (h : FewGrp x) : (encGroup x).length ≤ 500000 := by
  have h1 := encS_len x.currency
  have h2 := encCal_len x.calendar
  have h3 := encL_len_n encAccount 40 encAccount_len x.chart
  have h4 := encRoles_len x.roles
  have h5 := flat_le_m encEntity 30000 x.entities (fun y hy => (h.each y hy).len)
  have h6 := enc_len (x.entities.length : Int)
  have := h.cur
  have := h.chart
  have := h.ents
  simp only [encGroup, encL, List.length_append] at *
  omega
theorem RolesC.one {w : World} {Q : Nat → Prop} {cs : List Value} {x : XRoles} (h : RolesC w Q cs x) : cs.toArray.all (·.oneCell') = true := by
  obtain ⟨_, _, _, _, _, _, _, _, _, _, _, _, _, _, _, rfl, ⟨rfl, _⟩, ⟨rfl, _⟩, ⟨rfl, _⟩, ⟨rfl, _⟩, ⟨rfl, _⟩, ⟨rfl, _⟩, ⟨rfl, _⟩, ⟨rfl, _⟩, ⟨rfl, _⟩, ⟨rfl, _⟩, ⟨rfl, _⟩, ⟨rfl, _⟩, ⟨rfl, _⟩, ⟨rfl, _⟩, ⟨rfl, _⟩⟩ := h
  simp [Value.oneCell']
theorem RolesC.bds {w : World} {Q : Nat → Prop} {cs : List Value} {x : XRoles} (h : RolesC w Q cs x) : ∀ n ∈ [x.investment, x.goodwill, x.associates, x.inventory, x.reserve, x.minority, x.retained, x.acquired, x.owners, x.disposal, x.associateProfit, x.dividends, x.minorityProfit, x.difference, x.margin], intBd n := by
  obtain ⟨_, _, _, _, _, _, _, _, _, _, _, _, _, _, _, _, ⟨_, b0⟩, ⟨_, b1⟩, ⟨_, b2⟩, ⟨_, b3⟩, ⟨_, b4⟩, ⟨_, b5⟩, ⟨_, b6⟩, ⟨_, b7⟩, ⟨_, b8⟩, ⟨_, b9⟩, ⟨_, b10⟩, ⟨_, b11⟩, ⟨_, b12⟩, ⟨_, b13⟩, ⟨_, b14⟩⟩ := h
  simp [b0, b1, b2, b3, b4, b5, b6, b7, b8, b9, b10, b11, b12, b13, b14]
set_option maxHeartbeats 4000000 in
set_option maxRecDepth 100000 in
theorem rGroup_c (x : XGroup) (cx : List Value) (w : World) (hx : GroupC w (· < w.heap.size) cx x) (hf : FewGrp x) :
    Calls Try.prog 73 #[.agg cx.toArray] w (NewP w (encGroup x)) := by
  have q1 := hf.cur
  have q2 := hf.chart
  have q3 := hf.ents
  have q4 := Lib.hid hf.each
  have HX := Lib.hid hx
  clear hx hf
  have HW0 := Lib.hid (heap_alloc_new w (.cells cx.toArray 60))
  obtain ⟨_, _, _, ⟨lr, fr0, mr⟩, _⟩ := GroupC.at_ (HX.out.keep (below1 w (.cells cx.toArray 60))) (box_at HW0.out)
  simp only [Nat.zero_add] at mr
  have RR := mr.range
  have HI := Lib.hid (show (Try.prog.info? 57).map (·.size) = some lr.length by rw [info57, fr0.len])
  have HI2 := Lib.hid (show (Try.prog.info? 57).map (·.size) = some lr.toArray.size by rw [info57, List.size_toArray, fr0.len])
  have HSZ := Lib.hid (show (#[.int .i64 0, .int .i64 0, .int .i64 0, .int .i64 0, .int .i64 0, .int .i64 0, .int .i64 0, .int .i64 0, .int .i64 0, .int .i64 0, .int .i64 0, .int .i64 0, .int .i64 0, .int .i64 0, .int .i64 0] : Array Value).size = lr.toArray.size by have := fr0.len; simp [this])
  have HONE := Lib.hid fr0.one
  have FR := Lib.hid fr0
  clear fr0 mr
  go_enter Try.func73, Try.ntmps73
  go_upto_region 2 with (first | refine wpList_load_mid rfl 57 (.tmp 6) rfl w.heap.size 5 rfl lr _ RR Try.underlying57 rfl HI.out ?_ | refine wpList_store_row rfl 57 (.tmp 3) (.tmp 7) rfl (w.heap.size + 1) lr.toArray rfl rfl 57 _ (heap2 w _ _).2.1 HI2.out HSZ.out HONE.out ?_)
  generalize hW : World.setRow ((w.alloc (.cells cx.toArray 60)).alloc (.cells #[.int .i64 0, .int .i64 0, .int .i64 0, .int .i64 0, .int .i64 0, .int .i64 0, .int .i64 0, .int .i64 0, .int .i64 0, .int .i64 0, .int .i64 0, .int .i64 0, .int .i64 0, .int .i64 0, .int .i64 0] 57)) (w.heap.size + 1) lr.toArray = W
  have hh2 := heap2 w (.cells cx.toArray 60) (.cells #[.int .i64 0, .int .i64 0, .int .i64 0, .int .i64 0, .int .i64 0, .int .i64 0, .int .i64 0, .int .i64 0, .int .i64 0, .int .i64 0, .int .i64 0, .int .i64 0, .int .i64 0, .int .i64 0, .int .i64 0] 57)
  have H1 : W.heap[w.heap.size + 1]? = some (.cells lr.toArray 57 (0, 0)) := by rw [← hW]; exact heap_setRow hh2.2.1 _
  have fW : Fr (fun k => k ≠ w.heap.size + 1) ((w.alloc (.cells cx.toArray 60)).alloc (.cells #[.int .i64 0, .int .i64 0, .int .i64 0, .int .i64 0, .int .i64 0, .int .i64 0, .int .i64 0, .int .i64 0, .int .i64 0, .int .i64 0, .int .i64 0, .int .i64 0, .int .i64 0, .int .i64 0, .int .i64 0] 57)) W := by rw [← hW]; exact fr_setRow _ _ _
  clear hW
  have H0 : W.heap[w.heap.size]? = some (.cells cx.toArray 60 (0, 0)) := (fW.block w.heap.size (by show w.heap.size ≠ w.heap.size + 1; omega)).trans hh2.1
  have FW : Fr (· < w.heap.size) w W := hh2.2.2.2.trans (fW.mono (fun k hk => by show k ≠ w.heap.size + 1; omega))
  have hsz : w.heap.size + 2 ≤ W.heap.size := by have := fW.size; have := hh2.2.2.1; omega
  have hbW : Below w.heap.size w W := FW.below
  have hWs : w.heap.size < W.heap.size := by omega
  have hWs1 : w.heap.size + 1 < W.heap.size := by omega
  clear fW hh2 FW
  obtain ⟨C0, ⟨lcal, fcal, mcal⟩, ⟨lch, fch, mch⟩, _, ⟨len_, fen, men⟩⟩ := GroupC.at_ (HX.out.keep hbW) (box_at H0)
  obtain ⟨⟨C1, i1⟩, ⟨C2, i2⟩, ⟨C3, i3⟩⟩ := fcal.at_ mcal
  have hlc := fch.len
  obtain ⟨vc, rfl⟩ := List.length_eq_one_iff.1 hlc
  have C4 := mch.c (j := 0) rfl
  obtain ⟨Al, cal, rfl, _, _, hel⟩ := fen
  have C20 := men.c (j := 0) rfl
  simp only [Nat.zero_add, Nat.add_zero, Nat.reduceAdd] at C0 C1 C2 C3 C4 C20
  have HA := Lib.hid fch
  have HL20 := Lib.hid hel
  have DD := Lib.hid (RolesC.at_ (show RolesC W (fun _ => True) lr x.roles from FR.out) (box_at H1))
  have hLL : (encS x.currency ++ encCal x.calendar ++ encL encAccount x.chart).length ≤ 1000000 := by
    have h1 := encS_len x.currency
    have h2 := encCal_len x.calendar
    have h3 := encL_len_n encAccount 40 encAccount_len x.chart
    simp only [List.length_append]
    omega
  have HLL := Lib.hid (Nat.le_trans hLL (show 1000000 ≤ 100000000000 by omega))
  have HLQ := Lib.hid hLL
  clear hLL mcal mch men fcal fch hlc H0 H1 hel RR
  refine wp_region_inv (Ks W [.val (.pointer (some ⟨w.heap.size, 0, none⟩)), .val (.string x.currency), .row (encS x.currency), .val (.pointer (some ⟨w.heap.size, 1, none⟩)), .val (.pointer (some ⟨w.heap.size, 1, none⟩)), .val (.int .i64 x.calendar.year), .val (.pointer (some ⟨w.heap.size, 1, none⟩)), .val (.pointer (some ⟨w.heap.size, 2, none⟩)), .val (.int .i64 x.calendar.month), .val (.pointer (some ⟨w.heap.size, 1, none⟩)), .val (.pointer (some ⟨w.heap.size, 3, none⟩)), .val (.int .i64 x.calendar.periods), .ints [x.calendar.year, x.calendar.month, x.calendar.periods], .row (encCal x.calendar), .val (.pointer (some ⟨w.heap.size, 4, none⟩)), .val (vc), .row (encL encAccount x.chart), .parts [encS x.currency, encCal x.calendar, encL encAccount x.chart], .row (encS x.currency ++ encCal x.calendar ++ encL encAccount x.chart), .row (encS x.currency ++ encCal x.calendar ++ encL encAccount x.chart)])
    (fun w' => Below W.heap.size W w') (by kernel_rfl) (by kernel_rfl) (by kernel_rfl) (Below.refl _ _).drew ?_ ?_
  · refine ⟨?_, ?_, ?_, ?_, ?_, ?_, ?_, ?_, ?_, ?_, ?_, ?_, ?_, ?_, ?_, ?_, ?_, ?_, ?_, ?_, trivial⟩
    · intro listed A0 w2 hI hd hnd K hK
      have e0 := hI.slot hnd 1 _ rfl (by kernel_rfl)
      have hS := hI.world
      refine wanted_go rfl ?_
      clear hI hd hnd
      go_simp
      exact hK.out _ _ hS (Ks.of rfl rfl) (fun _ _ h => h)
    · intro listed A0 w2 hI hd hnd K hK
      have e0 := hI.depv hd 0 8 _ rfl rfl rfl (by kernel_rfl)
      have hS := hI.world
      have hcc : w2.cell? ⟨w.heap.size, 0, none⟩ = _ := (hS.cell (p := ⟨w.heap.size, 0, none⟩) hWs).trans C0
      refine wanted_go rfl ?_
      clear hI hd hnd
      go_simp
      exact hK.out _ _ hS (Ks.of rfl rfl) (fun _ _ h => h)
    · intro listed A0 w2 hI hd hnd K hK
      have e0 := hI.depv hd 1 9 _ rfl rfl rfl (by kernel_rfl)
      have hS := hI.world
      refine wanted_go rfl ?_
      clear hI hd hnd
      go_simp
      go_at_call 40
      refine (text_c x.currency w2 (by omega)).mono ?_
      rintro e w3 hP
      obtain ⟨v, rfl, h1, h2, h3⟩ := NewP.from hP hS
      exact hK.out _ _ h1 (Ks.of rfl h2) (Ks.keep h3)
    · intro listed A0 w2 hI hd hnd K hK
      have e0 := hI.slot hnd 1 _ rfl (by kernel_rfl)
      have hS := hI.world
      refine wanted_go rfl ?_
      clear hI hd hnd
      go_simp
      exact hK.out _ _ hS (Ks.of rfl rfl) (fun _ _ h => h)
    · intro listed A0 w2 hI hd hnd K hK
      have e0 := hI.depv hd 3 11 _ rfl rfl rfl (by kernel_rfl)
      have hS := hI.world
      refine wanted_go rfl ?_
      clear hI hd hnd
      go_simp
      exact hK.out _ _ hS (Ks.of rfl rfl) (fun _ _ h => h)
    · intro listed A0 w2 hI hd hnd K hK
      have e0 := hI.depv hd 4 12 _ rfl rfl rfl (by kernel_rfl)
      have hS := hI.world
      have hcc : w2.cell? ⟨w.heap.size, 1, none⟩ = _ := (hS.cell (p := ⟨w.heap.size, 1, none⟩) hWs).trans C1
      refine wanted_go rfl ?_
      clear hI hd hnd
      go_simp
      exact hK.out _ _ hS (Ks.of rfl rfl) (fun _ _ h => h)
    · intro listed A0 w2 hI hd hnd K hK
      have e0 := hI.slot hnd 1 _ rfl (by kernel_rfl)
      have hS := hI.world
      refine wanted_go rfl ?_
      clear hI hd hnd
      go_simp
      exact hK.out _ _ hS (Ks.of rfl rfl) (fun _ _ h => h)
    · intro listed A0 w2 hI hd hnd K hK
      have e0 := hI.depv hd 6 14 _ rfl rfl rfl (by kernel_rfl)
      have hS := hI.world
      refine wanted_go rfl ?_
      clear hI hd hnd
      go_simp
      exact hK.out _ _ hS (Ks.of rfl rfl) (fun _ _ h => h)
    · intro listed A0 w2 hI hd hnd K hK
      have e0 := hI.depv hd 7 15 _ rfl rfl rfl (by kernel_rfl)
      have hS := hI.world
      have hcc : w2.cell? ⟨w.heap.size, 2, none⟩ = _ := (hS.cell (p := ⟨w.heap.size, 2, none⟩) hWs).trans C2
      refine wanted_go rfl ?_
      clear hI hd hnd
      go_simp
      exact hK.out _ _ hS (Ks.of rfl rfl) (fun _ _ h => h)
    · intro listed A0 w2 hI hd hnd K hK
      have e0 := hI.slot hnd 1 _ rfl (by kernel_rfl)
      have hS := hI.world
      refine wanted_go rfl ?_
      clear hI hd hnd
      go_simp
      exact hK.out _ _ hS (Ks.of rfl rfl) (fun _ _ h => h)
    · intro listed A0 w2 hI hd hnd K hK
      have e0 := hI.depv hd 9 17 _ rfl rfl rfl (by kernel_rfl)
      have hS := hI.world
      refine wanted_go rfl ?_
      clear hI hd hnd
      go_simp
      exact hK.out _ _ hS (Ks.of rfl rfl) (fun _ _ h => h)
    · intro listed A0 w2 hI hd hnd K hK
      have e0 := hI.depv hd 10 18 _ rfl rfl rfl (by kernel_rfl)
      have hS := hI.world
      have hcc : w2.cell? ⟨w.heap.size, 3, none⟩ = _ := (hS.cell (p := ⟨w.heap.size, 3, none⟩) hWs).trans C3
      refine wanted_go rfl ?_
      clear hI hd hnd
      go_simp
      exact hK.out _ _ hS (Ks.of rfl rfl) (fun _ _ h => h)
    · intro listed A0 w2 hI hd hnd K hK
      have e0 := hI.depv hd 5 13 _ rfl rfl rfl (by kernel_rfl)
      have e1 := hI.depv hd 8 16 _ rfl rfl rfl (by kernel_rfl)
      have e2 := hI.depv hd 11 19 _ rfl rfl rfl (by kernel_rfl)
      have hS := hI.world
      refine wanted_go rfl ?_
      clear hI hd hnd
      go_simp
      exact hK.out _ _ (hS.alloc hS.size _) (Ks.of rfl (NewInts.made (W := W) [x.calendar.year, x.calendar.month, x.calendar.periods] 3 rfl _ rfl _ rfl)) (Ks.keep (below1 w2 _))
    · intro listed A0 w2 hI hd hnd K hK
      obtain ⟨x0, e0, h0⟩ := hI.dep hd 12 20 rfl rfl rfl (by kernel_rfl)
      obtain ⟨bb0, rfl, hr0⟩ := h0
      have hS := hI.world
      refine wanted_go rfl ?_
      clear hI hd hnd
      go_simp
      go_at_call 41
      refine (ints_n _ _ _ [x.calendar.year, x.calendar.month, x.calendar.periods] (encCal x.calendar) w2 rfl (by simp [encCal]) hr0 (by simp [i1, i2, i3]) (by simp)).mono ?_
      rintro e w3 hP
      obtain ⟨v, rfl, h1, h2, h3⟩ := NewP.from hP hS
      exact hK.out _ _ h1 (Ks.of rfl h2) (Ks.keep h3)
    · intro listed A0 w2 hI hd hnd K hK
      have e0 := hI.slot hnd 1 _ rfl (by kernel_rfl)
      have hS := hI.world
      refine wanted_go rfl ?_
      clear hI hd hnd
      go_simp
      exact hK.out _ _ hS (Ks.of rfl rfl) (fun _ _ h => h)
    · intro listed A0 w2 hI hd hnd K hK
      have e0 := hI.depv hd 14 22 _ rfl rfl rfl (by kernel_rfl)
      have hS := hI.world
      have hcc : w2.cell? ⟨w.heap.size, 4, none⟩ = _ := (hS.cell (p := ⟨w.heap.size, 4, none⟩) hWs).trans C4
      refine wanted_go rfl ?_
      clear hI hd hnd
      go_simp
      exact hK.out _ _ hS (Ks.of rfl rfl) (fun _ _ h => h)
    · intro listed A0 w2 hI hd hnd K hK
      have e0 := hI.depv hd 15 23 _ rfl rfl rfl (by kernel_rfl)
      have hS := hI.world
      refine wanted_go rfl ?_
      clear hI hd hnd
      go_simp
      go_at_call 84
      refine (rAccounts_n _ _ x.chart w2 (HA.out.keep AccountC.fr AccountC.mono hS) rfl (by omega)).mono ?_
      rintro e w3 hP
      obtain ⟨v, rfl, h1, h2, h3⟩ := NewP.from hP hS
      exact hK.out _ _ h1 (Ks.of rfl h2) (Ks.keep h3)
    · intro listed A0 w2 hI hd hnd K hK
      obtain ⟨x0, e0, h0⟩ := hI.dep hd 2 10 rfl rfl rfl (by kernel_rfl)
      obtain ⟨x1, e1, h1⟩ := hI.dep hd 13 21 rfl rfl rfl (by kernel_rfl)
      obtain ⟨x2, e2, h2⟩ := hI.dep hd 16 24 rfl rfl rfl (by kernel_rfl)
      have hS := hI.world
      obtain ⟨A0, n0, c0, rfl⟩ := Bytes.shape h0.1
      obtain ⟨A1, n1, c1, rfl⟩ := Bytes.shape h1.1
      obtain ⟨A2, n2, c2, rfl⟩ := Bytes.shape h2.1
      have HPP := Lib.hid (Parts.cons h0 (Parts.cons h1 (Parts.cons h2 (Parts.nil w2))))
      refine wanted_go rfl ?_
      clear hI hd hnd h0 h1 h2
      go_simp
      exact hK.out _ _ (hS.alloc hS.size _) (Ks.of rfl (NewParts.made (W := W) _ [encS x.currency, encCal x.calendar, encL encAccount x.chart] 3 rfl rfl _ rfl _ rfl HPP.out)) (Ks.keep (below1 w2 _))
    · intro listed A0 w2 hI hd hnd K hK
      obtain ⟨x0, e0, h0⟩ := hI.dep hd 17 25 rfl rfl rfl (by kernel_rfl)
      obtain ⟨bb0, vs0, rfl, hr0, hp0⟩ := h0
      have hS := hI.world
      have HPP := Lib.hid hp0
      clear hp0
      refine wanted_go rfl ?_
      clear hI hd hnd
      go_simp
      go_at_call 64
      refine (join_n _ _ _ vs0 [encS x.currency, encCal x.calendar, encL encAccount x.chart] (encS x.currency ++ encCal x.calendar ++ encL encAccount x.chart) w2 rfl (by simp) hr0 HPP.out HLL.out (by simp)).mono ?_
      rintro e w3 hP
      obtain ⟨v, rfl, h1, h2, h3⟩ := NewP.from hP hS
      exact hK.out _ _ h1 (Ks.of rfl h2) (Ks.keep h3)
    · intro listed A0 w2 hI hd hnd K hK
      obtain ⟨x0, e0, h0⟩ := hI.dep hd 18 26 rfl rfl rfl (by kernel_rfl)
      have hS := hI.world
      refine wanted_go rfl ?_
      clear hI hd hnd
      go_simp
      exact hK.out _ _ hS (Ks.of rfl h0) (fun _ _ h => h)
  · intro listed A0 w2 hI hall
    obtain ⟨x0, g0, h0⟩ := hI.got 0 _ 8 rfl rfl (hall 0 (by decide))
    obtain ⟨x1, g1, h1⟩ := hI.got 1 _ 9 rfl rfl (hall 1 (by decide))
    obtain ⟨x2, g2, h2⟩ := hI.got 2 _ 10 rfl rfl (hall 2 (by decide))
    obtain ⟨x3, g3, h3⟩ := hI.got 3 _ 11 rfl rfl (hall 3 (by decide))
    obtain ⟨x4, g4, h4⟩ := hI.got 4 _ 12 rfl rfl (hall 4 (by decide))
    obtain ⟨x5, g5, h5⟩ := hI.got 5 _ 13 rfl rfl (hall 5 (by decide))
    obtain ⟨x6, g6, h6⟩ := hI.got 6 _ 14 rfl rfl (hall 6 (by decide))
    obtain ⟨x7, g7, h7⟩ := hI.got 7 _ 15 rfl rfl (hall 7 (by decide))
    obtain ⟨x8, g8, h8⟩ := hI.got 8 _ 16 rfl rfl (hall 8 (by decide))
    obtain ⟨x9, g9, h9⟩ := hI.got 9 _ 17 rfl rfl (hall 9 (by decide))
    obtain ⟨x10, g10, h10⟩ := hI.got 10 _ 18 rfl rfl (hall 10 (by decide))
    obtain ⟨x11, g11, h11⟩ := hI.got 11 _ 19 rfl rfl (hall 11 (by decide))
    obtain ⟨x12, g12, h12⟩ := hI.got 12 _ 20 rfl rfl (hall 12 (by decide))
    obtain ⟨x13, g13, h13⟩ := hI.got 13 _ 21 rfl rfl (hall 13 (by decide))
    obtain ⟨x14, g14, h14⟩ := hI.got 14 _ 22 rfl rfl (hall 14 (by decide))
    obtain ⟨x15, g15, h15⟩ := hI.got 15 _ 23 rfl rfl (hall 15 (by decide))
    obtain ⟨x16, g16, h16⟩ := hI.got 16 _ 24 rfl rfl (hall 16 (by decide))
    obtain ⟨x17, g17, h17⟩ := hI.got 17 _ 25 rfl rfl (hall 17 (by decide))
    obtain ⟨x18, g18, h18⟩ := hI.got 18 _ 26 rfl rfl (hall 18 (by decide))
    obtain ⟨x19, g19, h19⟩ := hI.got 19 _ 4 rfl rfl (hall 19 (by decide))
    have hS := hI.world
    have hA : A0 = _ := hI.tmps [(8, x0), (9, x1), (10, x2), (11, x3), (12, x4), (13, x5), (14, x6), (15, x7), (16, x8), (17, x9), (18, x10), (19, x11), (20, x12), (21, x13), (22, x14), (23, x15), (24, x16), (25, x17), (26, x18), (4, x19)] (by simp only [List.mem_cons, List.not_mem_nil, or_false, forall_eq_or_imp, forall_eq]; exact ⟨g0, g1, g2, g3, g4, g5, g6, g7, g8, g9, g10, g11, g12, g13, g14, g15, g16, g17, g18, g19⟩) (by kernel_rfl)
    have k19 : NewBytes W w2 x19 (encS x.currency ++ encCal x.calendar ++ encL encAccount x.chart) := h19 _ rfl
    clear h0 g0 h1 g1 h2 g2 h3 g3 h4 g4 h5 g5 h6 g6 h7 g7 h8 g8 h9 g9 h10 g10 h11 g11 h12 g12 h13 g13 h14 g14 h15 g15 h16 g16 h17 g17 h18 g18 h19 g19 hI hall
    simp only [setAll, List.foldl, List.setIfInBounds_toArray, List.set_cons_zero, List.set_cons_succ] at hA
    rw [hA]
    clear hA
    have hll2 := HLQ.out
    obtain ⟨P0, hP0⟩ : ∃ P0, encS x.currency ++ encCal x.calendar ++ encL encAccount x.chart = P0 := ⟨_, rfl⟩
    rw [hP0] at hll2 k19
    have HP0 := Lib.hid hP0
    clear hP0 C0 C1 C2 C3 C4
    obtain ⟨Aa, ca, rfl, _, _⟩ := k19.1.form
    have hn0 := Lib.hid k19
    have K20 := (hS.cell (p := ⟨w.heap.size, 20, none⟩) hWs).trans C20
    obtain ⟨⟨D0, _⟩, ⟨D1, _⟩, ⟨D2, _⟩, ⟨D3, _⟩, ⟨D4, _⟩, ⟨D5, _⟩, ⟨D6, _⟩, ⟨D7, _⟩, ⟨D8, _⟩, ⟨D9, _⟩, ⟨D10, _⟩, ⟨D11, _⟩, ⟨D12, _⟩, ⟨D13, _⟩, ⟨D14, _⟩⟩ := DD.out
    simp only [Nat.zero_add] at D0 D1 D2 D3 D4 D5 D6 D7 D8 D9 D10 D11 D12 D13 D14
    have E0 := (hS.cell (p := ⟨w.heap.size + 1, 0, none⟩) hWs1).trans D0
    have E1 := (hS.cell (p := ⟨w.heap.size + 1, 1, none⟩) hWs1).trans D1
    have E2 := (hS.cell (p := ⟨w.heap.size + 1, 2, none⟩) hWs1).trans D2
    have E3 := (hS.cell (p := ⟨w.heap.size + 1, 3, none⟩) hWs1).trans D3
    have E4 := (hS.cell (p := ⟨w.heap.size + 1, 4, none⟩) hWs1).trans D4
    have E5 := (hS.cell (p := ⟨w.heap.size + 1, 5, none⟩) hWs1).trans D5
    have E6 := (hS.cell (p := ⟨w.heap.size + 1, 6, none⟩) hWs1).trans D6
    have E7 := (hS.cell (p := ⟨w.heap.size + 1, 7, none⟩) hWs1).trans D7
    have E8 := (hS.cell (p := ⟨w.heap.size + 1, 8, none⟩) hWs1).trans D8
    have E9 := (hS.cell (p := ⟨w.heap.size + 1, 9, none⟩) hWs1).trans D9
    have E10 := (hS.cell (p := ⟨w.heap.size + 1, 10, none⟩) hWs1).trans D10
    have E11 := (hS.cell (p := ⟨w.heap.size + 1, 11, none⟩) hWs1).trans D11
    have E12 := (hS.cell (p := ⟨w.heap.size + 1, 12, none⟩) hWs1).trans D12
    have E13 := (hS.cell (p := ⟨w.heap.size + 1, 13, none⟩) hWs1).trans D13
    have E14 := (hS.cell (p := ⟨w.heap.size + 1, 14, none⟩) hWs1).trans D14
    clear D0 D1 D2 D3 D4 D5 D6 D7 D8 D9 D10 D11 D12 D13 D14 k19
    obtain ⟨M, hM⟩ : ∃ M, encRoles x.roles ++ enc (x.entities.length : Int) = M := ⟨_, rfl⟩
    have hMl : M.length ≤ 200 := by
      rw [← hM]
      have h1 := encRoles_len x.roles
      have h2 := enc_len (x.entities.length : Int)
      simp only [List.length_append]; omega
    have HM := Lib.hid hM
    clear hM
    go_wp2_with fail
    refine (ints_n _ 16 16 [x.roles.investment, x.roles.goodwill, x.roles.associates, x.roles.inventory, x.roles.reserve, x.roles.minority, x.roles.retained, x.roles.acquired, x.roles.owners, x.roles.disposal, x.roles.associateProfit, x.roles.dividends, x.roles.minorityProfit, x.roles.difference, x.roles.margin, (x.entities.length : Int)] M _ rfl (by rw [← HM.out]; simp [encRoles, List.flatMap]) (row_rd _ (iv [x.roles.investment, x.roles.goodwill, x.roles.associates, x.roles.inventory, x.roles.reserve, x.roles.minority, x.roles.retained, x.roles.acquired, x.roles.owners, x.roles.disposal, x.roles.associateProfit, x.roles.dividends, x.roles.minorityProfit, x.roles.difference, x.roles.margin, (x.entities.length : Int)]) 3 _ 16 (by simp) rfl) ?_ (by simp)).mono ?_
    · intro n hn
      rcases List.mem_append.1 (show n ∈ [x.roles.investment, x.roles.goodwill, x.roles.associates, x.roles.inventory, x.roles.reserve, x.roles.minority, x.roles.retained, x.roles.acquired, x.roles.owners, x.roles.disposal, x.roles.associateProfit, x.roles.dividends, x.roles.minorityProfit, x.roles.difference, x.roles.margin] ++ [(x.entities.length : Int)] from hn) with h | h
      · exact FR.out.bds n h
      · obtain rfl := List.mem_singleton.1 h
        exact intBd_nat (by omega)
    rintro e w3 hP3
    obtain ⟨v3, rfl, hm3⟩ := hP3.below (below1 w2 _)
    have hn3 := hn0.out.keep hm3.2.2
    obtain ⟨A3, c3, rfl, _, _⟩ := hm3.1.form
    have K20b := (hn3.2.2.cell (p := ⟨w.heap.size, 20, none⟩) hWs).trans C20
    obtain ⟨P1, hP1⟩ : ∃ P1, P0 ++ M = P1 := ⟨_, rfl⟩
    have hP1l : P1.length ≤ 2000000 := by rw [← hP1]; simp only [List.length_append]; omega
    have HP1 := Lib.hid hP1
    clear hP1 K20 hP3 E0 E1 E2 E3 E4 E5 E6 E7 E8 E9 E10 E11 E12 E13 E14
    go_wp2_with (at_builtin; go_loud (refine wpList_appB _ rfl (.tmp 27) (.tmp 62) rfl _ P0 rfl hn3.1 (· < w3.heap.size) A3 c3 M rfl (hm3.1.rd (fun k hk => hm3.1.lt hk)).2 (by unfold Lim; omega) ?_); intro v4 w4 hby4 hg4 hat4)
    have hn4 := hn3.app hby4 hg4 hat4
    rw [HP1.out] at hn4
    clear hby4
    clear K20b
    go_loopw [4, 5] (fun o i wr => ∃ k : Nat, k ≤ x.entities.length ∧ i = .int .i64 (k : Int) ∧ NewBytes W wr o (P1 ++ (x.entities.take k).flatMap encEntity)) (fun _ i _ => x.entities.length - (intOf i).toNat)
    case atStart => exact ⟨0, by omega, rfl, by simpa using hn4⟩
    case round =>
      obtain ⟨k, hk, rfl, hn⟩ := hrel
      have K20 := (hn.2.2.cell (p := ⟨w.heap.size, 20, none⟩) hWs).trans C20
      by_cases hlt : k < x.entities.length
      · have hltI : (k : Int) < (x.entities.length : Int) := by omega
        obtain ⟨b2, o2, rfl, hbb, hi⟩ := HL20.out (by omega)
        obtain ⟨es, hes, hae⟩ := hi k x.entities[k] (List.getElem?_eq_getElem hlt)
        have hrange := (hae.fr (Fr.ofBelow hn.2.2)).range
        have hHE := Lib.hid (hes.keep hn.2.2)
        have HIe := Lib.hid (show (Try.prog.info? 133).map (·.size) = some es.length by rw [info133, hes.len])
        have HT := Lib.hid (take_flat encEntity x.entities k hlt)
        have hmem : x.entities[k] ∈ x.entities := List.getElem_mem hlt
        have hl5 := (q4.out _ hmem).len
        have hl6 := flat_take_m encEntity 30000 k x.entities (fun y hy => (q4.out y hy).len)
        clear hi hae hes hmem
        go_wp2_with (refine wpList_load_mid rfl 133 (.tmp 75) rfl b2 (o2 + k * 5) rfl es _ hrange Try.underlying133 rfl HIe.out ?_)
        refine (rEntity_c x.entities[k] es wr hHE.out (q4.out _ (List.getElem_mem hlt))).mono ?_
        rintro e w5 ⟨v5, rfl, hm5⟩
        have hn5 := hn.keep hm5.2.2
        obtain ⟨A5, c5, rfl, _, _⟩ := hm5.1.form
        clear hrange
        go_wp2_with (at_builtin; go_loud (refine wpList_appB _ rfl (.tmp 71) (.tmp 77) rfl _ (P1 ++ (x.entities.take k).flatMap encEntity) rfl hn5.1 (· < w5.heap.size) A5 c5 (encEntity x.entities[k]) rfl (hm5.1.rd (fun k hk => hm5.1.lt hk)).2 (by unfold Lim; simp only [List.length_append]; omega) ?_); intro v6 w6 hby6 hg6 hat6)
        go_roundw
        case rel =>
          refine ⟨k + 1, by omega, by go_num, ?_⟩
          rw [HT.out, ← List.append_assoc]
          exact hn5.app hby6 hg6 hat6
        case measure => simp [intOf]; omega
      · have hkk : k = x.entities.length := by omega
        subst hkk
        rw [List.take_length] at hn
        have hltI : ¬ ((x.entities.length : Nat) : Int) < (x.entities.length : Int) := by omega
        go_wp2_with fail
        go_ret
        have e : encGroup x = P1 ++ x.entities.flatMap encEntity := by
          rw [← HP1.out, ← HP0.out, ← HM.out]
          simp only [encGroup, encL, List.append_assoc]
        rw [e]
        exact NewP.below ⟨_, rfl, hn⟩ hbW
end Go.Proofs.Ytgdibeegheddmaa
