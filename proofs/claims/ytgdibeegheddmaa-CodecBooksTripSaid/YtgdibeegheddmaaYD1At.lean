/- The cells of each struct. Written by gen_writer.py. -/
import Derived.Test.YtgdibeegheddmaaYC1Data
namespace Go.Proofs.Ytgdibeegheddmaa
open Go Go.RowKit
set_option linter.unusedVariables false
set_option linter.unusedSimpArgs false
attribute [local go_sem ↓] Go.wp_at_zero Go.wp_at_succ

theorem num_wd (g : Nat) (v : Value) (L : List UInt8) (bad : Bool) (ps : List (Addr × Int)) {w : World} {H n : Nat} {row : Array Value}
    (hH : w.heap.size = H) (hn : ps.length = n) (hrow : (ps.map fun p => Value.pointer (some p.1)).toArray = row) (hs : SS w g v L false bad)
    (hp : ∀ p ∈ ps, Oth w g v p.1.block ∧ w.cell? p.1 = some (.int .i64 p.2) ∧ intBd p.2)
    (hL : L.length + (ps.flatMap fun p => enc p.2).length ≤ Lim) (hm : ps.length ≤ 1000) :
    Calls Try.prog 33 #[.pointer (some ⟨g, 0, none⟩), .slice (some ⟨H, 0, none⟩) n n] (w.alloc (.cells row 83)).drew (WPost g v L bad (ps.flatMap fun p => enc p.2) w) :=
  (num_wv (w := w.drew) g v L bad ps hH hn hrow hs hp hL hm).mono fun _ _ ⟨he, v', h1, h2⟩ => ⟨he, v', h1, ⟨Fr.ofDrew h2.fr, h2.own⟩⟩
theorem num_wp (g : Nat) (v : Value) (L : List UInt8) (bad : Bool) (ps : List (Addr × Int)) {w : World} {H n : Nat} {row : Array Value}
    (hH : w.heap.size = H) (hn : ps.length = n) (hrow : (ps.map fun p => Value.pointer (some p.1)).toArray = row) (hs : SS w g v L false bad)
    (hp : ∀ p ∈ ps, Oth w g v p.1.block ∧ w.cell? p.1 = some (.int .i64 p.2) ∧ intBd p.2)
    (hL : L.length + (ps.flatMap fun p => enc p.2).length ≤ Lim) (hm : ps.length ≤ 1000) :
    Calls Try.prog 33 #[.pointer (some ⟨g, 0, none⟩), .slice (some ⟨H, 0, none⟩) n n] (w.alloc (.cells row 83)) (WPost g v L bad (ps.flatMap fun p => enc p.2) w) :=
  num_wv g v L bad ps hH hn hrow hs hp hL hm
theorem flag_wb (g : Nat) (v : Value) (L : List UInt8) (bad : Bool) (t : Addr) (b : Bool) (w : World)
    (hs : SS w g v L false bad) (hqt : Oth w g v t.block) (hc : w.cell? t = some (.bool b)) (hf : w.frozen? t = false)
    (hL : L.length + (encB b).length ≤ Lim) :
    Calls Try.prog 89 #[.pointer (some ⟨g, 0, none⟩), .pointer (some t)] w (WPost g v L bad (encB b) w) := flag_w g v L bad t b w hs hqt hc hf hL

theorem LineC.at_ {w : World} {Q Q2 : Nat → Prop} {cs : List Value} {x : XLine} {b o : Nat} (h : LineC w Q cs x) (ha : At w Q2 ⟨b, o, none⟩ cs) : (w.cell? ⟨b, o, none⟩ = some (.int .i64 x.account) ∧ intBd x.account) ∧ (w.cell? ⟨b, o + 1, none⟩ = some (.int .i64 x.amount) ∧ intBd x.amount) ∧ (w.cell? ⟨b, o + 2, none⟩ = some (.int .i64 x.partner) ∧ intBd x.partner) := by
  obtain ⟨c0, c1, c2, rfl, h0, h1, h2⟩ := h
  obtain ⟨p2, a2⟩ := ha.split
  obtain ⟨a0, a1⟩ := p2.split
  simp only [List.length_append, IntC.len h0, Nat.reduceAdd] at a1
  simp only [List.length_append, IntC.len h0, IntC.len h1, Nat.reduceAdd] at a2
  obtain ⟨rfl, b0⟩ := h0
  obtain ⟨rfl, b1⟩ := h1
  obtain ⟨rfl, b2⟩ := h2
  exact ⟨⟨a0.c (j := 0) rfl, b0⟩, ⟨a1.c (j := 0) rfl, b1⟩, ⟨a2.c (j := 0) rfl, b2⟩⟩

theorem EntryC.at_ {w : World} {Q Q2 : Nat → Prop} {cs : List Value} {x : XEntry} {b o : Nat} (h : EntryC w Q cs x) (ha : At w Q2 ⟨b, o, none⟩ cs) : (w.cell? ⟨b, o, none⟩ = some (.int .i64 x.id) ∧ intBd x.id) ∧ (w.cell? ⟨b, o + 1, none⟩ = some (.int .i64 x.entity) ∧ intBd x.entity) ∧ (w.cell? ⟨b, o + 2, none⟩ = some (.int .i64 x.date) ∧ intBd x.date) ∧ (w.cell? ⟨b, o + 3, none⟩ = some (.int .i64 x.kind) ∧ intBd x.kind) ∧ (w.cell? ⟨b, o + 4, none⟩ = some (.int .i64 x.of_) ∧ intBd x.of_) ∧ w.cell? ⟨b, o + 5, none⟩ = some (.string x.text) ∧ (∃ c, ListC LineC 3 w Q c x.lines ∧ At w Q2 ⟨b, o + 6, none⟩ c) := by
  obtain ⟨c0, c1, c2, c3, c4, c5, c6, rfl, h0, h1, h2, h3, h4, h5, h6⟩ := h
  obtain ⟨p6, a6⟩ := ha.split
  obtain ⟨p5, a5⟩ := p6.split
  obtain ⟨p4, a4⟩ := p5.split
  obtain ⟨p3, a3⟩ := p4.split
  obtain ⟨p2, a2⟩ := p3.split
  obtain ⟨a0, a1⟩ := p2.split
  simp only [List.length_append, IntC.len h0, Nat.reduceAdd] at a1
  simp only [List.length_append, IntC.len h0, IntC.len h1, Nat.reduceAdd] at a2
  simp only [List.length_append, IntC.len h0, IntC.len h1, IntC.len h2, Nat.reduceAdd] at a3
  simp only [List.length_append, IntC.len h0, IntC.len h1, IntC.len h2, IntC.len h3, Nat.reduceAdd] at a4
  simp only [List.length_append, IntC.len h0, IntC.len h1, IntC.len h2, IntC.len h3, IntC.len h4, Nat.reduceAdd] at a5
  simp only [List.length_append, IntC.len h0, IntC.len h1, IntC.len h2, IntC.len h3, IntC.len h4, StrC.len h5, Nat.reduceAdd] at a6
  obtain ⟨rfl, b0⟩ := h0
  obtain ⟨rfl, b1⟩ := h1
  obtain ⟨rfl, b2⟩ := h2
  obtain ⟨rfl, b3⟩ := h3
  obtain ⟨rfl, b4⟩ := h4
  have e5 : c5 = _ := h5; subst e5
  exact ⟨⟨a0.c (j := 0) rfl, b0⟩, ⟨a1.c (j := 0) rfl, b1⟩, ⟨a2.c (j := 0) rfl, b2⟩, ⟨a3.c (j := 0) rfl, b3⟩, ⟨a4.c (j := 0) rfl, b4⟩, a5.c (j := 0) rfl, ⟨_, h6, a6⟩⟩

theorem RateC.at_ {w : World} {Q Q2 : Nat → Prop} {cs : List Value} {x : XRate} {b o : Nat} (h : RateC w Q cs x) (ha : At w Q2 ⟨b, o, none⟩ cs) : w.cell? ⟨b, o, none⟩ = some (.string x.currency) ∧ (w.cell? ⟨b, o + 1, none⟩ = some (.int .i64 x.kind) ∧ intBd x.kind) ∧ (w.cell? ⟨b, o + 2, none⟩ = some (.int .i64 x.when_) ∧ intBd x.when_) ∧ (w.cell? ⟨b, o + 3, none⟩ = some (.int .i64 x.value) ∧ intBd x.value) := by
  obtain ⟨c0, c1, c2, c3, rfl, h0, h1, h2, h3⟩ := h
  obtain ⟨p3, a3⟩ := ha.split
  obtain ⟨p2, a2⟩ := p3.split
  obtain ⟨a0, a1⟩ := p2.split
  simp only [List.length_append, StrC.len h0, Nat.reduceAdd] at a1
  simp only [List.length_append, StrC.len h0, IntC.len h1, Nat.reduceAdd] at a2
  simp only [List.length_append, StrC.len h0, IntC.len h1, IntC.len h2, Nat.reduceAdd] at a3
  have e0 : c0 = _ := h0; subst e0
  obtain ⟨rfl, b1⟩ := h1
  obtain ⟨rfl, b2⟩ := h2
  obtain ⟨rfl, b3⟩ := h3
  exact ⟨a0.c (j := 0) rfl, ⟨a1.c (j := 0) rfl, b1⟩, ⟨a2.c (j := 0) rfl, b2⟩, ⟨a3.c (j := 0) rfl, b3⟩⟩

theorem HoldingC.at_ {w : World} {Q Q2 : Nat → Prop} {cs : List Value} {x : XHolding} {b o : Nat} (h : HoldingC w Q cs x) (ha : At w Q2 ⟨b, o, none⟩ cs) : (w.cell? ⟨b, o, none⟩ = some (.int .i64 x.holder) ∧ intBd x.holder) ∧ (w.cell? ⟨b, o + 1, none⟩ = some (.int .i64 x.entity) ∧ intBd x.entity) ∧ (w.cell? ⟨b, o + 2, none⟩ = some (.int .i64 x.date) ∧ intBd x.date) ∧ (w.cell? ⟨b, o + 3, none⟩ = some (.int .i64 x.share) ∧ intBd x.share) := by
  obtain ⟨c0, c1, c2, c3, rfl, h0, h1, h2, h3⟩ := h
  obtain ⟨p3, a3⟩ := ha.split
  obtain ⟨p2, a2⟩ := p3.split
  obtain ⟨a0, a1⟩ := p2.split
  simp only [List.length_append, IntC.len h0, Nat.reduceAdd] at a1
  simp only [List.length_append, IntC.len h0, IntC.len h1, Nat.reduceAdd] at a2
  simp only [List.length_append, IntC.len h0, IntC.len h1, IntC.len h2, Nat.reduceAdd] at a3
  obtain ⟨rfl, b0⟩ := h0
  obtain ⟨rfl, b1⟩ := h1
  obtain ⟨rfl, b2⟩ := h2
  obtain ⟨rfl, b3⟩ := h3
  exact ⟨⟨a0.c (j := 0) rfl, b0⟩, ⟨a1.c (j := 0) rfl, b1⟩, ⟨a2.c (j := 0) rfl, b2⟩, ⟨a3.c (j := 0) rfl, b3⟩⟩

theorem RefC.at_ {w : World} {Q Q2 : Nat → Prop} {cs : List Value} {x : XRef} {b o : Nat} (h : RefC w Q cs x) (ha : At w Q2 ⟨b, o, none⟩ cs) : (w.cell? ⟨b, o, none⟩ = some (.int .i64 x.entry) ∧ intBd x.entry) ∧ (w.cell? ⟨b, o + 1, none⟩ = some (.int .i64 x.line) ∧ intBd x.line) := by
  obtain ⟨c0, c1, rfl, h0, h1⟩ := h
  obtain ⟨a0, a1⟩ := ha.split
  simp only [List.length_append, IntC.len h0, Nat.reduceAdd] at a1
  obtain ⟨rfl, b0⟩ := h0
  obtain ⟨rfl, b1⟩ := h1
  exact ⟨⟨a0.c (j := 0) rfl, b0⟩, ⟨a1.c (j := 0) rfl, b1⟩⟩

theorem MatchC.at_ {w : World} {Q Q2 : Nat → Prop} {cs : List Value} {x : XMatch} {b o : Nat} (h : MatchC w Q cs x) (ha : At w Q2 ⟨b, o, none⟩ cs) : (w.cell? ⟨b, o, none⟩ = some (.int .i64 x.id) ∧ intBd x.id) ∧ (∃ c, ListC RefC 2 w Q c x.left ∧ At w Q2 ⟨b, o + 1, none⟩ c) ∧ (∃ c, ListC RefC 2 w Q c x.right ∧ At w Q2 ⟨b, o + 2, none⟩ c) ∧ (w.cell? ⟨b, o + 3, none⟩ = some (.int .i64 x.state) ∧ intBd x.state) := by
  obtain ⟨c0, c1, c2, c3, rfl, h0, h1, h2, h3⟩ := h
  obtain ⟨p3, a3⟩ := ha.split
  obtain ⟨p2, a2⟩ := p3.split
  obtain ⟨a0, a1⟩ := p2.split
  simp only [List.length_append, IntC.len h0, Nat.reduceAdd] at a1
  simp only [List.length_append, IntC.len h0, ListC.len h1, Nat.reduceAdd] at a2
  simp only [List.length_append, IntC.len h0, ListC.len h1, ListC.len h2, Nat.reduceAdd] at a3
  obtain ⟨rfl, b0⟩ := h0
  obtain ⟨rfl, b3⟩ := h3
  exact ⟨⟨a0.c (j := 0) rfl, b0⟩, ⟨_, h1, a1⟩, ⟨_, h2, a2⟩, ⟨a3.c (j := 0) rfl, b3⟩⟩

theorem StockC.at_ {w : World} {Q Q2 : Nat → Prop} {cs : List Value} {x : XStock} {b o : Nat} (h : StockC w Q cs x) (ha : At w Q2 ⟨b, o, none⟩ cs) : (w.cell? ⟨b, o, none⟩ = some (.int .i64 x.period) ∧ intBd x.period) ∧ (w.cell? ⟨b, o + 1, none⟩ = some (.int .i64 x.seller) ∧ intBd x.seller) ∧ (w.cell? ⟨b, o + 2, none⟩ = some (.int .i64 x.buyer) ∧ intBd x.buyer) ∧ (w.cell? ⟨b, o + 3, none⟩ = some (.int .i64 x.amount) ∧ intBd x.amount) ∧ (w.cell? ⟨b, o + 4, none⟩ = some (.int .i64 x.margin) ∧ intBd x.margin) := by
  obtain ⟨c0, c1, c2, c3, c4, rfl, h0, h1, h2, h3, h4⟩ := h
  obtain ⟨p4, a4⟩ := ha.split
  obtain ⟨p3, a3⟩ := p4.split
  obtain ⟨p2, a2⟩ := p3.split
  obtain ⟨a0, a1⟩ := p2.split
  simp only [List.length_append, IntC.len h0, Nat.reduceAdd] at a1
  simp only [List.length_append, IntC.len h0, IntC.len h1, Nat.reduceAdd] at a2
  simp only [List.length_append, IntC.len h0, IntC.len h1, IntC.len h2, Nat.reduceAdd] at a3
  simp only [List.length_append, IntC.len h0, IntC.len h1, IntC.len h2, IntC.len h3, Nat.reduceAdd] at a4
  obtain ⟨rfl, b0⟩ := h0
  obtain ⟨rfl, b1⟩ := h1
  obtain ⟨rfl, b2⟩ := h2
  obtain ⟨rfl, b3⟩ := h3
  obtain ⟨rfl, b4⟩ := h4
  exact ⟨⟨a0.c (j := 0) rfl, b0⟩, ⟨a1.c (j := 0) rfl, b1⟩, ⟨a2.c (j := 0) rfl, b2⟩, ⟨a3.c (j := 0) rfl, b3⟩, ⟨a4.c (j := 0) rfl, b4⟩⟩

theorem AccountC.at_ {w : World} {Q Q2 : Nat → Prop} {cs : List Value} {x : XAccount} {b o : Nat} (h : AccountC w Q cs x) (ha : At w Q2 ⟨b, o, none⟩ cs) : (w.cell? ⟨b, o, none⟩ = some (.int .i64 x.code) ∧ intBd x.code) ∧ (w.cell? ⟨b, o + 1, none⟩ = some (.int .i64 x.kind) ∧ intBd x.kind) ∧ (w.cell? ⟨b, o + 2, none⟩ = some (.int .i64 x.basis) ∧ intBd x.basis) ∧ (w.cell? ⟨b, o + 3, none⟩ = some (.int .i64 x.parent) ∧ intBd x.parent) := by
  obtain ⟨c0, c1, c2, c3, rfl, h0, h1, h2, h3⟩ := h
  obtain ⟨p3, a3⟩ := ha.split
  obtain ⟨p2, a2⟩ := p3.split
  obtain ⟨a0, a1⟩ := p2.split
  simp only [List.length_append, IntC.len h0, Nat.reduceAdd] at a1
  simp only [List.length_append, IntC.len h0, IntC.len h1, Nat.reduceAdd] at a2
  simp only [List.length_append, IntC.len h0, IntC.len h1, IntC.len h2, Nat.reduceAdd] at a3
  obtain ⟨rfl, b0⟩ := h0
  obtain ⟨rfl, b1⟩ := h1
  obtain ⟨rfl, b2⟩ := h2
  obtain ⟨rfl, b3⟩ := h3
  exact ⟨⟨a0.c (j := 0) rfl, b0⟩, ⟨a1.c (j := 0) rfl, b1⟩, ⟨a2.c (j := 0) rfl, b2⟩, ⟨a3.c (j := 0) rfl, b3⟩⟩

theorem LinkC.at_ {w : World} {Q Q2 : Nat → Prop} {cs : List Value} {x : XLink} {b o : Nat} (h : LinkC w Q cs x) (ha : At w Q2 ⟨b, o, none⟩ cs) : (w.cell? ⟨b, o, none⟩ = some (.int .i64 x.from_) ∧ intBd x.from_) ∧ (w.cell? ⟨b, o + 1, none⟩ = some (.int .i64 x.to) ∧ intBd x.to) ∧ (w.cell? ⟨b, o + 2, none⟩ = some (.int .i64 x.since) ∧ intBd x.since) := by
  obtain ⟨c0, c1, c2, rfl, h0, h1, h2⟩ := h
  obtain ⟨p2, a2⟩ := ha.split
  obtain ⟨a0, a1⟩ := p2.split
  simp only [List.length_append, IntC.len h0, Nat.reduceAdd] at a1
  simp only [List.length_append, IntC.len h0, IntC.len h1, Nat.reduceAdd] at a2
  obtain ⟨rfl, b0⟩ := h0
  obtain ⟨rfl, b1⟩ := h1
  obtain ⟨rfl, b2⟩ := h2
  exact ⟨⟨a0.c (j := 0) rfl, b0⟩, ⟨a1.c (j := 0) rfl, b1⟩, ⟨a2.c (j := 0) rfl, b2⟩⟩

theorem EntityC.at_ {w : World} {Q Q2 : Nat → Prop} {cs : List Value} {x : XEntity} {b o : Nat} (h : EntityC w Q cs x) (ha : At w Q2 ⟨b, o, none⟩ cs) : w.cell? ⟨b, o, none⟩ = some (.string x.name) ∧ w.cell? ⟨b, o + 1, none⟩ = some (.string x.currency) ∧ (∃ c, ListC AccountC 4 w Q c x.chart ∧ At w Q2 ⟨b, o + 2, none⟩ c) ∧ (∃ c, ListC LinkC 3 w Q c x.links ∧ At w Q2 ⟨b, o + 3, none⟩ c) ∧ (w.cell? ⟨b, o + 4, none⟩ = some (.bool x.joint) ∧ w.frozen? ⟨b, o + 4, none⟩ = false) := by
  obtain ⟨c0, c1, c2, c3, c4, rfl, h0, h1, h2, h3, h4⟩ := h
  obtain ⟨p4, a4⟩ := ha.split
  obtain ⟨p3, a3⟩ := p4.split
  obtain ⟨p2, a2⟩ := p3.split
  obtain ⟨a0, a1⟩ := p2.split
  simp only [List.length_append, StrC.len h0, Nat.reduceAdd] at a1
  simp only [List.length_append, StrC.len h0, StrC.len h1, Nat.reduceAdd] at a2
  simp only [List.length_append, StrC.len h0, StrC.len h1, ListC.len h2, Nat.reduceAdd] at a3
  simp only [List.length_append, StrC.len h0, StrC.len h1, ListC.len h2, ListC.len h3, Nat.reduceAdd] at a4
  have e0 : c0 = _ := h0; subst e0
  have e1 : c1 = _ := h1; subst e1
  have e4 : c4 = _ := h4; subst e4
  exact ⟨a0.c (j := 0) rfl, a1.c (j := 0) rfl, ⟨_, h2, a2⟩, ⟨_, h3, a3⟩, ⟨a4.c (j := 0) rfl, a4.f (j := 0) rfl⟩⟩

theorem CalC.at_ {w : World} {Q Q2 : Nat → Prop} {cs : List Value} {x : XCal} {b o : Nat} (h : CalC w Q cs x) (ha : At w Q2 ⟨b, o, none⟩ cs) : (w.cell? ⟨b, o, none⟩ = some (.int .i64 x.year) ∧ intBd x.year) ∧ (w.cell? ⟨b, o + 1, none⟩ = some (.int .i64 x.month) ∧ intBd x.month) ∧ (w.cell? ⟨b, o + 2, none⟩ = some (.int .i64 x.periods) ∧ intBd x.periods) := by
  obtain ⟨c0, c1, c2, rfl, h0, h1, h2⟩ := h
  obtain ⟨p2, a2⟩ := ha.split
  obtain ⟨a0, a1⟩ := p2.split
  simp only [List.length_append, IntC.len h0, Nat.reduceAdd] at a1
  simp only [List.length_append, IntC.len h0, IntC.len h1, Nat.reduceAdd] at a2
  obtain ⟨rfl, b0⟩ := h0
  obtain ⟨rfl, b1⟩ := h1
  obtain ⟨rfl, b2⟩ := h2
  exact ⟨⟨a0.c (j := 0) rfl, b0⟩, ⟨a1.c (j := 0) rfl, b1⟩, ⟨a2.c (j := 0) rfl, b2⟩⟩

theorem RolesC.at_ {w : World} {Q Q2 : Nat → Prop} {cs : List Value} {x : XRoles} {b o : Nat} (h : RolesC w Q cs x) (ha : At w Q2 ⟨b, o, none⟩ cs) : (w.cell? ⟨b, o, none⟩ = some (.int .i64 x.investment) ∧ intBd x.investment) ∧ (w.cell? ⟨b, o + 1, none⟩ = some (.int .i64 x.goodwill) ∧ intBd x.goodwill) ∧ (w.cell? ⟨b, o + 2, none⟩ = some (.int .i64 x.associates) ∧ intBd x.associates) ∧ (w.cell? ⟨b, o + 3, none⟩ = some (.int .i64 x.inventory) ∧ intBd x.inventory) ∧ (w.cell? ⟨b, o + 4, none⟩ = some (.int .i64 x.reserve) ∧ intBd x.reserve) ∧ (w.cell? ⟨b, o + 5, none⟩ = some (.int .i64 x.minority) ∧ intBd x.minority) ∧ (w.cell? ⟨b, o + 6, none⟩ = some (.int .i64 x.retained) ∧ intBd x.retained) ∧ (w.cell? ⟨b, o + 7, none⟩ = some (.int .i64 x.acquired) ∧ intBd x.acquired) ∧ (w.cell? ⟨b, o + 8, none⟩ = some (.int .i64 x.owners) ∧ intBd x.owners) ∧ (w.cell? ⟨b, o + 9, none⟩ = some (.int .i64 x.disposal) ∧ intBd x.disposal) ∧ (w.cell? ⟨b, o + 10, none⟩ = some (.int .i64 x.associateProfit) ∧ intBd x.associateProfit) ∧ (w.cell? ⟨b, o + 11, none⟩ = some (.int .i64 x.dividends) ∧ intBd x.dividends) ∧ (w.cell? ⟨b, o + 12, none⟩ = some (.int .i64 x.minorityProfit) ∧ intBd x.minorityProfit) ∧ (w.cell? ⟨b, o + 13, none⟩ = some (.int .i64 x.difference) ∧ intBd x.difference) ∧ (w.cell? ⟨b, o + 14, none⟩ = some (.int .i64 x.margin) ∧ intBd x.margin) := by
  obtain ⟨c0, c1, c2, c3, c4, c5, c6, c7, c8, c9, c10, c11, c12, c13, c14, rfl, h0, h1, h2, h3, h4, h5, h6, h7, h8, h9, h10, h11, h12, h13, h14⟩ := h
  obtain ⟨p14, a14⟩ := ha.split
  obtain ⟨p13, a13⟩ := p14.split
  obtain ⟨p12, a12⟩ := p13.split
  obtain ⟨p11, a11⟩ := p12.split
  obtain ⟨p10, a10⟩ := p11.split
  obtain ⟨p9, a9⟩ := p10.split
  obtain ⟨p8, a8⟩ := p9.split
  obtain ⟨p7, a7⟩ := p8.split
  obtain ⟨p6, a6⟩ := p7.split
  obtain ⟨p5, a5⟩ := p6.split
  obtain ⟨p4, a4⟩ := p5.split
  obtain ⟨p3, a3⟩ := p4.split
  obtain ⟨p2, a2⟩ := p3.split
  obtain ⟨a0, a1⟩ := p2.split
  simp only [List.length_append, IntC.len h0, Nat.reduceAdd] at a1
  simp only [List.length_append, IntC.len h0, IntC.len h1, Nat.reduceAdd] at a2
  simp only [List.length_append, IntC.len h0, IntC.len h1, IntC.len h2, Nat.reduceAdd] at a3
  simp only [List.length_append, IntC.len h0, IntC.len h1, IntC.len h2, IntC.len h3, Nat.reduceAdd] at a4
  simp only [List.length_append, IntC.len h0, IntC.len h1, IntC.len h2, IntC.len h3, IntC.len h4, Nat.reduceAdd] at a5
  simp only [List.length_append, IntC.len h0, IntC.len h1, IntC.len h2, IntC.len h3, IntC.len h4, IntC.len h5, Nat.reduceAdd] at a6
  simp only [List.length_append, IntC.len h0, IntC.len h1, IntC.len h2, IntC.len h3, IntC.len h4, IntC.len h5, IntC.len h6, Nat.reduceAdd] at a7
  simp only [List.length_append, IntC.len h0, IntC.len h1, IntC.len h2, IntC.len h3, IntC.len h4, IntC.len h5, IntC.len h6, IntC.len h7, Nat.reduceAdd] at a8
  simp only [List.length_append, IntC.len h0, IntC.len h1, IntC.len h2, IntC.len h3, IntC.len h4, IntC.len h5, IntC.len h6, IntC.len h7, IntC.len h8, Nat.reduceAdd] at a9
  simp only [List.length_append, IntC.len h0, IntC.len h1, IntC.len h2, IntC.len h3, IntC.len h4, IntC.len h5, IntC.len h6, IntC.len h7, IntC.len h8, IntC.len h9, Nat.reduceAdd] at a10
  simp only [List.length_append, IntC.len h0, IntC.len h1, IntC.len h2, IntC.len h3, IntC.len h4, IntC.len h5, IntC.len h6, IntC.len h7, IntC.len h8, IntC.len h9, IntC.len h10, Nat.reduceAdd] at a11
  simp only [List.length_append, IntC.len h0, IntC.len h1, IntC.len h2, IntC.len h3, IntC.len h4, IntC.len h5, IntC.len h6, IntC.len h7, IntC.len h8, IntC.len h9, IntC.len h10, IntC.len h11, Nat.reduceAdd] at a12
  simp only [List.length_append, IntC.len h0, IntC.len h1, IntC.len h2, IntC.len h3, IntC.len h4, IntC.len h5, IntC.len h6, IntC.len h7, IntC.len h8, IntC.len h9, IntC.len h10, IntC.len h11, IntC.len h12, Nat.reduceAdd] at a13
  simp only [List.length_append, IntC.len h0, IntC.len h1, IntC.len h2, IntC.len h3, IntC.len h4, IntC.len h5, IntC.len h6, IntC.len h7, IntC.len h8, IntC.len h9, IntC.len h10, IntC.len h11, IntC.len h12, IntC.len h13, Nat.reduceAdd] at a14
  obtain ⟨rfl, b0⟩ := h0
  obtain ⟨rfl, b1⟩ := h1
  obtain ⟨rfl, b2⟩ := h2
  obtain ⟨rfl, b3⟩ := h3
  obtain ⟨rfl, b4⟩ := h4
  obtain ⟨rfl, b5⟩ := h5
  obtain ⟨rfl, b6⟩ := h6
  obtain ⟨rfl, b7⟩ := h7
  obtain ⟨rfl, b8⟩ := h8
  obtain ⟨rfl, b9⟩ := h9
  obtain ⟨rfl, b10⟩ := h10
  obtain ⟨rfl, b11⟩ := h11
  obtain ⟨rfl, b12⟩ := h12
  obtain ⟨rfl, b13⟩ := h13
  obtain ⟨rfl, b14⟩ := h14
  exact ⟨⟨a0.c (j := 0) rfl, b0⟩, ⟨a1.c (j := 0) rfl, b1⟩, ⟨a2.c (j := 0) rfl, b2⟩, ⟨a3.c (j := 0) rfl, b3⟩, ⟨a4.c (j := 0) rfl, b4⟩, ⟨a5.c (j := 0) rfl, b5⟩, ⟨a6.c (j := 0) rfl, b6⟩, ⟨a7.c (j := 0) rfl, b7⟩, ⟨a8.c (j := 0) rfl, b8⟩, ⟨a9.c (j := 0) rfl, b9⟩, ⟨a10.c (j := 0) rfl, b10⟩, ⟨a11.c (j := 0) rfl, b11⟩, ⟨a12.c (j := 0) rfl, b12⟩, ⟨a13.c (j := 0) rfl, b13⟩, ⟨a14.c (j := 0) rfl, b14⟩⟩

theorem GroupC.at_ {w : World} {Q Q2 : Nat → Prop} {cs : List Value} {x : XGroup} {b o : Nat} (h : GroupC w Q cs x) (ha : At w Q2 ⟨b, o, none⟩ cs) : w.cell? ⟨b, o, none⟩ = some (.string x.currency) ∧ (∃ c, CalC w Q c x.calendar ∧ At w Q2 ⟨b, o + 1, none⟩ c) ∧ (∃ c, ListC AccountC 4 w Q c x.chart ∧ At w Q2 ⟨b, o + 4, none⟩ c) ∧ (∃ c, RolesC w Q c x.roles ∧ At w Q2 ⟨b, o + 5, none⟩ c) ∧ (∃ c, ListC EntityC 5 w Q c x.entities ∧ At w Q2 ⟨b, o + 20, none⟩ c) := by
  obtain ⟨c0, c1, c2, c3, c4, rfl, h0, h1, h2, h3, h4⟩ := h
  obtain ⟨p4, a4⟩ := ha.split
  obtain ⟨p3, a3⟩ := p4.split
  obtain ⟨p2, a2⟩ := p3.split
  obtain ⟨a0, a1⟩ := p2.split
  simp only [List.length_append, StrC.len h0, Nat.reduceAdd] at a1
  simp only [List.length_append, StrC.len h0, CalC.len h1, Nat.reduceAdd] at a2
  simp only [List.length_append, StrC.len h0, CalC.len h1, ListC.len h2, Nat.reduceAdd] at a3
  simp only [List.length_append, StrC.len h0, CalC.len h1, ListC.len h2, RolesC.len h3, Nat.reduceAdd] at a4
  have e0 : c0 = _ := h0; subst e0
  exact ⟨a0.c (j := 0) rfl, ⟨_, h1, a1⟩, ⟨_, h2, a2⟩, ⟨_, h3, a3⟩, ⟨_, h4, a4⟩⟩

theorem BooksC.at_ {w : World} {Q Q2 : Nat → Prop} {cs : List Value} {x : XBooks} {b o : Nat} (h : BooksC w Q cs x) (ha : At w Q2 ⟨b, o, none⟩ cs) : (∃ c, GroupC w Q c x.group ∧ At w Q2 ⟨b, o, none⟩ c) ∧ (∃ c, ListC EntryC 7 w Q c x.entries ∧ At w Q2 ⟨b, o + 21, none⟩ c) ∧ (∃ c, ListC RateC 4 w Q c x.rates ∧ At w Q2 ⟨b, o + 22, none⟩ c) ∧ (∃ c, ListC HoldingC 4 w Q c x.holdings ∧ At w Q2 ⟨b, o + 23, none⟩ c) ∧ (∃ c, ListC MatchC 4 w Q c x.matches_ ∧ At w Q2 ⟨b, o + 24, none⟩ c) ∧ (∃ c, ListC StockC 5 w Q c x.stocks ∧ At w Q2 ⟨b, o + 25, none⟩ c) ∧ w.cell? ⟨b, o + 26, none⟩ = some (.string x.rules) := by
  obtain ⟨c0, c1, c2, c3, c4, c5, c6, rfl, h0, h1, h2, h3, h4, h5, h6⟩ := h
  obtain ⟨p6, a6⟩ := ha.split
  obtain ⟨p5, a5⟩ := p6.split
  obtain ⟨p4, a4⟩ := p5.split
  obtain ⟨p3, a3⟩ := p4.split
  obtain ⟨p2, a2⟩ := p3.split
  obtain ⟨a0, a1⟩ := p2.split
  simp only [List.length_append, GroupC.len h0, Nat.reduceAdd] at a1
  simp only [List.length_append, GroupC.len h0, ListC.len h1, Nat.reduceAdd] at a2
  simp only [List.length_append, GroupC.len h0, ListC.len h1, ListC.len h2, Nat.reduceAdd] at a3
  simp only [List.length_append, GroupC.len h0, ListC.len h1, ListC.len h2, ListC.len h3, Nat.reduceAdd] at a4
  simp only [List.length_append, GroupC.len h0, ListC.len h1, ListC.len h2, ListC.len h3, ListC.len h4, Nat.reduceAdd] at a5
  simp only [List.length_append, GroupC.len h0, ListC.len h1, ListC.len h2, ListC.len h3, ListC.len h4, ListC.len h5, Nat.reduceAdd] at a6
  have e6 : c6 = _ := h6; subst e6
  exact ⟨⟨_, h0, a0⟩, ⟨_, h1, a1⟩, ⟨_, h2, a2⟩, ⟨_, h3, a3⟩, ⟨_, h4, a4⟩, ⟨_, h5, a5⟩, a6.c (j := 0) rfl⟩

theorem EventC.at_ {w : World} {Q Q2 : Nat → Prop} {cs : List Value} {x : XEvent} {b o : Nat} (h : EventC w Q cs x) (ha : At w Q2 ⟨b, o, none⟩ cs) : (w.cell? ⟨b, o, none⟩ = some (.int .i64 x.kind) ∧ intBd x.kind) ∧ (∃ c, EntryC w Q c x.entry ∧ At w Q2 ⟨b, o + 1, none⟩ c) ∧ (∃ c, RateC w Q c x.rate ∧ At w Q2 ⟨b, o + 8, none⟩ c) ∧ (∃ c, HoldingC w Q c x.holding ∧ At w Q2 ⟨b, o + 12, none⟩ c) ∧ (∃ c, MatchC w Q c x.match_ ∧ At w Q2 ⟨b, o + 16, none⟩ c) ∧ (∃ c, StockC w Q c x.stock ∧ At w Q2 ⟨b, o + 20, none⟩ c) ∧ (w.cell? ⟨b, o + 25, none⟩ = some (.int .i64 x.a) ∧ intBd x.a) ∧ (w.cell? ⟨b, o + 26, none⟩ = some (.int .i64 x.b) ∧ intBd x.b) ∧ w.cell? ⟨b, o + 27, none⟩ = some (.string x.text) := by
  obtain ⟨c0, c1, c2, c3, c4, c5, c6, c7, c8, rfl, h0, h1, h2, h3, h4, h5, h6, h7, h8⟩ := h
  obtain ⟨p8, a8⟩ := ha.split
  obtain ⟨p7, a7⟩ := p8.split
  obtain ⟨p6, a6⟩ := p7.split
  obtain ⟨p5, a5⟩ := p6.split
  obtain ⟨p4, a4⟩ := p5.split
  obtain ⟨p3, a3⟩ := p4.split
  obtain ⟨p2, a2⟩ := p3.split
  obtain ⟨a0, a1⟩ := p2.split
  simp only [List.length_append, IntC.len h0, Nat.reduceAdd] at a1
  simp only [List.length_append, IntC.len h0, EntryC.len h1, Nat.reduceAdd] at a2
  simp only [List.length_append, IntC.len h0, EntryC.len h1, RateC.len h2, Nat.reduceAdd] at a3
  simp only [List.length_append, IntC.len h0, EntryC.len h1, RateC.len h2, HoldingC.len h3, Nat.reduceAdd] at a4
  simp only [List.length_append, IntC.len h0, EntryC.len h1, RateC.len h2, HoldingC.len h3, MatchC.len h4, Nat.reduceAdd] at a5
  simp only [List.length_append, IntC.len h0, EntryC.len h1, RateC.len h2, HoldingC.len h3, MatchC.len h4, StockC.len h5, Nat.reduceAdd] at a6
  simp only [List.length_append, IntC.len h0, EntryC.len h1, RateC.len h2, HoldingC.len h3, MatchC.len h4, StockC.len h5, IntC.len h6, Nat.reduceAdd] at a7
  simp only [List.length_append, IntC.len h0, EntryC.len h1, RateC.len h2, HoldingC.len h3, MatchC.len h4, StockC.len h5, IntC.len h6, IntC.len h7, Nat.reduceAdd] at a8
  obtain ⟨rfl, b0⟩ := h0
  obtain ⟨rfl, b6⟩ := h6
  obtain ⟨rfl, b7⟩ := h7
  have e8 : c8 = _ := h8; subst e8
  exact ⟨⟨a0.c (j := 0) rfl, b0⟩, ⟨_, h1, a1⟩, ⟨_, h2, a2⟩, ⟨_, h3, a3⟩, ⟨_, h4, a4⟩, ⟨_, h5, a5⟩, ⟨a6.c (j := 0) rfl, b6⟩, ⟨a7.c (j := 0) rfl, b7⟩, a8.c (j := 0) rfl⟩

end Go.Proofs.Ytgdibeegheddmaa
