/- Regions that draw, where a step may turn what its own word speaks of. Written by gen_i14.py. -/
import Derived.Test.YtebdajkknkapcaaG6xB0B10
import Derived.Test.YtebdajkknkapcaaG6xB14E6
import Derived.Test.YtebdajkknkapcaaG6xE8F6
import Derived.Test.YtebdajkknkapcaaG6xF4I13
import Derived.Test.YtebdajkknkapcaaProg
set_option linter.unusedVariables false
set_option linter.unusedSimpArgs false
set_option maxRecDepth 4000
attribute [local go_sem ↓] Go.wp_at_zero Go.wp_at_succ
namespace Go.Proofs.Ytebdajkknkapcaa
open Go Go.RowKit
theorem Inv.stepW {md : Region.Mode} {ops : Array Oper} {V : Nat → Value → World → Prop} {S : World → Prop} {a0 : Act} {listed : Array Bool} {a : Act} {w w' : World} {i : Nat} {o : Oper} {v : Value} (hI : Inv md ops V S a0 listed a w)
 (hdst : ∀ (i j : Nat) (oi oj : Oper) (d : Nat), ops[i]? = some oi → ops[j]? = some oj → oi.dst = some d → oj.dst = some d → i = j)
 (hlt : ∀ (i : Nat) (o : Oper) (d : Nat), ops[i]? = some o → o.dst = some d → d < a0.tmps.size)
 (h2 : ops[i]? = some o) (h3 : ∀ e ∈ o.after, Region.binds md e = true → Done listed e.on) (hS : S w') (hv : V i v w') (hst : ∀ j u, j ≠ i → V j u w → V j u w') :
 Inv md ops V S a0 (listed.setIfInBounds i true) (a.put o.dst v) w' := by
 have hsz : i < ops.size := (Array.getElem?_eq_some_iff.1 h2).1
 refine ⟨by simpa using hI.lsize, hS, ?_, ?_, ?_, ?_, ?_⟩
 · cases o.dst <;> exact hI.defers
 · cases ho : o.dst <;> simp [Act.put, hI.size]
 · intro j oj hj hd e he hb
   rcases hd.inv with rfl | hd
   · rw [h2] at hj
     cases hj
     exact Done.set (h3 e he hb)
   · exact Done.set (hI.closed j oj hj hd e he hb)
 · intro j oj d hj hjd hd
   by_cases hji : j = i
   · subst hji
     rw [h2] at hj
     cases hj
     refine ⟨v, ?_, hv⟩
     have := hlt j o d h2 hjd
     simp [Act.put, hjd, hI.size, this]
   · rcases hd.inv with h | hd
     · exact absurd h hji
     · obtain ⟨u, hu, hV⟩ := hI.got j oj d hj hjd hd
       refine ⟨u, ?_, hst j u hji hV⟩
       cases ho : o.dst with
       | none => simpa [Act.put, ho] using hu
       | some d' =>
        have hne : d' ≠ d := fun e => hji (hdst j i oj o d hj h2 hjd (by rw [ho, e]))
        simpa [Act.put, Array.getElem?_setIfInBounds, hne] using hu
 · intro j hj
   have h4 := hI.old j (fun k ok hk hkd hd => hj k ok hk hkd hd.set)
   cases ho : o.dst with
   | none => simpa [Act.put] using h4
   | some d' =>
    have hne : d' ≠ j := fun e => hj i o h2 (by rw [ho, e]) (Done.new (by rw [hI.lsize]; exact hsz))
    simpa [Act.put, Array.getElem?_setIfInBounds, hne] using h4
def OpStepW (P : Program) (md : Region.Mode) (ops : Array Oper) (Q : Exit → Act → World → Prop) (V : Nat → Value → World → Prop) (S : World → Prop) (a0 : Act) (i : Nat) (o : Oper) : Prop :=
 ∀ listed a w, Inv md ops V S a0 listed a w → (∀ e ∈ o.after, Region.binds md e = true → Done listed e.on) → ¬ Done listed i →
  ∀ K : Act → World → Prop, Shut (∀ v w', S w' → V i v w' → (∀ j u, j ≠ i → V j u w → V j u w') → K (a.put o.dst v) w') → if Region.wanted o (yielded ops a.tmps) = true then o.wp P a w K Q else K (a.put o.dst undef) w
theorem wpAny_invW {P : Program} {md : Region.Mode} {ops : Array Oper} {Q : Exit → Act → World → Prop} {V : Nat → Value → World → Prop} {S : World → Prop} {a0 : Act} {m : Nat}
 (hord : ∀ (i : Nat) (o : Oper), ops[i]? = some o → ∀ e ∈ o.after, Region.binds md e = true → e.on < i)
 (hdst : ∀ (i j : Nat) (oi oj : Oper) (d : Nat), ops[i]? = some oi → ops[j]? = some oj → oi.dst = some d → oj.dst = some d → i = j)
 (hlt : ∀ (i : Nat) (o : Oper) (d : Nat), ops[i]? = some o → o.dst = some d → d < a0.tmps.size)
 (hmn : m < ops.size) (hwait : waitsB md ops m = true) (hbeh : behindB md ops m = true)
 (hstep : ∀ i o, i < m → ops[i]? = some o → ∀ listed a w, Inv md ops V S a0 listed a w → (∀ e ∈ o.after, Region.binds md e = true → Done listed e.on) → ¬ Done listed i →
  ∀ K : Act → World → Prop, (∀ v w', S w' → V i v w' → (∀ j u, j ≠ i → V j u w → V j u w') → K (a.put o.dst v) w') → if Region.wanted o (yielded ops a.tmps) = true then o.wp P a w K Q else K (a.put o.dst undef) w)
 (hmid : ∀ f a w, Inv md ops V S a0 (headDone m ops.size) a w → wpAny P md ops Q (f + (ops.size - m)) (headDone m ops.size) a w) :
 ∀ fuel listed a w, Inv md ops V S a0 listed a w → (∀ i, m ≤ i → i < ops.size → ¬ Done listed i) → left ops.size listed ≤ fuel → wpAny P md ops Q fuel listed a w := by
 intro fuel
 induction fuel with
 | zero =>
  intro listed a w hI hno hf
  have hr : Region.ready md ops listed = [] := by
   rw [List.eq_nil_iff_forall_not_mem]
   intro i hi
   obtain ⟨h1, o, h2, _⟩ := mem_ready.1 hi
   have := left_set hI.lsize (Array.getElem?_eq_some_iff.1 h2).1 h1
   omega
  exact absurd (all_done' hI.lsize hord hr (m + 1) m (by omega) hmn) (hno m (by omega) hmn)
 | succ fuel ih =>
  intro listed a w hI hno hf
  by_cases hall : ∀ i, i < m → Done listed i
  · have hl := eq_headDone hI.lsize (fun i hi _ => hall i hi) hno
    subst hl
    have h1 := left_head m ops.size ops.size (Nat.le_refl _)
    unfold left at hf
    have h2 := hmid (fuel + 1 - (ops.size - m)) a w hI
    rwa [show fuel + 1 - (ops.size - m) + (ops.size - m) = fuel + 1 from by omega] at h2
  · refine ⟨fun hr => absurd (all_done' hI.lsize hord hr (m + 1) m (by omega) hmn) (hno m (by omega) hmn), fun i hi => ?_⟩
    obtain ⟨h1, o, h2, h3⟩ := mem_ready.1 hi
    have hsz : i < ops.size := (Array.getElem?_eq_some_iff.1 h2).1
    have him : i < m := by
     refine Nat.lt_of_not_le fun hle => ?_
     by_cases he : i = m
     · subst he
       exact hall fun j hj => waits_spec hI hwait h2 h3 (i - j) j hj (Nat.le_refl _)
     · simp only [behindB, List.all_eq_true] at hbeh
       have h4 := hbeh i (by rw [List.mem_drop_iff_getElem]; exact ⟨i - (m + 1), by simp; omega, by simp; omega⟩)
       rw [h2] at h4
       simp only [List.any_eq_true, Bool.and_eq_true, decide_eq_true_eq] at h4
       obtain ⟨e, hem, ⟨hb, hme⟩, hei⟩ := h4
       exact hno e.on hme (by omega) (h3 e (by simpa using hem) hb)
    have hnd : ¬ Done listed i := by
     unfold Done
     rw [← getD_tf (by rw [hI.lsize]; exact hsz), h1]
     simp
    refine wpOp_step h2 (fun K hK => hstep i o him h2 listed a w hI h3 hnd K (fun v w' hS hv hst => hK _ _ ?_))
    refine ih _ _ _ (hI.stepW hdst hlt h2 h3 hS hv hst) (fun j hj hjs hdj => ?_) ?_
    · rcases hdj.inv with rfl | hdj
      · omega
      · exact hno j hj hjs hdj
    · have := left_set hI.lsize hsz h1
      omega
theorem wp_region_invW2 {P : Program} {ops : Array Oper} {Q : Exit → Act → World → Prop} (m : Nat) (V : Nat → Value → World → Prop) (S : World → Prop) {id : Nat} {a : Act} {w : World}
 (hm : P.follows .mixedOrders = true) (ho : ordB' .any ops = true) (hd : dstB ops a.tmps.size = true) (hmn : m < ops.size) (hwait : waitsB .any ops m = true) (hbeh : behindB .any ops m = true) (hS : S w.drew)
 (hstep : AllOps (OpStepW P .any ops Q V S a) 0 (ops.toList.take m))
 (hmid : ∀ f a' w', Inv .any ops V S a (headDone m ops.size) a' w' → wpAny P .any ops Q (f + (ops.size - m)) (headDone m ops.size) a' w') : (Code.region id ops true).wp P Q a w := by
 have hno : ∀ i, ¬ Done (Array.replicate ops.size false) i := fun i h => by
  unfold Done at h
  by_cases hi : i < ops.size <;> simp [Array.getD_eq_getD_getElem?, hi] at h
 refine wp_region_any hm (wpAny_invW (V := V) (S := S) (a0 := a) (m := m) (ordB_spec' ho) (fun i j oi oj d hi hj hid hjd => (dstB_spec hd i oi d hi hid).2 j oj hj hjd) (fun i o d hi hid => (dstB_spec hd i o d hi hid).1) hmn hwait hbeh
  (fun i o him hi listed a' w' hI hdn hnd K hK => ?_) hmid _ _ _ _ ?_ (fun i _ _ => hno i) ?_)
 · have := AllOps.get hstep (i := i) (o := o) (by rw [List.getElem?_take_of_lt him]; simpa using hi)
   rw [Nat.zero_add] at this
   exact this listed a' w' hI hdn hnd K hK
 · exact ⟨by simp, hS, rfl, rfl, fun i _ _ h => absurd h (hno i), fun i _ _ _ _ h => absurd h (hno i), fun _ _ => rfl⟩
 · unfold left
   exact Nat.le_trans (List.length_filter_le _ _) (by simp)
theorem wp_region_invW {P : Program} {ops : Array Oper} {Q : Exit → Act → World → Prop} (m : Nat) (V : Nat → Value → World → Prop) (S : World → Prop) {id : Nat} {a : Act} {w : World}
 (hm : P.follows .mixedOrders = true) (ho : ordB' .any ops = true) (hd : dstB ops a.tmps.size = true) (hmn : m < ops.size) (hwait : waitsB .any ops m = true) (hbeh : behindB .any ops m = true) (hch : chainB .any ops m = true) (hS : S w.drew)
 (hstep : AllOps (OpStepW P .any ops Q V S a) 0 (ops.toList.take m))
 (hmid : ∀ a' w', Inv .any ops V S a (headDone m ops.size) a' w' → wpList P ops Q (ops.toList.drop m) a' w') : (Code.region id ops true).wp P Q a w :=
 wp_region_invW2 m V S hm ho hd hmn hwait hbeh hS hstep (fun f a' w' hI => wpAny_chain hch hmn (hmid a' w' hI))
theorem Ks.keepW {W w w' : World} {ks : List Kind} {i : Nat} (hb : Below w.heap.size w w') (j : Nat) (v : Value) (_ : j ≠ i) (h : Ks W ks j v w) : Ks W ks j v w' := Ks.keep hb j v h
end Go.Proofs.Ytebdajkknkapcaa
namespace Go.Proofs.Ytebdajkknkapcaa
open Go Go.RowKit
section
variable {P : Program} (w : World)
theorem run_app_old (base : Nat) (t ty e : TypeId) (i : TypeInfo) (z : Value) (size bytes : Nat) (ht : P.underlying t = some (.slice e)) (hi : P.info? e = some i) (hz : i.zero = some z)
 (hsize : i.size = size) (hby : i.bytes = bytes) (hzs : z.cells.size = size) (hsz : 0 < size)
 (v : Value) (n : Nat) (xs : List Value) (hown : w.ownsRow base e size v n xs)
 (Q : Nat → Prop) (A : Option Addr) (m c : Nat) (news : List Value) (hr : Rd w Q A m size news) (h1 : ∀ u ∈ news, u.oneCell' = true)
 (h63 : n + m ≤ maxLen) (hbytes : (n + m) * bytes ≤ 140737488355328) (hbase : base ≤ w.heap.size) (hm : 0 < m) {v' : Value} {w' : World} (hrun : (Builtin.append_ #[t, t] ty #[v, .slice A m c]).run P w = .ok v' w') : w'.ownsRow base e size v n xs := by
 obtain ⟨ad, rfl, hc⟩ := hr.2 hm
 rcases hown.2 with ⟨rfl, rfl⟩ | ⟨g, cap, cur, rfl, hbg, hg, hnc, hcm, hcs, htk⟩
 · have hx : xs = [] := List.eq_nil_of_length_eq_zero (by simpa using hown.1)
   subst hx
   exact World.ownsRow_nil _ _ _ _
 · by_cases hroom : n + m ≤ cap
   · obtain ⟨w2, hrun2, h2, _⟩ := run_append_fits (P := P) w base t ty e i size ht hi hsize g n cap xs hown ad m c news hr.1 (fun j u hu => (hc.2 j u hu).1) h1 hroom
     rw [hrun] at hrun2
     simp only [Result.ok.injEq] at hrun2
     obtain ⟨rfl, rfl⟩ := hrun2
     rcases h2.2 with ⟨h3, _⟩ | ⟨g', cap', cur', h3, _, hg', _, _, hcs', htk'⟩
     · simp at h3
     · simp only [Value.slice.injEq, Option.some.injEq, Addr.mk.injEq, and_true, true_and] at h3
       obtain ⟨rfl, rfl⟩ := h3
       refine ⟨hown.1, .inr ⟨g, cap, cur', rfl, hbg, hg', hnc, hcm, hcs', ?_⟩⟩
       have hxl := hown.1
       have : cur'.toList.take (n * size) = (cur'.toList.take ((n + m) * size)).take (n * size) := by
        rw [List.take_take, Nat.min_eq_left (Nat.mul_le_mul_right _ (by omega))]
       rw [this, htk', ← hxl, List.take_left]
   · have hgrow := run_append_grow (P := P) w t ty e i z ht hi hz ⟨g, 0, none⟩ n cap xs (by rw [hsize]; exact hown.1) (fun j u hu => hown.cells (g := g) rfl j u hu) ad m c news (by rw [hsize]; exact hr.1) (fun j u hu => (hc.2 j u hu).1) (by omega) (by unfold maxLen at h63; omega) (by rw [hby]; exact growslice_fits (by omega) (by simpa using hbytes))
     obtain ⟨ob, hw⟩ : ∃ ob, w' = w.drew.alloc ob := by
      have := hrun.symm.trans hgrow
      simp only [Result.ok.injEq] at this
      exact ⟨_, this.2⟩
     have hb : Below w.heap.size w w' := by rw [hw]; exact ((Below.refl _ _).drew).alloc (Nat.le_refl _) _
     exact own_below hown hb
theorem wp_app2 {o : Oper} {a : Act} {K : Act → World → Prop} {Q' : Exit → Act → World → Prop} (s x : Operand) (t : TypeId)
 (ho : o.op = .call { callee := .builtin .append, args := #[s, x], argTypes := #[t, t] })
 (base : Nat) (e : TypeId) (i : TypeInfo) (z : Value) (size bytes : Nat) (ht : P.underlying t = some (.slice e)) (hi : P.info? e = some i) (hz : i.zero = some z)
 (hsize : i.size = size) (hby : i.bytes = bytes) (hzs : z.cells.size = size) (hsz : 0 < size)
 (v : Value) (n : Nat) (xs : List Value) (hs : a.eval s = v) (hown : w.ownsRow base e size v n xs)
 (Q : Nat → Prop) (A : Option Addr) (m c : Nat) (news : List Value) (hx : a.eval x = .slice A m c) (hr : Rd w Q A m size news) (h1 : ∀ u ∈ news, u.oneCell' = true)
 (h63 : n + m ≤ maxLen) (hbytes : (n + m) * bytes ≤ 140737488355328) (hbase : base ≤ w.heap.size) (hm : 0 < m)
 (h : ∀ v' w', w'.ownsRow base e size v' (n + m) (xs ++ news) → w'.ownsRow base e size v n xs → w.grownBy w' v.ownBlock → (v'.ownBlock = v.ownBlock ∨ v'.ownBlock = some w.heap.size) → K (a.put o.dst v') w') : o.wp P a w K Q' := by
 obtain ⟨v', w', hrun, h2, h3, h4⟩ := run_app (P := P) w base t o.type e i z size bytes ht hi hz hsize hby hzs hsz v n xs hown Q A m c news hr h1 h63 hbytes hbase
 have h5 := run_app_old (P := P) w base t o.type e i z size bytes ht hi hz hsize hby hzs hsz v n xs hown Q A m c news hr h1 h63 hbytes hbase hm hrun
 unfold Oper.wp execOp
 simp only [ho, resolve, invoke, builtin, Sem.run_bind, Sem.run_pure, Result.andThen_ok, List.map_toArray, List.map_cons, List.map_nil, hs, hx, hrun]
 exact h v' w' h2 h5 h3 h4
end
theorem JAt.mono {w : World} {D O D' O' : Nat → Prop} {J : Nat} {g : XGroup} {es : List XEntry} {gl : List Value} {css : List (List Value)} {v : Value} {bi br : Nat} (h : JAt w D O J g es gl css v bi br) (hD : ∀ q, D q → D' q) (hO : ∀ q, O q → O' q) (hdis : ∀ q, D' q → ¬ O' q) (hD2 : ∀ q, D' q → q < w.heap.size) (hO2 : ∀ q, O' q → q < w.heap.size) : JAt w D' O' J g es gl css v bi br where
 blk := h.blk
 grp := GroupC.mono h.grp hD
 len := h.len
 row := h.row
 ent := fun i x hx => by
  obtain ⟨cs, h1, h2⟩ := h.ent i x hx
  exact ⟨cs, h1, EntryC.mono h2 hD⟩
 idx := h.idx
 rev := h.rev
 oj := hO _ h.oj
 oi := hO _ h.oi
 orr := hO _ h.orr
 ov := fun q hq => hO _ (h.ov q hq)
 ne1 := h.ne1
 ne2 := h.ne2
 ne3 := h.ne3
 ne4 := h.ne4
 dis := hdis
 ltD := hD2
 ltO := hO2
 ok := h.ok
theorem JAt.same {w w' : World} {D O : Nat → Prop} {J : Nat} {g : XGroup} {es : List XEntry} {gl : List Value} {css : List (List Value)} {v : Value} {bi br : Nat} (h : JAt w D O J g es gl css v bi br) (hb : Below w.heap.size w w') : JPost D O J g es es w w' := by
 have h2 := h.below hb
 refine ⟨w'.heap.size, hb.size, Nat.le_refl _, ⟨gl, css, v, bi, br, h2.mono (fun q hq => .inl hq) (fun q hq => .inl hq) (fun q hq => ?_) (fun q hq => ?_) (fun q hq => ?_)⟩, (Fr.ofBelow hb).mono (fun q hq => hq.1)⟩
 · rintro (ho | ho)
   · rcases hq with hq | hq
     · exact h.dis q hq ho
     · have := h.ltO q ho; omega
   · omega
 · rcases hq with hq | hq
   · exact h2.ltD q hq
   · exact hq.2
 · rcases hq with hq | hq
   · exact h2.ltO q hq
   · exact hq.2
end Go.Proofs.Ytebdajkknkapcaa
namespace Go.Proofs.Ytebdajkknkapcaa
open Go Go.RowKit
def entA (x : XEntry) (A : Option Addr) (c : Nat) : List Value := [.int .i64 x.id, .int .i64 x.entity, .int .i64 x.date, .int .i64 x.kind, .int .i64 x.of_, .string x.text, .slice A x.lines.length c]
def PC (B : Nat) (x : XEntry) (v : Value) (w : World) : Prop := ∃ A c, v = .agg (entA x A c).toArray ∧ ListC LineC 3 w (fun q => B ≤ q ∧ q < w.heap.size) [.slice A x.lines.length c] x.lines
def PS (B : Nat) (x : XEntry) (v : Value) (w : World) : Prop := ∃ gq A c, v = .slice (some ⟨gq, 0, none⟩) 1 1 ∧ B ≤ gq ∧ w.heap[gq]? = some (.cells (entA x A c).toArray 42 (0, 0)) ∧ ListC LineC 3 w (fun q => B ≤ q ∧ q < w.heap.size) [.slice A x.lines.length c] x.lines
def PA (V : World) (v0 : Value) (n : Nat) (cf : List Value) (x : XEntry) (v : Value) (w : World) : Prop := ∃ W3 A c, Fr (fun q => q < V.heap.size ∧ v0.ownBlock ≠ some q) V W3 ∧ ListC LineC 3 W3 (fun q => V.heap.size ≤ q ∧ q < W3.heap.size) [.slice A x.lines.length c] x.lines ∧ w.ownsRow 0 42 7 v (n + 1) (cf ++ entA x A c) ∧ W3.grownBy w v0.ownBlock ∧ (v.ownBlock = v0.ownBlock ∨ v.ownBlock = some W3.heap.size)
theorem lines_fr2 {w w' : World} {B : Nat} {cs : List Value} {l : List XLine} (h : ListC LineC 3 w (fun q => B ≤ q ∧ q < w.heap.size) cs l) (hf : Fr (fun q => B ≤ q ∧ q < w.heap.size) w w') : ListC LineC 3 w' (fun q => B ≤ q ∧ q < w'.heap.size) cs l :=
 (h.fr (fun h => LineC.fr h hf) hf).mono (fun h => LineC.mono h (fun q hq => ⟨hq.1, Nat.lt_of_lt_of_le hq.2 hf.size⟩)) (fun q hq => ⟨hq.1, Nat.lt_of_lt_of_le hq.2 hf.size⟩)
theorem lines_up {w w' : World} {B : Nat} {cs : List Value} {l : List XLine} (h : ListC LineC 3 w (fun q => B ≤ q ∧ q < w.heap.size) cs l) (hb : Below w.heap.size w w') : ListC LineC 3 w' (fun q => B ≤ q ∧ q < w'.heap.size) cs l := lines_fr2 h ((Fr.ofBelow hb).mono (fun q hq => hq.2))
theorem PC.keep (B : Nat) (x : XEntry) : ∀ v w w', Below w.heap.size w w' → PC B x v w → PC B x v w' := fun v w w' hb ⟨A, c, e, h⟩ => ⟨A, c, e, lines_up h hb⟩
theorem PS.keep (B : Nat) (x : XEntry) : ∀ v w w', Below w.heap.size w w' → PS B x v w → PS B x v w' := fun v w w' hb ⟨gq, A, c, e, h1, h2, h⟩ => ⟨gq, A, c, e, h1, (hb.block gq (blk_lt h2)).trans h2, lines_up h hb⟩
theorem PA.keep (V : World) (v0 : Value) (n : Nat) (cf : List Value) (x : XEntry) : ∀ v w w', Below w.heap.size w w' → PA V v0 n cf x v w → PA V v0 n cf x v w' := fun v w w' hb ⟨W3, A, c, h1, h2, h3, h4, h5⟩ => ⟨W3, A, c, h1, h2, own_below h3 hb, h4.andThen ((grown_of_below hb).but _) (fun j hj => .inr hj), h5⟩
theorem PC.grow {B : Nat} {x : XEntry} {v : Value} {w w' : World} {row : Option Nat} (h : PC B x v w) (hg : w.grownBy w' row) (hr : ∀ q, row = some q → q < B) : PC B x v w' := by
 obtain ⟨A, c, e, h⟩ := h
 exact ⟨A, c, e, lines_fr2 h ⟨hg.os, hg.tape, hg.output, hg.size, fun q hq => hg.block q hq.2 (fun e => by have := hr q e.symm; omega)⟩⟩
theorem PS.grow {B : Nat} {x : XEntry} {v : Value} {w w' : World} {row : Option Nat} (h : PS B x v w) (hg : w.grownBy w' row) (hr : ∀ q, row = some q → q < B) : PS B x v w' := by
 obtain ⟨gq, A, c, e, h1, h2, h⟩ := h
 exact ⟨gq, A, c, e, h1, (hg.block gq (blk_lt h2) (fun e => by have := hr gq e.symm; omega)).trans h2, lines_fr2 h ⟨hg.os, hg.tape, hg.output, hg.size, fun q hq => hg.block q hq.2 (fun e => by have := hr q e.symm; omega)⟩⟩
theorem JPost.of {w V W3 W5 : World} {D O : Nat → Prop} {J : Nat} {g : XGroup} {es es' : List XEntry} {gl : List Value} {css : List (List Value)} {v : Value} {bi br : Nat} (hb : Below w.heap.size w V) (h : JAt W5 (fun q => D q ∨ (V.heap.size ≤ q ∧ q < W3.heap.size)) (fun q => O q ∨ (W3.heap.size ≤ q ∧ q < W5.heap.size)) J g es' gl css v bi br)
 (hf : Fr (fun q => q < V.heap.size ∧ ¬ O q) V W5) (h1 : V.heap.size ≤ W3.heap.size) (h2 : W3.heap.size ≤ W5.heap.size) (hO : ∀ q, O q → q < w.heap.size) : JPost D O J g es es' w W5 := by
 have hs := hb.size
 refine ⟨W3.heap.size, by omega, h2, ⟨gl, css, v, bi, br, h.mono (fun q hq => hq.elim .inl (fun hq => .inr ⟨by omega, hq.2⟩)) (fun q hq => hq) (fun q hq ho => ?_) (fun q hq => ?_) h.ltO⟩, ((Fr.ofBelow hb).mono (fun q hq => hq.1)).trans (hf.mono (fun q hq => ⟨by omega, hq.2⟩))⟩
 · rcases hq with hq | hq
   · exact h.dis q (.inl hq) ho
   · rcases ho with ho | ho
     · have := hO q ho; omega
     · omega
 · rcases hq with hq | hq
   · exact h.ltD q (.inl hq)
   · omega
end Go.Proofs.Ytebdajkknkapcaa
namespace Go.Proofs.Ytebdajkknkapcaa
open Go Go.RowKit
def lessB (x y : XLine) : Bool := decide (x.account < y.account) || (decide (x.account = y.account) && decide (x.partner < y.partner))
theorem lessB_iff (x y : XLine) : lessB x y = true ↔ ltL x y := by
 unfold lessB ltL
 simp
def mrgL (y x : XLine) : XLine := ⟨y.account, y.amount + x.amount, y.partner⟩
def insL : List XLine → XLine → List XLine
 | [], x => [x]
 | y :: ys, x => if lessB y x then y :: insL ys x else if lessB x y then x :: y :: ys else mrgL y x :: ys
theorem insL_new : ∀ {all : List XLine} {x : XLine} (k : Nat) (hk : k ≤ all.length), (∀ j (hj : j < all.length), j < k → lessB all[j] x = true) → (∀ (h : k < all.length), lessB all[k] x = false ∧ lessB x all[k] = true) → insL all x = all.take k ++ x :: all.drop k
 | [], x, k, hk, _, _ => by
  have : k = 0 := by simpa using hk
  subst this
  rfl
 | y :: ys, x, 0, _, _, h => by
  have h0 := h (by simp)
  simp only [List.getElem_cons_zero] at h0
  show (if lessB y x then _ else if lessB x y then _ else _) = _
  rw [h0.1, h0.2]
  rfl
 | y :: ys, x, k + 1, hk, hall, h => by
  have h0 := hall 0 (by simp) (by omega)
  simp only [List.getElem_cons_zero] at h0
  have ih := insL_new (all := ys) (x := x) k (by simpa using hk) (fun j hj hjk => by have := hall (j + 1) (by simp; omega) (by omega); simpa using this) (fun hh => by have := h (by simp; omega); simpa using this)
  show (if lessB y x then y :: insL ys x else _) = _
  rw [h0, if_pos rfl, ih]
  rfl
theorem insL_old : ∀ {all : List XLine} {x : XLine} (k : Nat) (hk : k < all.length), (∀ j (hj : j < all.length), j < k → lessB all[j] x = true) → lessB all[k] x = false → lessB x all[k] = false → insL all x = all.take k ++ mrgL all[k] x :: all.drop (k + 1)
 | [], x, k, hk, _, _, _ => absurd hk (by simp)
 | y :: ys, x, 0, _, _, h1, h2 => by
  simp only [List.getElem_cons_zero] at h1 h2
  show (if lessB y x then _ else if lessB x y then _ else _) = _
  rw [h1, h2]
  rfl
 | y :: ys, x, k + 1, hk, hall, h1, h2 => by
  have h0 := hall 0 (by simp) (by omega)
  simp only [List.getElem_cons_zero] at h0
  have ih := insL_old (all := ys) (x := x) k (by simpa using hk) (fun j hj hjk => by have := hall (j + 1) (by simp; omega) (by omega); simpa using this) (by simpa using h1) (by simpa using h2)
  show (if lessB y x then y :: insL ys x else _) = _
  rw [h0, if_pos rfl, ih]
  rfl
theorem insL_len (all : List XLine) (x : XLine) : (insL all x).length ≤ all.length + 1 := by
 induction all with
 | nil => simp [insL]
 | cons y ys ih =>
  show (if lessB y x then y :: insL ys x else if lessB x y then x :: y :: ys else mrgL y x :: ys).length ≤ _
  split
  · simp; exact ih
  · split <;> simp
theorem isAt_mrg (y x : XLine) (a p : Int) : isAt a p (mrgL y x) = isAt a p y := rfl
theorem insL_sum (all : List XLine) (x : XLine) (a p : Int) : sumAt (insL all x) a p = sumAt all a p + (if isAt a p x then x.amount else 0) := by
 induction all with
 | nil =>
  show sumAt [x] a p = _
  rw [sumAt_cons]
  have : sumAt [] a p = 0 := rfl
  omega
 | cons y ys ih =>
  show sumAt (if lessB y x then y :: insL ys x else if lessB x y then x :: y :: ys else mrgL y x :: ys) a p = _
  by_cases h1 : lessB y x = true
  · rw [if_pos h1, sumAt_cons, ih, sumAt_cons]; omega
  · rw [if_neg h1]
    by_cases h2 : lessB x y = true
    · rw [if_pos h2, sumAt_cons]; omega
    · rw [if_neg h2, sumAt_cons, sumAt_cons, isAt_mrg]
      have hn1 : ¬ ltL y x := fun h => h1 ((lessB_iff y x).2 h)
      have hn2 : ¬ ltL x y := fun h => h2 ((lessB_iff x y).2 h)
      have he : x.account = y.account ∧ x.partner = y.partner := by
       rcases ltL_tri x y with h | h | h
       · exact absurd h hn2
       · exact h
       · exact absurd h hn1
      have hi : isAt a p x = isAt a p y := by unfold isAt; rw [he.1, he.2]
      rw [hi]
      by_cases h3 : isAt a p y = true
      · rw [if_pos h3, if_pos h3, if_pos h3]
        show y.amount + x.amount + _ = _
        omega
      · rw [if_neg h3, if_neg h3, if_neg h3]; omega
theorem insL_mem {all : List XLine} {x z : XLine} (h : z ∈ insL all x) : z = x ∨ z ∈ all ∨ ∃ y ∈ all, z = mrgL y x := by
 induction all with
 | nil =>
  have h : z ∈ [x] := h
  left; simpa using h
 | cons y ys ih =>
  have h : z ∈ (if lessB y x then y :: insL ys x else if lessB x y then x :: y :: ys else mrgL y x :: ys) := h
  split at h
  · rcases List.mem_cons.1 h with rfl | h
    · exact .inr (.inl (by simp))
    · rcases ih h with h | h | ⟨q, h, e⟩
      · exact .inl h
      · exact .inr (.inl (by simp [h]))
      · exact .inr (.inr ⟨q, by simp [h], e⟩)
  · split at h
    · rcases List.mem_cons.1 h with rfl | h
      · exact .inl rfl
      · exact .inr (.inl h)
    · rcases List.mem_cons.1 h with rfl | h
      · exact .inr (.inr ⟨y, by simp, rfl⟩)
      · exact .inr (.inl (by simp [h]))
theorem ltL_trans {x y z : XLine} (h : ltL x y) (k : ltL y z) : ltL x z := by
 rcases h with h | ⟨h, h2⟩ <;> rcases k with k | ⟨k, k2⟩ <;> unfold ltL <;> omega
theorem insL_sort : ∀ {all : List XLine} {x : XLine}, all.Pairwise ltL → (insL all x).Pairwise ltL
 | [], x, _ => by show [x].Pairwise ltL; simp
 | y :: ys, x, h => by
  have hy := List.pairwise_cons.1 h
  show (if lessB y x then y :: insL ys x else if lessB x y then x :: y :: ys else mrgL y x :: ys).Pairwise ltL
  split
  · rename_i h1
    have h1 := (lessB_iff y x).1 h1
    refine List.pairwise_cons.2 ⟨fun z hz => ?_, insL_sort hy.2⟩
    rcases insL_mem hz with rfl | hz | ⟨q, hq, rfl⟩
    · exact h1
    · exact hy.1 z hz
    · exact hy.1 q hq
  · split
    · rename_i h2
      have h2 := (lessB_iff x y).1 h2
      refine List.pairwise_cons.2 ⟨fun z hz => ?_, h⟩
      rcases List.mem_cons.1 hz with rfl | hz
      · exact h2
      · exact ltL_trans h2 (hy.1 z hz)
    · exact List.pairwise_cons.2 ⟨fun z hz => hy.1 z hz, hy.2⟩
def allL (l : List XLine) : List XLine := l.foldl insL []
def nrmL (l : List XLine) : List XLine := (allL l).filter (fun x => decide (x.amount ≠ 0))
theorem allL_succ {l : List XLine} {k : Nat} (hk : k < l.length) : allL (l.take (k + 1)) = insL (allL (l.take k)) l[k] := by
 unfold allL
 rw [List.take_add_one, List.getElem?_eq_getElem hk, List.foldl_append]
 rfl
theorem foldl_ins (l : List XLine) : ∀ (acc : List XLine), acc.Pairwise ltL → (l.foldl insL acc).Pairwise ltL ∧ (∀ a p, sumAt (l.foldl insL acc) a p = sumAt acc a p + sumAt l a p) ∧ (l.foldl insL acc).length ≤ acc.length + l.length := by
 induction l with
 | nil => exact fun acc h => ⟨h, fun a p => by show sumAt acc a p = _ + 0; omega, by simp⟩
 | cons x l ih =>
  intro acc h
  obtain ⟨h1, h2, h3⟩ := ih (insL acc x) (insL_sort h)
  refine ⟨h1, fun a p => ?_, ?_⟩
  · show sumAt (l.foldl insL (insL acc x)) a p = _
    rw [h2, insL_sum, sumAt_cons]; omega
  · show (l.foldl insL (insL acc x)).length ≤ _
    have := insL_len acc x
    rw [List.length_cons]
    omega
theorem allL_sort (l : List XLine) : (allL l).Pairwise ltL := (foldl_ins l [] List.Pairwise.nil).1
theorem allL_sum (l : List XLine) (a p : Int) : sumAt (allL l) a p = sumAt l a p := by
 have := (foldl_ins l [] List.Pairwise.nil).2.1 a p
 have h0 : sumAt [] a p = 0 := rfl
 unfold allL
 omega
theorem allL_len (l : List XLine) : (allL l).length ≤ l.length := by
 have := (foldl_ins l [] List.Pairwise.nil).2.2
 unfold allL
 simpa using this
theorem sumAt_far {l : List XLine} {a p : Int} (h : ∀ y ∈ l, ¬ (y.account = a ∧ y.partner = p)) : sumAt l a p = 0 := by
 induction l with
 | nil => rfl
 | cons y l ih =>
  rw [sumAt_cons, ih (fun z hz => h z (by simp [hz])), if_neg]
  · rfl
  · intro e
    unfold isAt at e
    simp only [Bool.and_eq_true, beq_iff_eq] at e
    exact h y (by simp) e
theorem sumAt_one : ∀ {l : List XLine}, l.Pairwise ltL → ∀ {x : XLine}, x ∈ l → sumAt l x.account x.partner = x.amount
 | [], _, x, hx => absurd hx (by simp)
 | y :: ys, h, x, hx => by
  have hy := List.pairwise_cons.1 h
  rw [sumAt_cons]
  rcases List.mem_cons.1 hx with rfl | hx
  · rw [sumAt_far (fun z hz e => by
     rcases hy.1 z hz with h1 | ⟨_, h1⟩
     · omega
     · omega), if_pos (by unfold isAt; simp)]
    omega
  · rw [sumAt_one hy.2 hx, if_neg]
    · omega
    · intro e
      unfold isAt at e
      simp only [Bool.and_eq_true, beq_iff_eq] at e
      rcases hy.1 x hx with h1 | ⟨_, h1⟩
      · omega
      · omega
theorem nrmL_norm (l : List XLine) : IsNorm l (nrmL l) := by
 refine ⟨(allL_sort l).filter _, fun x => ?_⟩
 unfold nrmL
 rw [List.mem_filter]
 simp only [decide_eq_true_eq]
 constructor
 · rintro ⟨h1, h2⟩
   exact ⟨by rw [← allL_sum, sumAt_one (allL_sort l) h1], h2⟩
 · rintro ⟨h1, h2⟩
   refine ⟨?_, h2⟩
   rw [← allL_sum] at h1
   obtain ⟨y, hy, ha, hp⟩ := sumAt_some (l := allL l) (a := x.account) (p := x.partner) (by omega)
   have h3 := sumAt_one (allL_sort l) hy
   rw [ha, hp] at h3
   have : x = y := by
    obtain ⟨xa, xm, xp⟩ := x
    obtain ⟨ya, ym, yp⟩ := y
    simp only at ha hp h1 h3
    simp only [XLine.mk.injEq]
    omega
   rw [this]; exact hy
theorem allL_bd {l : List XLine} {x : XLine} (h : x ∈ allL l) : -absL l ≤ x.amount ∧ x.amount ≤ absL l := by
 have h1 := sumAt_one (allL_sort l) h
 rw [allL_sum] at h1
 have := sumAt_abs l x.account x.partner
 omega
end Go.Proofs.Ytebdajkknkapcaa
