/- Translation: facts on valid books. -/
import Derived.Test.YtibiddakakgakaaGreatQdA23R3
set_option linter.unusedVariables false
set_option linter.unusedSimpArgs false
set_option maxRecDepth 4000
attribute [local go_sem ↓] Go.wp_at_zero Go.wp_at_succ
set_option maxHeartbeats 16000000
namespace Go.Proofs.YtibiddakakgakaaGreat
section
open Go Go.RowKit
theorem fy {g:au} (h:bh g=true):du g.calendar.year g.calendar.month g.calendar.periods=true:=by
 unfold bh at h;simp only[Bool.and_eq_true]at h;exact h.1.1.1.1.2
theorem Aq {g:au} (h:bh g=true) {q:Nat} (hq:q<g.entities.length):cQ g.entities[q].currency=true/\pV g.entities[q].chart g.chart g.entities[q].links=true:=by
 unfold bh at h;simp only[Bool.and_eq_true]at h;have h1:=h.2;unfold DX at h1;have h2:=Ad h1 hq;unfold mK at h2;rw[List.getElem?_eq_getElem hq]at h2;simp only[Bool.and_eq_true]at h2;have h3:=h2.2;unfold dP at h3;simp only[Bool.and_eq_true]at h3;have h4:=h3.1.2;unfold n8 at h4;simp only[Bool.and_eq_true]at h4;exact⟨h3.1.1.2,h4.2⟩
theorem GY:∀(ls:List bu) (code gA:Int) (l:bu),js ls code gA=some l->l∈ls/\l.from_=code/\l.since<=gA:=by
 have ir:∀(ls:List bu) (code gA:Int) (o:Option bu) (l:bu),ls.foldl (zw code gA) o=some l->o=some l\/(l∈ls/\l.from_=code/\l.since<=gA):=by
  intro ls
  induction ls with
  |nil=>intro code gA o l h;exact .inl h
  |cons x ls ih=>
   intro code gA o l h;rcases ih code gA _ l h with h|h
   ·unfold zw at h;split at h
    ·rename_i hc;cases h;exact .inr ⟨List.mem_cons_self ..,hc.1,hc.2.1⟩
    ·exact .inl h
   ·exact .inr ⟨List.mem_cons_of_mem _ h.1,h.2⟩
 intro ls code gA l h;rcases ir ls code gA none l h with h|h
 ·cases h
 ·exact h
theorem S4 {g:au} (hg:bh g=true) {q:Nat} (hq:q<g.entities.length) {code gA:Int} (h:(gz g.entities[q] code gA).2=0):∃a b,aK g.entities[q].chart code=some a/\aK g.chart (gz g.entities[q] code gA).1=some b/\a.kind=b.kind:=by
 obtain⟨_,hl⟩:=Aq hg hq;unfold gz at h |-;split at h
 ·cases h
 rename_i h1;rw[if_neg h1];split at h
 ·cases h
 rename_i h2;rw[if_neg h2];cases ho:js g.entities[q].links code gA with
 |none=>rw[ho]at h;cases h
 |some l=>
  obtain⟨h3,h4,_⟩:=GY _ _ _ _ ho;obtain⟨k,hk,rfl⟩:=List.getElem_of_mem h3;unfold pV at hl;have h5:=Ad hl hk;unfold gF at h5;rw[List.getElem?_eq_getElem hk]at h5;simp only[Bool.and_eq_true]at h5;have h6:=h5.1;unfold n0 at h6;rw[h4]at h6;cases ha:aK g.entities[q].chart code with
  |none=>rw[ha]at h6;cases h6
  |some a=>
   rw[ha]at h6;simp only at h6;cases hb:aK g.chart g.entities[q].links[k].to_ with
   |none=>rw[hb]at h6;cases h6
   |some b=>
    rw[hb]at h6;simp only[Bool.and_eq_true,beq_iff_eq]at h6;exact⟨a,b,rfl,rfl,h6.1⟩
theorem Ei {g:au} (hg:bh g=true) {p:Int} (hp:0<=p/\p<g.calendar.periods):bA g p=ff (bw g.calendar.year g.calendar.month p):=by
 unfold bA bH bo;rw[if_pos (by rw[if_pos (fy hg),if_pos hp])]
theorem An {g:au} (hg:bh g=true) {p:Int} (hp:0<=p/\p<g.calendar.periods):lJ g p=da (bw g.calendar.year g.calendar.month p):=by
 unfold lJ aX bo;rw[if_pos (by rw[if_pos (fy hg),if_pos hp])]
theorem Tm {g:au} (hg:bh g=true) {p:Int} (hp:0<=p/\p<g.calendar.periods):inY (bw g.calendar.year g.calendar.month p/ 12):=(ig (fy hg) hp.1 hp.2).2.2.2.2.2
theorem B6 {N:Int} (h:inY (N/ 12)):inD (ff N)/\da N<=ff N:=by
 have h1:=(im h).2.2.2.2.1;have h2:=Jl h;have hd:=nR (y:=N/ 12) (m:=N%12+1) h (by omega) (by omega);have hci:qP (ff N) (N/ 12) (N%12+1) (ck (N/ 12) (N%12+1)):=by
  refine⟨h,by omega,by omega,by omega,Int.le_refl _,?_⟩;unfold ff da;rw[show N%12+1- 1=N%12 from by omega]
 have a:=hci.year.2;have b:=(oE h).1;have hb:=gN (show N/ 12+1<=2200 by have:=h.2;omega);rw[tZ]at hb;unfold inD at*;have:=h.2;exact⟨⟨by omega,by omega⟩,h2⟩
theorem nX {g:au} (hg:bh g=true) {p:Int} (hp:0<=p/\p<g.calendar.periods):inD (bA g p):=by
 rw[Ei hg hp];exact(B6 (Tm hg hp)).1
theorem Js {g:au} (hg:bh g=true) {d:Int} (h:(cT g.calendar.year g.calendar.month g.calendar.periods d).2=0):(0<=iC g d/\iC g d<g.calendar.periods)/\lJ g (iC g d)<=d/\d<=bA g (iC g d)/\inD d:=by
 have hc:=fy hg;have e:iC g d=(cT g.calendar.year g.calendar.month g.calendar.periods d).1:=rfl;unfold cT at h e;cases hp:rm g.calendar.year g.calendar.month g.calendar.periods d with
 |none=>rw[hp]at h;cases h
 |some p=>
  rw[hp]at e;simp only at e;obtain⟨h1,h2,h3⟩:=rn hc hp;have hn:=of_decide_eq_true hc;have hb:0<=iC g d/\iC g d<g.calendar.periods:=by omega
  rw[An hg hb,Ei hg hb,e];exact⟨by omega,h2,h3,Jt hc h1 h2 h3⟩
theorem oz {b:XBk} (h:cE b) {x:ak} (hx:x∈b.es):(cT b.g.calendar.year b.g.calendar.month b.g.calendar.periods x.date).2=0:=by
 have h1:=(zx h.j hx).2.1;rw[Pu (fy h.1),if_pos h1]
theorem Am {b:XBk} (h:cE b) {x:ak} (hx:x∈b.es):dZ b x.entity:=⟨(rx h.j hx).2.2.1,(rx h.j hx).2.2.2.1⟩
structure ab0 (b:XBk) (ent code date p:Int):Prop where
 map:(gz (b.g.entities.getD ent.toNat {}) code (bA b.g p)).2=0
 acc:∃a,aK b.g.chart (gz (b.g.entities.getD ent.toNat {}) code (bA b.g p)).1=some a/\dM b ent code date p=((gz (b.g.entities.getD ent.toNat {}) code (bA b.g p)).1,kP b (b.g.entities.getD ent.toNat {}).currency a.basis date p)
theorem me {b:XBk} {ent:Int} (he:dZ b ent):∃q:Nat,∃hq:q<b.g.entities.length,ent=(q:Int)/\b.g.entities.getD ent.toNat {}=b.g.entities[q]:=by
 refine⟨ent.toNat,by have:=he.2;have:=he.1;omega,by have:=he.1;omega,?_⟩;rw[List.getD_eq_getElem?_getD,List.getElem?_eq_getElem (by have:=he.2;have:=he.1;omega)];rfl
theorem AA {b:XBk} (h:cE b) {ent:Int} (he:dZ b ent) {code date p:Int} (hm:(gz (b.g.entities.getD ent.toNat {}) code (bA b.g p)).2=0):ab0 b ent code date p:=by
 refine⟨hm,?_⟩;obtain⟨q,hq,_,e⟩:=me he;have jA:=hm;rw[e]at jA;obtain⟨a,b1,h1,h2,h3⟩:=S4 h.1 hq jA;rw[<-e]at h2;refine⟨b1,h2,?_⟩;unfold dM;simp only;rw[if_neg (by simpa using hm),h2]
theorem Ej {b:XBk} {ent:Int} {code date p:Int} (hm:(gz (b.g.entities.getD ent.toNat {}) code (bA b.g p)).2≠0):dM b ent code date p=(0,0,15):=by
 unfold dM;simp only;rw[if_pos hm]
theorem agx {b:XBk} (h:cE b) {ent:Int} (he:dZ b ent) {code date p:Int} (hl:(dM b ent code date p).2.2=0):ab0 b ent code date p:=by
 by_cases hm:(gz (b.g.entities.getD ent.toNat {}) code (bA b.g p)).2=0
 ·exact AA h he hm
 ·rw[Ej hm]at hl;cases hl
theorem aki {b:XBk} {x:ak} {k:Nat} {p:Int} (h:(jr b x k p).2=0):
 (dM b x.entity (x.lines.getD k {}).account x.date p).2.2=0/\(cN (x.lines.getD k {}).amount (dM b x.entity (x.lines.getD k {}).account x.date p).2.1).2=0/\
 (jr b x k p).1=⟨⟨x.id,(k:Int)⟩,x.entity,lK b.g (dM b x.entity (x.lines.getD k {}).account x.date p).1 x.date p,(x.lines.getD k {}).partner,x.date,(cN (x.lines.getD k {}).amount (dM b x.entity (x.lines.getD k {}).account x.date p).2.1).1⟩:=by
 unfold jr at h |-;simp only at h |-;by_cases h1:(dM b x.entity (x.lines.getD k {}).account x.date p).2.2≠0
 ·rw[if_pos h1]at h;exact absurd h h1
 rw[if_neg h1]at h |-;by_cases h2:(cN (x.lines.getD k {}).amount (dM b x.entity (x.lines.getD k {}).account x.date p).2.1).2≠0
 ·rw[if_pos h2]at h;cases h
 rw[if_neg h2]at h |-;exact⟨by simpa using h1,by simpa using h2,rfl⟩
theorem ak0 {b:XBk} {ent p:Int} (h:(pQ b ent p).2≠0):(pQ b ent p).1=[]:=by
 unfold pQ at h |-;by_cases h1:fH b ent p=0
 ·rw[if_pos h1]at h |-;exact agw h
 ·rw[if_neg h1]
theorem rl {b:XBk} {ent p:Int} (h:(pQ b ent p).2=0):fH b ent p=0/\(∀x∈Je b ent p,∀j<x.lines.length,(jr b x j p).2=0)/\(pQ b ent p).1=(Je b ent p).flatMap (λx=>(List.range x.lines.length).map (λj=>(jr b x j p).1)):=by
 unfold pQ at h |-;by_cases h1:fH b ent p=0
 ·rw[if_pos h1]at h |-;obtain⟨h2,h3⟩:=ale h;refine⟨h1,λx hx j hj=>h2 _ (List.mem_flatMap.2 ⟨x,hx,List.mem_map.2 ⟨j,List.mem_range.2 hj,rfl⟩⟩),?_⟩;unfold ZA;rw[h3,List.map_flatMap]
  congr 1
  funext x
  unfold kx;rw[List.map_map];rfl
 ·rw[if_neg h1]at h;exact absurd h h1
end
section
open Go Go.RowKit
open Go.Maps (Keyed)
open Go.WideMaps (KeyLaw)
theorem PX:(161:TypeId)<Tryz.prog.types.size:=of_decide_eq_true K_
theorem L6:(match Tryz.prog.underlying 161 with|some (.array _ _)|some (.struct _)=>true|_=>false)=true:=by kernel_rfl
theorem PW:KeyLaw Tryz.prog 161:=deep_law_laid lA (m:=2) (by omega) PX K_ L6
theorem mV:Keyed Tryz.prog 161:=Keyed.of_law PW
theorem Qi:Tryz.prog.underlying 9=some .string:=by kernel_rfl
theorem In:Tryz.prog.cellsOf 9=1:=by kernel_rfl
theorem yf:Tryz.prog.cellsOf 161=3:=by kernel_rfl
theorem Eh {d:Nat} {s:ByteArray} (h:s.size<=maxLen):Tryz.prog.keyLits (d+1) 9 [s]=some [.string s.data.toList]:=by
 unfold Program.keyLits;rw[Qi];simp[h]
theorem Ci {d:Nat} {s:ByteArray} {a z:Int} (hs:s.size<=maxLen) (ha:cx a) (hz:cx z):Tryz.prog.keyLits (d+2) 161 [s,a,z]=some [.string s.data.toList,.int .i64 a,.int .i64 z]:=by
 unfold Program.keyLits;rw[Tryz.underlying161];have h0:=Eh (d:=d) hs;have h1:=f7 (d:=d) ha;have h2:=f7 (d:=d) hz;simp[yf,mh,In,h0,h1,h2]
theorem Cj:Tryz.prog.keyType 161=true:=by kernel_rfl
theorem pw:∃fs,Tryz.prog.underlying 161=some (.struct fs):=⟨_,Tryz.underlying161⟩
theorem EJ {a b c:Value}:(Value.agg #[a,b,c]).formed Tryz.prog 161=true:=by
 obtain⟨fs,hu⟩:=pw;simp[Value.formed,hu,yf]
abbrev RK:={p:ByteArray × Int × Int // p.1.size<=maxLen/\cx p.2.1/\cx p.2.2}
def xZ (c:RK):Lit:=.string (keyBytes [.string c.1.1.data.toList,.int .i64 c.1.2.1,.int .i64 c.1.2.2])
def VP (c:RK):Value:=.agg #[c.1.1,c.1.2.1,c.1.2.2]
theorem yb (c:RK):keyOf Tryz.prog 161 (VP c)=some (xZ c):=by
 obtain⟨fs,hu⟩:=pw;obtain⟨d,hd⟩:=mW;unfold keyOf VP;rw[hu];simp only[Cj,EJ,Bool.and_self,if_true,hd,Value.cells];rw[Ci c.2.1 c.2.2.1 c.2.2.2];rfl
theorem L4 (x y:RK) (h:xZ x=xZ y):x=y:=by
 have h1:=yb x;have h2:=yb y;rw[<-h]at h2;have h3:=mV.inj h1 h2;have h4:=congrArg Array.toList (Value.agg.inj h3);simp only[List.cons.injEq,Value.string.injEq,Value.int.injEq,true_and,and_true]at h4;exact Subtype.ext (Prod.ext h4.1 (Prod.ext h4.2.1 h4.2.2))
theorem L5 (x:RK):WideAt.IsKeyLit (xZ x):=trivial
theorem yg:Tryz.prog.underlying 159=some (.map 161 4):=by kernel_rfl
abbrev aep (w:World) (b n:Nat) (f:RK->Bool):Prop:=pd Tryz.prog 161 4 xZ w b n f
def yr (rs:List aC) (k:Nat) (c:RK):Bool:=(rs.take k).any λx=>decide (cW x=c.1)
theorem Ih {rs:List aC} {k:Nat} (hk:k<rs.length) {c:RK} (hc:c.1=cW rs[k]) {F:RK->Bool} (hF:yr rs k=F) (d:RK):(if d=c then true else F d)=yr rs (k+1) d:=by
 unfold yr;rw[iV hk,<-hF];by_cases h:d=c
 ·rw[if_pos h,h,decide_eq_true hc.symm];simp
 ·rw[if_neg h,decide_eq_false (λe=>h (Subtype.ext (e.symm.trans hc.symm))),Bool.or_false];rfl
theorem AY {grp:ByteArray} {rs:List aC} {k:Nat} (hk:k<rs.length) (h:eO grp rs[k]=false):¬dJ grp rs:=λhv=>by
 have:=hv.1 _ (List.getElem_mem hk);rw[h]at this;cases this
theorem ace {rs:List aC} {k:Nat} (hk:k<rs.length) (h:((rs.take k).map cW).Nodup) (hn:((rs.take k).any λx=>decide (cW x=cW rs[k]))=false):((rs.take (k+1)).map cW).Nodup:=by
 rw[List.take_add_one,List.getElem?_eq_getElem hk,List.map_append];refine List.nodup_append.2 ⟨h,by simp,λx hx y hy=>?_⟩;obtain⟨r,hr,rfl⟩:=List.mem_map.1 hx;rw[List.any_eq_false]at hn;have:=hn r hr;simp only[Option.toList,List.map_cons,List.map_nil,List.mem_singleton]at hy;rw[hy];simpa using this
theorem AZ {grp:ByteArray} {rs:List aC} {k:Nat} (hk:k<rs.length) (h:((rs.take k).any λx=>decide (cW x=cW rs[k]))=true):¬dJ grp rs:=λhv=>by
 obtain⟨r,hr,he⟩:=List.any_eq_true.1 h;have he:=of_decide_eq_true he;have hn:=hv.2.1;have e:=(List.take_append_drop k rs).symm;rw[List.drop_eq_getElem_cons hk]at e;rw[e,List.map_append,List.map_cons]at hn;exact(List.nodup_append.1 hn).2.2 _ (List.mem_map.2 ⟨r,hr,rfl⟩) _ (List.mem_cons_self ..) he
theorem sK (grp:ByteArray) (rs:List aC) (A:Option Addr) (cc:Nat) (w:World) (hl:aj bN 4 w (·<w.heap.size) [.slice A rs.length cc] rs) (bP:∀r∈rs,r.currency.size<=140737488355328) (kC:grp.size<=140737488355328) (hm:rs.length<=100000):
 Calls Tryz.prog 79 #[grp,.slice A rs.length cc] w (ap w (.bool (decide (dJ grp rs)))):=by
 have Iz:=@run_makeMap Tryz.prog;obtain⟨R,hR⟩:∃b:Bool,decide (dJ grp rs)=b:=⟨_,rfl⟩;have HR:=H_ hR;rw[hR];clear hR;have HL:=H_ hl;have N2:=H_ bP;have fu:=H_ kC;obtain⟨n,hn⟩:=x_ (rs.length);have HN:=H_ hn;rw[hn]at hm |-;clear hl hn bP kC;go_enter Tryz.func79,Tryz.ntmps79;go_upto_region 2 with fail;have CO:=pd.made Tryz.prog 161 4 xZ w;have Fx:=ai w (.map #[] 0);have HS0:w.heap.size< (w.alloc (.map #[] 0)).heap.size:=by simp
 generalize Q5:w.alloc (Obj.map #[] 0)=W0 at*;clear Q5;go_wp2_with fail
 go_loopw [11] (λi wr=>∃k:Nat,k<=n/\i=.int .i64 (k:Int)/\Below w.heap.size w wr/\aep wr w.heap.size k (yr rs k)/\(∀j (hj:j<rs.length),j<k->eO grp rs[j]=true)/\((rs.take k).map cW).Nodup) (λi _=>n- (intOf i).toNat)
 case atStart=>exact⟨0,by omega,rfl,Fx,CO.eqv (λ_=>rfl),λj hj h=>by omega,by simp⟩
 case round=>
  obtain⟨k,hk,rfl,hb,fD,hall,N4⟩:=hrel;have HA:=H_ hall;have Vi:=H_ N4;have bP:=hb.size;clear hall N4;by_cases aU:k<n
  case pos=>
   have bq:(k:Int)< (n:Int):=by omega
   have gW:0<n:=by omega
   have bI:k<rs.length:=by rw[HN.o];exact aU
   obtain⟨b,o,es,dj,ed,bL,aS⟩:=aj.get HL.o k bI;subst dj;obtain⟨bE,eL,aH,aZ⟩:=io bL;rw[bE]at aS;have T2:=N2.o _ (List.getElem_mem bI);obtain⟨x,hx⟩:=x_ (rs[k]);rw[hx]at aS eL aH aZ T2;have HX:=H_ hx;obtain⟨rc,rk,rt,rv⟩:=x;have eZ:=H_ (show wr.rangeAt b (o+k*4) [rc,rk,rt,rv]from(aS.fr (Fr.ofBelow hb)).range);obtain⟨F,hF⟩:=x_ (yr rs k);rw[hF]at fD;have HF:=H_ hF;obtain⟨c0,sM⟩:∃c:RK,c=⟨(rc,rk,rt),by have h:rc.size<=140737488355328:=T2;simp only[maxLen];exact Nat.le_trans h (by decide),eL,aH⟩:=⟨_,rfl⟩;have vp:=H_ (show keyOf Tryz.prog 161 (.agg #[rc,rk,rt])=some (xZ c0) by have h:=yb c0;rw[sM]at h |-;exact h);have m8:=H_ (show c0.1=cW rs[k] by rw[sM,hx];rfl);have HRZ:=H_ T2;clear bL bE aS hx ed eL aH aZ T2 hF sM;go_upto_region 5 with(refine w_ 14 70 13 b (o+k*4) [rc,rk,rt,rv] eZ.o aT Tryz.underlying70 ?_);obtain⟨W6,mC,H6,dK,my,ewx⟩:=B_ wr (.cells #[rc,rk,rt,rv] 70);rw[mC];clear ewx;clear mC;have jP:=fD.below dK;have dd:=hb.trans (dK.mono hb.size);have sS:=H_ H6;clear H6 fD;obtain⟨v,hv⟩:=x_ (eO grp ⟨rc,rk,rt,rv⟩);have Y8:=Hp grp rc rk rt rv W6 HRZ.o;rw[hv]at Y8;have rD:=H_ Y8;have HV:=H_ (show eO grp rs[k]=v by rw[HX.o];exact hv);clear Y8 hv;go_wp2_with (refine W_ 16 70 7 (wr.heap.size) sS.o aT Tryz.underlying70 ?_);refine rD.o.mono ?_;rintro e w7 ⟨rfl,fC⟩;have qM:=jP.below fC;have QN:=fC.size;have gb:=dd.trans (fC.mono dd.size);have HH7:=k_ fC sS;clear jP;cases v with
   |false=>
    have hf:=H_ (show R=false by rw[<-HR.o];exact decide_eq_false (AY bI HV.o));go_wp2_with fail;go_ret;exact⟨hf.o.symm▸rfl,gb⟩
   |true=>
    go_wp2_with (refine W_ 21 70 7 (wr.heap.size) HH7.o aT Tryz.underlying70 ?_);refine(xS rc rk rt rv w7).mono ?_;rintro e w8 ⟨rfl,jX⟩;have iD:=qM.below jX;have QC:=jX.size;have kw:=gb.trans (jX.mono gb.size);have HH8:=H_ ((jX.block _ (Nat.lt_of_lt_of_le my QN)).trans HH7.o);clear qM;cases kr:F c0 with
    |true=>
     have hf:=H_ (show R=false by
      rw[<-HR.o];refine decide_eq_false (AZ bI ?_);rw[<-kr,<-HF.o];unfold yr;rw[m8.o])
     go_wp2_with (at_lookup;refine bO rfl _ _ 159 rfl 161 4 mV yg de (dU _) w.heap.size k F rfl iD (.agg #[rc,rk,rt]) c0 rfl vp.o ?_);go_ret;exact⟨hf.o.symm▸rfl,kw⟩
    |false=>
     have HNS:=H_ (show((rs.take k).any λx=>decide (cW x=cW rs[k]))=false by
      rw[<-kr,<-HF.o];unfold yr;rw[m8.o])
     go_wp2_with (first|(at_lookup;refine bO rfl _ _ 159 rfl 161 4 mV yg de (dU _) w.heap.size k F rfl iD (.agg #[rc,rk,rt]) c0 rfl vp.o ?_)|(refine W_ 26 70 7 (wr.heap.size) HH8.o aT Tryz.underlying70 ?_));refine(xS rc rk rt rv w8).mono ?_;rintro e w9 ⟨rfl,kT⟩;have qG:=iD.below kT;have Kk:=kw.trans (kT.mono kw.size);have Rr:=H_ Kk;clear iD;go_wp2_with (at_mapUpdate;refine dV rfl _ _ _ 159 rfl 161 4 mV yg de w.heap.size k F rfl qG (by simp only[maxLen];omega) L4 L5 (.agg #[rc,rk,rt]) c0 rfl true rfl vp.o ?_;intro wB nI hgB;replace nI:=H_ nI);go_roundw
     case rel=>
      refine⟨k+1,by omega,by go_num,bK Rr.o hgB (λq hq=>by injection hq with hq;omega) (Nat.le_refl _),nI.o.eqv (λd=>Ih bI m8.o HF.o d),λj hj m7=>?_,ace bI Vi.o HNS.o⟩;rcases Nat.lt_or_ge j k with h|h
      ·exact HA.o j hj h
      ·obtain rfl:j=k:=by omega
       exact HV.o
     case measure=>first|exact aQ aU|(simp only[intOf];omega)
  case neg=>
   have bq:¬(k:Int)< (n:Int):=by omega
   obtain⟨v,hv⟩:=x_ (cQ grp);have cI:=BK grp wr fu.o;rw[hv]at cI;have FK:=H_ cI;have HV:=H_ hv;have eY:=H_ (show(∀r∈rs,eO grp r=true)/\(rs.map cW).Nodup by
    refine⟨λr hr=>?_,?_⟩
    ·obtain⟨j,hj,rfl⟩:=List.getElem_of_mem hr;exact HA.o j hj (by have:=HN.o;omega)
    ·have:=Vi.o
     rwa[List.take_of_length_le (by have:=HN.o;omega)]at this)
   clear cI hv fD;go_wp2_with fail;refine FK.o.mono ?_;rintro e w7 ⟨rfl,fC⟩;have gb:=hb.trans (fC.mono hb.size);cases v with
   |false=>
    have hf:=H_ (show R=false by rw[<-HR.o];exact decide_eq_false (λh=>by have:=h.2.2.1;rw[HV.o]at this;cases this));go_wp2_with fail;go_ret;exact⟨hf.o.symm▸rfl,gb⟩
   |true=>
    by_cases rJ:n<=1000
    case pos=>
     have hf:=H_ (show R=true by rw[<-HR.o];exact decide_eq_true ⟨eY.o.1,eY.o.2,HV.o,by rw[HN.o];exact rJ⟩);have FS_:decide ((n:Int)<=1000)=true:=decide_eq_true (by omega);clear rJ;go_wp2_with fail;go_ret;exact⟨hf.o.symm▸rfl,gb⟩
    case neg=>
     have hf:=H_ (show R=false by rw[<-HR.o];exact decide_eq_false (λh=>rJ (by have:=h.2.2.2;rw[HN.o]at this;exact this)));have FS_:decide ((n:Int)<=1000)=false:=decide_eq_false (by omega);clear rJ;go_wp2_with fail;go_ret;exact⟨hf.o.symm▸rfl,gb⟩
end
section
open Go Go.RowKit
theorem O2 (rs:List aC) (A:Option Addr) (cc:Nat) (c:ByteArray) (kd tm:Int) (w:World) (hl:aj bN 4 w (·<w.heap.size) [.slice A rs.length cc] rs):Calls Tryz.prog 169 #[.slice A rs.length cc,c,kd,tm] w (ap w (.tuple #[((dq rs c kd tm).getD 0:Int),.bool (dq rs c kd tm).isSome])):=by
 obtain⟨r1,qI⟩:∃z,(dq rs c kd tm).getD 0=z:=⟨_,rfl⟩;obtain⟨r2,nJ⟩:∃z,(dq rs c kd tm).isSome=z:=⟨_,rfl⟩;have HS:=H_ (λ(v:Int) (h:dq rs c kd tm=some v)=>show r1=v/\r2=true by rw[<-qI,<-nJ,h];exact⟨rfl,rfl⟩);have Se:=H_ (λ(h:dq rs c kd tm=none)=>show r1=0/\r2=false by rw[<-qI,<-nJ,h];exact⟨rfl,rfl⟩);rw[qI,nJ];have HL:=H_ hl;have gr:=hl.cap;unfold maxLen at gr;obtain⟨n,hn⟩:=x_ (rs.length);have HN:=H_ hn;rw[hn]at gr |-;clear hl hn qI nJ;go_enter Tryz.func169,Tryz.ntmps169;go_wp2_with fail
 go_loopw [14] (λi wr=>∃k:Nat,k<=n/\i=.int .i64 (k:Int)/\Below w.heap.size w wr/\∀j (hj:j<rs.length),j<k->cW rs[j]≠(c,kd,tm)) (λi _=>n- (intOf i).toNat)
 case atStart=>exact⟨0,by omega,rfl,Below.refl _ _,λj hj h=>by omega⟩
 case round=>
  obtain⟨k,hk,rfl,hb,hall⟩:=hrel;have HA:=H_ hall;clear hall;have bP:=hb.size;by_cases aU:k<n
  case pos=>
   have bq:(k:Int)< (n:Int):=by omega
   have gW:0<n:=by omega
   have bI:k<rs.length:=by rw[HN.o];exact aU
   obtain⟨b,o,es,dj,ed,bL,aS⟩:=aj.get HL.o k bI;subst dj;obtain⟨bE,_⟩:=io bL;rw[bE]at aS;obtain⟨x,hx⟩:=x_ (rs[k]);rw[hx]at aS;have HX:=H_ hx;obtain⟨rc,rk,rt,rv⟩:=x;have eZ:=H_ (show wr.rangeAt b (o+k*4) [rc,rk,rt,rv]from(aS.fr (Fr.ofBelow hb)).range);have HE:=H_ (show cW rs[k]=(c,kd,tm)↔(rc=c/\rk=kd/\rt=tm) by rw[HX.o];unfold cW;simp only[Prod.mk.injEq]);obtain⟨q1,mF⟩:∃q:Bool,decide (rc=c)=q:=⟨_,rfl⟩;have ac4:(rc.toList==c.toList)=q1:=by rw[gI];exact mF
   obtain⟨q2,lc⟩:∃q:Bool,decide (rk=kd)=q:=⟨_,rfl⟩;obtain⟨q3,Dj⟩:∃q:Bool,decide (rt=tm)=q:=⟨_,rfl⟩;have ac9:(rk==kd)=q2:=by rw[<-lc];rfl
   have abH:(rt==tm)=q3:=by rw[<-Dj];rfl
   have HQ:=H_ (And.intro mF (And.intro lc Dj));clear bL bE aS hx ed mF lc Dj;go_upto_region 4 with(refine w_ 17 70 16 b (o+k*4) [rc,rk,rt,rv] eZ.o aT Tryz.underlying70 ?_);obtain⟨W6,mC,H6,dK,my,ewx⟩:=B_ wr (.cells #[rc,rk,rt,rv] 70);rw[mC];clear ewx;clear mC;have dd:=hb.trans (dK.mono hb.size);have sS:=H_ H6;clear H6;go_wp2_with (refine W_ 18 70 11 (wr.heap.size) sS.o aT Tryz.underlying70 ?_);refine(xS rc rk rt rv W6).mono ?_;rintro e w7 ⟨rfl,fC⟩;have gb:=dd.trans (fC.mono dd.size);have c3:=ab ((fC.block _ my).trans sS.o) 3;cases Ct:(q1&&(q2&&q3))with
   |true=>
    simp only[Bool.and_eq_true]at Ct;obtain⟨rfl,rfl,rfl⟩:=Ct;have HF:=H_ (HS.o rv (by
     have h:=D4 (c:=c) (k:=kd) (w:=tm) bI (HE.o.2 ⟨of_decide_eq_true HQ.o.1,of_decide_eq_true HQ.o.2.1,of_decide_eq_true HQ.o.2.2⟩) HA.o;rw[HX.o]at h;exact h))
    go_wp2_with fail;go_ret2;exact⟨by rw[HF.o.1,HF.o.2];rfl,gb⟩
   |false=>
    have eP:=H_ (show cW rs[k]≠(c,kd,tm)from λh=>by
     obtain⟨h1,h2,h3⟩:=HE.o.1 h;rw[<-HQ.o.1,<-HQ.o.2.1,<-HQ.o.2.2,decide_eq_true h1,decide_eq_true h2,decide_eq_true h3]at Ct;cases Ct)
    have C1:∀j (hj:j<rs.length),j<k+1->cW rs[j]≠(c,kd,tm):=λj hj m7=>by
     rcases Nat.lt_or_ge j k with h|h
     ·exact HA.o j hj h
     ·obtain rfl:j=k:=by omega
      exact eP.o
    have HA2:=H_ C1;have adj:q1=false\/(q1=true/\q2=false)\/(q1=true/\q2=true/\q3=false):=by revert Ct;cases q1<;>cases q2<;>cases q3<;>simp
    clear C1 Ct;rcases adj with rfl|⟨rfl,rfl⟩|⟨rfl,rfl,rfl⟩
    ·go_wp2_with fail;go_roundw
     case rel=>exact⟨k+1,by omega,by go_num,gb,HA2.o⟩
     case measure=>first|exact aQ aU|(simp only[intOf];omega)
    ·go_wp2_with fail;go_roundw
     case rel=>exact⟨k+1,by omega,by go_num,gb,HA2.o⟩
     case measure=>first|exact aQ aU|(simp only[intOf];omega)
    ·go_wp2_with fail;go_roundw
     case rel=>exact⟨k+1,by omega,by go_num,gb,HA2.o⟩
     case measure=>first|exact aQ aU|(simp only[intOf];omega)
  case neg=>
   have bq:¬(k:Int)< (n:Int):=by omega
   have HF:=H_ (Se.o (D5 (λj hj=>HA.o j hj (by have:=HN.o;omega))));go_wp2_with fail;go_ret2;exact⟨by rw[HF.o.1,HF.o.2];rfl,hb⟩
theorem Pj (s:ByteArray) (w:World) (hs:s.size<=140737488355328):Calls Tryz.prog 227 #[s] w (ap w (.bool (!cQ s))):=by
 obtain⟨v,hv⟩:=x_ (cQ s);have hc:=BK s w hs;rw[hv]at hc |-;have HC:=H_ hc;clear hc hv;go_enter Tryz.func227,Tryz.ntmps227;go_wp2_with fail;refine HC.o.mono ?_;rintro e w2 ⟨rfl,aH⟩;go_wp2_with fail;go_ret;exact⟨rfl,aH⟩
theorem Zz (s:ByteArray) (g:Nat) (w:World) (hc:w.cell? ⟨g,0,none⟩=some (.string s)) (hg:g<w.heap.size) (hs:s.size<=140737488355328):Calls Tryz.prog 231 #[.slice (some ⟨g,0,none⟩) 1 1,.func (.func 227) #[] #[]] w (ap w (.int .i64 (if cQ s=true then -1 else 0))):=by
 obtain⟨v,hv⟩:=x_ (cQ s);have HN:=H_ (λ(w2:World)=>Pj s w2 hs);rw[hv]at HN;obtain⟨R,hR⟩:∃z:Int,(if cQ s=true then -1 else 0)=z:=⟨_,rfl⟩;rw[hR];have HR1:=H_ (λ(h:v=true)=>show R= -1 by rw[<-hR,hv,if_pos h]);have C9:=H_ (λ(h:v=false)=>show R=0 by rw[<-hR,hv,h];rfl);have HC:=H_ hc;clear hv hc hs hR;go_enter Tryz.func231,Tryz.ntmps231;go_wp2_with fail
 go_loopw [8] (λi wr=>∃q:Int,i=.int .i64 q/\0<=q/\q<=1/\Below w.heap.size w wr/\(1<=q->v=true)) (λi _=>(1- intOf i).toNat)
 case atStart=>exact⟨0,rfl,by omega,by omega,Below.refl _ _,by omega⟩
 case round=>
  obtain⟨q,rfl,zG,mF,hb,hv⟩:=hrel;have HV:=H_ hv;have HHG:=H_ hg;have cI:=(hb.cell (p:=⟨g,0,none⟩) hg).trans HC.o;clear hv;by_cases aU:q<1
  case neg=>
   obtain rfl:v=true:=HV.o (by omega);obtain rfl:=HR1.o rfl;go_wp2_with fail;go_ret;exact⟨rfl,hb⟩
  case pos=>
   obtain rfl:q=0:=by omega
   go_wp2_with fail;refine(HN.o wr).mono ?_;rintro e w2 ⟨rfl,aH⟩;have aF:=hb.trans (aH.mono hb.size);cases v with
   |false=>
    obtain rfl:=C9.o rfl;go_wp2_with fail;go_ret;exact⟨rfl,aF⟩
   |true=>
    go_wp2_with fail;go_roundw
    case rel=>exact⟨1,rfl,by omega,by omega,aF,by first|trivial|exact λ_=>rfl⟩
    case measure=>simp only[intOf];omega
theorem Zi (s:ByteArray) (g:Nat) (w:World) (hc:w.cell? ⟨g,0,none⟩=some (.string s)) (hg:g<w.heap.size) (hs:s.size<=140737488355328):Calls Tryz.prog 226 #[.slice (some ⟨g,0,none⟩) 1 1,.func (.func 227) #[] #[]] w (ap w (.bool (!cQ s))):=by
 have h:=Zz s g w hc hg hs;obtain⟨v,hv⟩:=x_ (cQ s);rw[hv]at h |-;obtain⟨R,hR⟩:∃z:Int,(if v=true then -1 else 0)=z:=⟨_,rfl⟩;rw[hR]at h;have HI:=H_ h;have HR1:=H_ (λ(h:v=true)=>show R= -1 by rw[<-hR,if_pos h]);have C9:=H_ (λ(h:v=false)=>show R=0 by rw[<-hR,h];decide);clear h hv hc hg hs hR;go_enter Tryz.func226,Tryz.ntmps226;go_wp2_with fail;refine HI.o.mono ?_;rintro e w2 ⟨rfl,aH⟩;cases v with
 |false=>
  obtain rfl:=C9.o rfl;go_wp2_with fail;go_ret;exact⟨rfl,aH⟩
 |true=>
  obtain rfl:=HR1.o rfl;go_wp2_with fail;go_ret;exact⟨rfl,aH⟩
theorem aL.cellsA {w:World} {Q:Nat->Prop} {cs:List Value} {g:au} (h:aL w Q cs g):cs.toArray[0]? =some (.string g.currency)/\cs.toArray[1]? =some (.int .i64 g.calendar.year)/\cs.toArray[2]? =some (.int .i64 g.calendar.month)/\cs.toArray[3]? =some (.int .i64 g.calendar.periods)/\cs.toArray[11]? =some (.int .i64 g.roles.retained):=by
 obtain⟨Ac,cc,Ae,ce,e,_⟩:=h.lit;subst e;exact⟨rfl,rfl,rfl,rfl,rfl⟩
theorem Pz (gl:List Value) (grp aw:ByteArray) (rs:List aC) (A:Option Addr) (cc:Nat) (d:Int) (g:Nat) (w:World) (fZ:gl.toArray.size=21) (nj:gl.toArray[0]? =some (.string grp)) (hl:aj bN 4 w (·<w.heap.size) [.slice A rs.length cc] rs) (bP:∀r∈rs,r.currency.size<=140737488355328) (kC:grp.size<=140737488355328) (hm:rs.length<=100000)
 (hv:dJ grp rs) (eh:cQ aw=true) (hd:inD d) (hc:w.cell? ⟨g,0,none⟩=some (.string aw)) (RI:g<w.heap.size) (hs:aw.size<=140737488355328):Calls Tryz.prog 208 #[.agg gl.toArray,.slice A rs.length cc,d,.slice (some ⟨g,0,none⟩) 1 1] w (ap w (.int .i64 0)):=by
 have yO:=H_ fZ;have lF:=H_ nj;have HV:=H_ (λ(w2:World) (hb:Below w.heap.size w w2)=>show Calls Tryz.prog 79 #[grp,.slice A rs.length cc] w2 (ap w2 (.bool true)) by
  have h:=sK grp rs A cc w2 ((hl.fr (λh=>bN.fr h (Fr.ofBelow hb)) (Fr.ofBelow hb)).mono (λh=>bN.mono h (λq hq=>Nat.lt_of_lt_of_le hq hb.size)) (λq hq=>Nat.lt_of_lt_of_le hq hb.size)) bP kC hm
  rwa[decide_eq_true hv]at h)
 have HA:=H_ (λ(w2:World) (hb:Below w.heap.size w w2)=>show Calls Tryz.prog 226 #[.slice (some ⟨g,0,none⟩) 1 1,.func (.func 227) #[] #[]] w2 (ap w2 (.bool false)) by
  have h:=Zi aw g w2 ((hb.cell (p:=⟨g,0,none⟩) RI).trans hc) (Nat.lt_of_lt_of_le RI hb.size) hs
  rwa[eh]at h)
 have HD:=H_ (λ(w2:World)=>show Calls Tryz.prog 125 #[d] w2 (ap w2 (.bool true)) by
  have h:=nS d w2
  rwa[show decide (inD d)=true from decide_eq_true hd]at h)
 clear fZ nj hl bP kC hm hv eh hd hc RI hs;obtain⟨n,hn⟩:=x_ (rs.length);rw[hn]at HV |-;clear hn;go_enter Tryz.func208,Tryz.ntmps208;go_upto_region 1 with fail;obtain⟨W1,cS,H1,bC,dr,ewx⟩:=B_ w (.cells gl.toArray 29);rw[cS];clear ewx;clear cS;have c0:=(ab H1 0).trans lF.o;clear H1;go_wp2_with fail;refine(HV.o W1 bC).mono ?_;rintro e w2 ⟨rfl,aH⟩;have aF:=bC.trans (aH.mono bC.size);clear c0;go_wp2_with fail;refine(HA.o w2 aF).mono ?_;rintro e w3 ⟨rfl,aZ⟩;have aR:=aF.trans (aZ.mono aF.size);go_wp2_with fail;refine(HD.o w3).mono ?_;rintro e w4 ⟨rfl,bU⟩;have bD:=aR.trans (bU.mono aR.size);go_wp2_with fail;go_ret;exact⟨rfl,bD⟩
end
section
open Go Go.RowKit Go.Shelf
attribute [local go_sem] Oper.semAt_some
def spW (rs:List aC) (c:ByteArray) (a b:Int):List aC:=rs.filter (λr=>decide (inW c a b r))
theorem Qe {rs:List aC} {k:Nat} (hk:k<rs.length) (c:ByteArray) (a b:Int):spW (rs.take (k+1)) c a b=if inW c a b rs[k]then spW (rs.take k) c a b++[rs[k]]else spW (rs.take k) c a b:=by
 rw[List.take_add_one,List.getElem?_eq_getElem hk];unfold spW;rw[List.filter_append];split
 ·rename_i h;rw[show(some rs[k]).toList=[rs[k]]from rfl,List.filter_cons_of_pos (by simpa using h)];rfl
 ·rename_i h;rw[show(some rs[k]).toList=[rs[k]]from rfl,List.filter_cons_of_neg (by simpa using h)];simp
theorem Qf (rs:List aC) (k:Nat) (c:ByteArray) (a b:Int):(spW (rs.take k) c a b).length<=(spW rs c a b).length:=by
 have h:spW (rs.take k++rs.drop k) c a b=spW (rs.take k) c a b++spW (rs.drop k) c a b:=by simp only[spW,List.filter_append]
 rw[List.take_append_drop]at h;rw[h,List.length_append];omega
def oa (x:aC):Value:=.agg #[x.currency,x.kind,x.when_,x.value]
theorem aex (q1 q2 q3 q4:Bool):q1=false\/(q1=true/\q2=false)\/(q1=true/\q2=true/\q3=false)\/(q1=true/\q2=true/\q3=true/\q4=false)\/(q1=true/\q2=true/\q3=true/\q4=true):=by
 cases q1<;>cases q2<;>cases q3<;>cases q4<;>simp
theorem oU {F:Fence} {n:Nat} {P:Program} {ops:Array Oper} {rest:List Oper} {o:Oper} {a:Act} {w:World} {Q:Exit->Act->World->Prop} (qE:Region.wanted o (yielded ops a.tmps)=true) (ty:TypeId) (x:Operand) (ho:o.op=.load ty x)
 (g:Nat) (hx:a.eval x=.pointer (some ⟨g,0,none⟩)) (t:TypeId) (cs:Array Value) (fr:Nat × Nat) (d:TypeDesc) (hg:w.heap[g]? =some (.cells cs t fr))
 (hu:P.underlying ty=some d) (hd:(match d with| .struct _| .array _ _=>true|_=>false)=true) (hi:(P.info? ty).map (·.size)=some cs.size)
 (h:wpListIn F n P ops Q rest (a.put o.dst (.agg cs)) w):wpListIn F n P ops Q (o::rest) a w:=by
 refine wpListIn_step λK hK=>?_
 rw[if_pos qE];unfold Oper.wpIn;refine⟨by simp[Oper.about,ho],?_⟩;rw[Oper.semAt_plain F _ _ (by rw[ho];intro c hc';cases hc')];have eC:=run_loadVar_row w g t ty cs fr d hg hu hd hi;unfold execOp;simp only[ho,hx,Instr.loadAt,Instr.sureAddr,Sem.run_bind,Sem.run_pure,Result.andThen_ok];rw[eC];simp only[Result.andThen_ok];exact hK _ _ h
theorem JH (A:Option Addr) (n c:Nat) (aw:ByteArray) (a b:Int) (w:World):Calls Tryz.prog 206 #[.slice A n c,aw,a,b] w (λe w'=>e=.returned (.func (.func 225) #[] #[.pointer (some ⟨w.heap.size,0,none⟩),.pointer (some ⟨w.heap.size+1,0,none⟩),.pointer (some ⟨w.heap.size+2,0,none⟩),.pointer (some ⟨w.heap.size+3,0,none⟩)])/\w'=(((w.alloc (.cells #[.slice A n c] 31)).alloc (.cells #[aw] 9)).alloc (.cells #[a] 3)).alloc (.cells #[b] 3)):=by
 go_enter Tryz.func206,Tryz.ntmps206;go_wp2_with fail;go_ret;exact⟨rfl,rfl⟩
set_option maxRecDepth 100000 in
theorem Mj (F:Fence) (m:Nat) (hF:F.fn 225) (mD:F.round=none) (hn:1<=m) (l B1 B2 B3 B4:Nat) (Q:Nat->Prop) (rs:List aC) (A:Option Addr) (c:Nat) (aw:ByteArray) (ta tb:Int) (N0:Nat) (J Jx:List aC->World->Prop)
 (hY:∀pre x W,J pre W->pre.length<N0->YieldAt F (m- 1) Tryz.prog l #[oa x] W λe W'=>(e=.returned (.bool true)/\J (pre++[x]) W'/\Fr Q W W')\/(e=.returned (.bool false)/\Jx (pre++[x]) W'))
 (W:World) (hJ:AbidesFrom W.heap.size J) (hQ:∀q,Q q->q<W.heap.size) (yI:Q B1/\W.heap[B1]? =some (.cells #[.slice A rs.length c] 31 (0,0))) (yH:Q B2/\W.heap[B2]? =some (.cells #[aw] 9 (0,0))) (MS:Q B3/\W.heap[B3]? =some (.cells #[ta] 3 (0,0))) (MI:Q B4/\W.heap[B4]? =some (.cells #[tb] 3 (0,0)))
 (hl:aj bN 4 W Q [.slice A rs.length c] rs) (hN0:(spW rs aw ta tb).length<=N0) (h0:J [] W):
 CallsIn F m Tryz.prog 225 #[.func (.yield l) #[] #[],.pointer (some ⟨B1,0,none⟩),.pointer (some ⟨B2,0,none⟩),.pointer (some ⟨B3,0,none⟩),.pointer (some ⟨B4,0,none⟩)] W λe W'=>(∃v,e=.returned v)/\(J (spW rs aw ta tb) W'\/∃pre,Jx pre W'):=by
 have h1:1<=m:=hn;have gr:=hl.cap;unfold maxLen at gr;obtain⟨N,hN⟩:=x_ (rs.length);have HN:=H_ hN;have HL:=H_ hl;rw[hN]at yI gr;have bC:=H_ yI;have dz:=H_ yH;have eA:=H_ MS;have gw:=H_ MI;have HJA:=H_ hJ;have HQ:=H_ hQ;have Se:=H_ hN0;have c1:=ab yI.2 0;clear hl yI yH MS MI hN hJ hN0 hQ;refine callsIn_of_wp Tryz.func225 rfl hF ?_ mD;simp only[Tryz.ntmps225,List.size_toArray,List.length_cons,List.length_nil,Nat.reduceAdd,Nat.reduceSub,Array.replicate_succ,Array.replicate_zero,List.push_toArray,List.append_toArray,List.nil_append,List.cons_append]
 gi_wp2_with fail
 gi_loopw [10] (λi wr=>∃k:Nat,k<=N/\i=.int .i64 (k:Int)/\J (spW (rs.take k) aw ta tb) wr/\Fr Q W wr) (λi _=>N- (intOf i).toNat)
 case atStart=>exact⟨0,by omega,rfl,h0,Fr.refl _ _⟩
 case round=>
  obtain⟨k,hk,rfl,hJs,hkp⟩:=hrel;generalize wr=w3 at*;have HKP:=H_ hkp;have HJS:=H_ hJs;clear hkp hJs;by_cases aU:k<N
  case pos=>
   have bq:(k:Int)< (N:Int):=by omega
   have bI:k<rs.length:=by rw[HN.o];exact aU
   obtain⟨rb,ro,es,dj,ed,bL,aS⟩:=aj.get HL.o k bI;subst dj;obtain⟨bE,_⟩:=io bL;rw[bE]at aS;have oZ:=H_ (Qe bI aw ta tb);have Bp:=H_ (λ(h:inW aw ta tb rs[k])=>show(spW (rs.take k) aw ta tb).length<N0 by
    have h1:=oZ.o;rw[if_pos h]at h1;have h2:=congrArg List.length h1;rw[List.length_append,List.length_singleton]at h2;have:=Qf rs (k+1) aw ta tb;have:=Se.o;omega)
   obtain⟨x,hx⟩:=x_ (rs[k]);rw[hx]at aS oZ Bp;obtain⟨rc,rk,rt,rv⟩:=x;have eZ:=H_ (show w3.rangeAt rb (ro+k*4) [rc,rk,rt,rv]from(aS.fr HKP.o).range);have zX:=H_ (λ(w4:World) (hg:w3.grownBy w4 none)=>show Fr Q W w4 from HKP.o.grown hg HQ.o (λq e=>by cases e));have HJ4:=H_ (λ(w4:World) (hg:w3.grownBy w4 none)=>HJA.o _ w3 w4 none HJS.o hg (λr e=>by cases e));have HYW:=H_ (λ(w6:World) (hg:w3.grownBy w6 none) (eX:(spW (rs.take k) aw ta tb).length<N0)=>show YieldAt F (m- 1) Tryz.prog l #[.agg #[rc,rk,rt,rv]] w6 (λe W'=>(e=.returned (.bool true)/\J (spW (rs.take k) aw ta tb++[⟨rc,rk,rt,rv⟩]) W'/\Fr Q w6 W')\/(e=.returned (.bool false)/\Jx (spW (rs.take k) aw ta tb++[⟨rc,rk,rt,rv⟩]) W'))from hY _ ⟨rc,rk,rt,rv⟩ w6 (HJ4.o w6 hg) eX);obtain⟨q1,mF⟩:∃q:Bool,decide (rc=aw)=q:=⟨_,rfl⟩;have ac4:(rc.toList==aw.toList)=q1:=by rw[gI];exact mF
   obtain⟨q2,lc⟩:∃q:Bool,decide (rk=1)=q:=⟨_,rfl⟩;have ac9:(rk==1)=q2:=by rw[<-lc];rfl
   obtain⟨q3,abH⟩:∃q:Bool,decide (rt≥ta)=q:=⟨_,rfl⟩;obtain⟨q4,adY⟩:∃q:Bool,decide (rt<=tb)=q:=⟨_,rfl⟩;have lL:=H_ (show inW aw ta tb ⟨rc,rk,rt,rv⟩↔(q1=true/\q2=true/\q3=true/\q4=true) by
    rw[<-mF,<-lc,<-abH,<-adY];simp only[decide_eq_true_eq];exact Iff.rfl)
   have TN:0<N:=by omega
   clear aS bL bE hx ed mF lc;have abF:=aex q1 q2 q3 q4;rcases abF with rfl|⟨rfl,rfl⟩|⟨rfl,rfl,rfl⟩|⟨rfl,rfl,rfl,rfl⟩|⟨rfl,rfl,rfl,rfl⟩
   ·have J5:=H_ (show spW (rs.take (k+1)) aw ta tb=spW (rs.take k) aw ta tb by rw[oZ.o,if_neg (λh=>by have:=lL.o.1 h;simp at this)])
    gi_wp2_with (first|(show wpListIn _ _ _ _ _ (Oper.mk (some 13) _ _ _ _ _::_) _ _;refine n7 rfl 70 (.tmp 12) rfl rb (ro+k*4) rfl [.string rc,.int .i64 rk,.int .i64 rt,.int .i64 rv] _ eZ.o Tryz.underlying70 rfl aT ?_)|(show wpListIn _ _ _ _ _ (Oper.mk none (Op.store _ (Operand.tmp 7) _) _ _ _ _::_) _ _;refine cX rfl 70 (.tmp 7) (.tmp 13) rfl rfl w3 #[.string ⟨#[]⟩,(),(),()] 70 #[rc,rk,rt,rv] rfl rfl rfl aT rfl (by simp[Value.oneCell']) ?_;intro w4 H4 iX Bo;have f0:=ab H4 0;have f1:=ab H4 1;have f2:=ab H4 2;have e2:=ab (((zX.o w4 iX).block _ dz.o.1).trans dz.o.2) 0;have e3:=ab (((zX.o w4 iX).block _ eA.o.1).trans eA.o.2) 0;have e4:=ab (((zX.o w4 iX).block _ gw.o.1).trans gw.o.2) 0)|(with_reducible refine And.intro (λf hf=>by cases hf) ?_))
    go_roundw
    case rel=>exact⟨k+1,by omega,by go_num,by rw[J5.o];exact HJ4.o _ iX,zX.o _ iX⟩
    case measure=>first|exact aQ aU|(simp only[intOf];omega)
   ·have J5:=H_ (show spW (rs.take (k+1)) aw ta tb=spW (rs.take k) aw ta tb by rw[oZ.o,if_neg (λh=>by have:=lL.o.1 h;simp at this)])
    gi_wp2_with (first|(show wpListIn _ _ _ _ _ (Oper.mk (some 13) _ _ _ _ _::_) _ _;refine n7 rfl 70 (.tmp 12) rfl rb (ro+k*4) rfl [.string rc,.int .i64 rk,.int .i64 rt,.int .i64 rv] _ eZ.o Tryz.underlying70 rfl aT ?_)|(show wpListIn _ _ _ _ _ (Oper.mk none (Op.store _ (Operand.tmp 7) _) _ _ _ _::_) _ _;refine cX rfl 70 (.tmp 7) (.tmp 13) rfl rfl w3 #[.string ⟨#[]⟩,(),(),()] 70 #[rc,rk,rt,rv] rfl rfl rfl aT rfl (by simp[Value.oneCell']) ?_;intro w4 H4 iX Bo;have f0:=ab H4 0;have f1:=ab H4 1;have f2:=ab H4 2;have e2:=ab (((zX.o w4 iX).block _ dz.o.1).trans dz.o.2) 0;have e3:=ab (((zX.o w4 iX).block _ eA.o.1).trans eA.o.2) 0;have e4:=ab (((zX.o w4 iX).block _ gw.o.1).trans gw.o.2) 0)|(with_reducible refine And.intro (λf hf=>by cases hf) ?_))
    go_roundw
    case rel=>exact⟨k+1,by omega,by go_num,by rw[J5.o];exact HJ4.o _ iX,zX.o _ iX⟩
    case measure=>first|exact aQ aU|(simp only[intOf];omega)
   ·have J5:=H_ (show spW (rs.take (k+1)) aw ta tb=spW (rs.take k) aw ta tb by rw[oZ.o,if_neg (λh=>by have:=lL.o.1 h;simp at this)])
    gi_wp2_with (first|(show wpListIn _ _ _ _ _ (Oper.mk (some 13) _ _ _ _ _::_) _ _;refine n7 rfl 70 (.tmp 12) rfl rb (ro+k*4) rfl [.string rc,.int .i64 rk,.int .i64 rt,.int .i64 rv] _ eZ.o Tryz.underlying70 rfl aT ?_)|(show wpListIn _ _ _ _ _ (Oper.mk none (Op.store _ (Operand.tmp 7) _) _ _ _ _::_) _ _;refine cX rfl 70 (.tmp 7) (.tmp 13) rfl rfl w3 #[.string ⟨#[]⟩,(),(),()] 70 #[rc,rk,rt,rv] rfl rfl rfl aT rfl (by simp[Value.oneCell']) ?_;intro w4 H4 iX Bo;have f0:=ab H4 0;have f1:=ab H4 1;have f2:=ab H4 2;have e2:=ab (((zX.o w4 iX).block _ dz.o.1).trans dz.o.2) 0;have e3:=ab (((zX.o w4 iX).block _ eA.o.1).trans eA.o.2) 0;have e4:=ab (((zX.o w4 iX).block _ gw.o.1).trans gw.o.2) 0)|(with_reducible refine And.intro (λf hf=>by cases hf) ?_))
    go_roundw
    case rel=>exact⟨k+1,by omega,by go_num,by rw[J5.o];exact HJ4.o _ iX,zX.o _ iX⟩
    case measure=>first|exact aQ aU|(simp only[intOf];omega)
   ·have J5:=H_ (show spW (rs.take (k+1)) aw ta tb=spW (rs.take k) aw ta tb by rw[oZ.o,if_neg (λh=>by have:=lL.o.1 h;simp at this)])
    gi_wp2_with (first|(show wpListIn _ _ _ _ _ (Oper.mk (some 13) _ _ _ _ _::_) _ _;refine n7 rfl 70 (.tmp 12) rfl rb (ro+k*4) rfl [.string rc,.int .i64 rk,.int .i64 rt,.int .i64 rv] _ eZ.o Tryz.underlying70 rfl aT ?_)|(show wpListIn _ _ _ _ _ (Oper.mk none (Op.store _ (Operand.tmp 7) _) _ _ _ _::_) _ _;refine cX rfl 70 (.tmp 7) (.tmp 13) rfl rfl w3 #[.string ⟨#[]⟩,(),(),()] 70 #[rc,rk,rt,rv] rfl rfl rfl aT rfl (by simp[Value.oneCell']) ?_;intro w4 H4 iX Bo;have f0:=ab H4 0;have f1:=ab H4 1;have f2:=ab H4 2;have e2:=ab (((zX.o w4 iX).block _ dz.o.1).trans dz.o.2) 0;have e3:=ab (((zX.o w4 iX).block _ eA.o.1).trans eA.o.2) 0;have e4:=ab (((zX.o w4 iX).block _ gw.o.1).trans gw.o.2) 0)|(with_reducible refine And.intro (λf hf=>by cases hf) ?_))
    go_roundw
    case rel=>exact⟨k+1,by omega,by go_num,by rw[J5.o];exact HJ4.o _ iX,zX.o _ iX⟩
    case measure=>first|exact aQ aU|(simp only[intOf];omega)
   ·have J5:=H_ (show spW (rs.take (k+1)) aw ta tb=spW (rs.take k) aw ta tb++[⟨rc,rk,rt,rv⟩] by rw[oZ.o,if_pos (lL.o.2 ⟨rfl,rfl,rfl,rfl⟩)]);have adm:=H_ (Bp.o (lL.o.2 ⟨rfl,rfl,rfl,rfl⟩));clear lL Bp oZ
    gi_wp2_with (first|(show wpListIn _ _ _ _ _ (Oper.mk (some 13) _ _ _ _ _::_) _ _;refine n7 rfl 70 (.tmp 12) rfl rb (ro+k*4) rfl [.string rc,.int .i64 rk,.int .i64 rt,.int .i64 rv] _ eZ.o Tryz.underlying70 rfl aT ?_)|(show wpListIn _ _ _ _ _ (Oper.mk none (Op.store _ (Operand.tmp 7) _) _ _ _ _::_) _ _;refine cX rfl 70 (.tmp 7) (.tmp 13) rfl rfl w3 #[.string ⟨#[]⟩,(),(),()] 70 #[rc,rk,rt,rv] rfl rfl rfl aT rfl (by simp[Value.oneCell']) ?_;intro w4 H4 iX Bo;have f0:=ab H4 0;have f1:=ab H4 1;have f2:=ab H4 2;have e2:=ab (((zX.o w4 iX).block _ dz.o.1).trans dz.o.2) 0;have e3:=ab (((zX.o w4 iX).block _ eA.o.1).trans eA.o.2) 0;have e4:=ab (((zX.o w4 iX).block _ gw.o.1).trans gw.o.2) 0;obtain⟨fn,tmps,assign,body,hyr,hR⟩:=HYW.o w4 iX adm.o)|(show wpListIn _ _ _ _ _ (Oper.mk (some 37) _ _ _ _ _::_) _ _;refine oU rfl 70 (.tmp 7) rfl w3.heap.size rfl _ _ _ _ H4 Tryz.underlying70 rfl aT ?_))
    refine hR.mono ?_;rintro e w7 (⟨rfl,hJ7,hk7⟩|⟨rfl,hJ7⟩)
    rotate_left
    ·have HJ7:=H_ hJ7;clear hJ7 hR hyr f0 f1 f2 e2 e3 e4 H4 iX Bo
     gi_wp2_with fail
     refine bodyPost_ret (results_none rfl _ _ _) rfl ?_;exact⟨⟨_,rfl⟩,.inr ⟨_,HJ7.o⟩⟩
    ·have HJ7:=H_ hJ7;have Mo:=H_ hk7;have adD:=H_ iX;clear hJ7 hk7 hR hyr f0 f1 f2 e2 e3 e4 H4 iX Bo
     gi_wp2_with fail
     go_roundw
     case rel=>exact⟨k+1,by omega,by go_num,by rw[J5.o];exact HJ7.o,(zX.o _ adD.o).trans Mo.o⟩
     case measure=>first|exact aQ aU|(simp only[intOf];omega)
  case neg=>
   have bq:¬(k:Int)< (N:Int):=by omega
   have HJ9:=H_ (show J (spW rs aw ta tb) w3 by
    have:=HJS.o
    rwa[List.take_of_length_le (by have:=HN.o;omega)]at this)
   gi_wp2_with fail
   go_end0
   exact⟨⟨_,rfl⟩,.inl HJ9.o⟩
theorem tp (F:Fence) (m:Nat) (hF:F.fn 225) (mD:F.round=none) (hn:1<=m) (B1 B2 B3 B4:Nat) (Q:Nat->Prop) (rs:List aC) (A:Option Addr) (c:Nat) (aw:ByteArray) (ta tb:Int) (N0:Nat) (w:World)
 (hQ:∀q,Q q->q<w.heap.size) (yI:Q B1/\w.heap[B1]? =some (.cells #[.slice A rs.length c] 31 (0,0))) (yH:Q B2/\w.heap[B2]? =some (.cells #[aw] 9 (0,0))) (MS:Q B3/\w.heap[B3]? =some (.cells #[ta] 3 (0,0))) (MI:Q B4/\w.heap[B4]? =some (.cells #[tb] 3 (0,0)))
 (hl:aj bN 4 w Q [.slice A rs.length c] rs) (hN0:(spW rs aw ta tb).length<=N0):
 SeqStopsK F m Tryz.prog 225 #[.pointer (some ⟨B1,0,none⟩),.pointer (some ⟨B2,0,none⟩),.pointer (some ⟨B3,0,none⟩),.pointer (some ⟨B4,0,none⟩)] (λx=>#[oa x]) (Fr Q) (λys=>ys=spW rs aw ta tb) (λ_=>True) N0 w:=λl J Jx W hW hJ hJx hY h0=>by
 have hs:=hW.size;have Z6:Fr Q w W:=(Fr.ofBelow hW).mono (λq hq=>hQ q hq);refine(Mj F m hF mD hn l B1 B2 B3 B4 Q rs A c aw ta tb N0 J Jx (λpre x W1 h1 h2=>hY pre x W1 h1 h2) W hJ (λq h=>by have:=hQ q h;omega) ⟨yI.1,(Z6.block _ yI.1).trans yI.2⟩ ⟨yH.1,(Z6.block _ yH.1).trans yH.2⟩ ⟨MS.1,(Z6.block _ MS.1).trans MS.2⟩ ⟨MI.1,(Z6.block _ MI.1).trans MI.2⟩
  (hl.fr (λh=>bN.fr h Z6) Z6) hN0 h0).mono ?_
 rintro e W' ⟨hv,h|⟨pre,h⟩⟩
 ·exact⟨hv,.inl ⟨_,rfl,h⟩⟩
 ·exact⟨hv,.inr ⟨pre,trivial,h⟩⟩
end
section
open Go Go.RowKit
def ab9:Option aC->List Value
 |none=>[.string ⟨#[]⟩,.int .i64 0,.int .i64 0,.int .i64 0,.bool false]
 |some r=>[.string r.currency,.int .i64 r.kind,.int .i64 r.when_,.int .i64 r.value,.bool true]
def vG (L:Nat) (o:Option aC) (w:World):Prop:=w.heap[L]? =some (.cells (ab9 o).toArray 245 (0,0))
theorem acj (L:Nat) (o:Option aC) (rc:ByteArray) (rk rt rv:Int) (w:World) (h:vG L o w):Calls Tryz.prog 209 #[.pointer (some ⟨L,0,none⟩),.agg #[rc,rk,rt,rv]] w (λe w'=>(∃v,e=.returned v)/\vG L (if kJ o ⟨rc,rk,rt,rv⟩=true then some ⟨rc,rk,rt,rv⟩else o) w'/\Fr (λq=>q<w.heap.size/\q≠L) w w'):=by
 have HH:=H_ h;have hLt:L<w.heap.size:=ag h;obtain⟨R,hR⟩:=x_ ((if kJ o ⟨rc,rk,rt,rv⟩=true then some ⟨rc,rk,rt,rv⟩else o));have HR:=H_ hR;rw[hR];clear h hR;go_enter Tryz.func209,Tryz.ntmps209;go_upto_region 1 with fail;obtain⟨W1,cS,H1,bC,dr,ewx⟩:=B_ w (.cells #[rc,rk,rt,rv] 70);rw[cS];clear ewx;clear cS;have kU:=H_ (show Fr (λq=>q<w.heap.size/\q≠L) w W1 from(Fr.ofBelow bC).mono (λq hq=>hq.1));have HR1:=H_ H1;have r2:=ab H1 2;have hLs:L≠w.heap.size:=by omega
 cases o with
 |none=>
  have IE:=H_ (show W1.heap[L]? =some (.cells #[.string ⟨#[]⟩,(),(),(),false] 245 (0,0))from(bC.block _ hLt).trans HH.o);have sU:=H_ (show R=some ⟨rc,rk,rt,rv⟩ by rw[<-HR.o];rfl);have l4:=ab IE.o 4;have l2:=ab IE.o 2;clear H1;go_quiet (fail);go_wp2_with (first|(show wpList _ _ _ (Oper.mk none (Op.store _ (Operand.tmp 23) _) _ _ _ _::_) _ _;go_loud (refine lC rfl 70 (.tmp 23) (.tmp 21) rfl rfl (W1.drewN nq) L 0 [rc,rk,rt,rv] [.string ⟨#[]⟩,.int .i64 0,.int .i64 0,.int .i64 0,.bool false] [.string rc,.int .i64 rk,.int .i64 rt,.int .i64 rv,.bool false] 245 rfl rfl IE.o rfl (by simp) aT (by simp[Value.oneCell']) ?_);intro W3 H3 F3;have k4:=ab H3 4;have z4:=bB H3 4;clear l2 l4 r2)|(refine W_ 21 70 3 (w.heap.size) HR1.o aT Tryz.underlying70 ?_));have IH:=H_ (show Fr (λq=>q<w.heap.size/\q≠L) w (W3.setCell ⟨L,4,none⟩ (.bool true))from((kU.o.drewN nq).trans (F3.mono (λq hq=>hq.2))).setCell (λh=>h.2 rfl) _);have Z5:=H_ (show(W3.setCell ⟨L,4,none⟩ (.bool true)).heap[L]? =some (.cells #[rc,rk,rt,rv,true] 245 (0,0)) by have h:=aG H3 4 (.bool true);simpa using h);clear H3 F3 k4 z4
  go_end0
  exact⟨⟨_,rfl⟩,by rw[sU.o];exact Z5.o,IH.o⟩
 |some s=>
  obtain⟨sc,sk,st,sv⟩:=s;have IE:=H_ (show W1.heap[L]? =some (.cells #[sc,sk,st,sv,true] 245 (0,0))from(bC.block _ hLt).trans HH.o);have l4:=ab IE.o 4;have l2:=ab IE.o 2;by_cases aU:st<rt
  case pos=>
   have sU:=H_ (show R=some ⟨rc,rk,rt,rv⟩ by rw[<-HR.o];unfold kJ;rw[if_pos (decide_eq_true aU)]);have hd:decide (rt>st)=true:=decide_eq_true aU;clear H1 aU;go_quiet (fail);go_wp2_with (first|(show wpList _ _ _ (Oper.mk none (Op.store _ (Operand.tmp 23) _) _ _ _ _::_) _ _;go_loud (refine lC rfl 70 (.tmp 23) (.tmp 21) rfl rfl (W1.drewN nq) L 0 [rc,rk,rt,rv] [.string sc,.int .i64 sk,.int .i64 st,.int .i64 sv,.bool true] [.string rc,.int .i64 rk,.int .i64 rt,.int .i64 rv,.bool true] 245 rfl rfl IE.o rfl (by simp) aT (by simp[Value.oneCell']) ?_);intro W3 H3 F3;have k4:=ab H3 4;have z4:=bB H3 4;clear l2 l4 r2)|(refine W_ 21 70 3 (w.heap.size) HR1.o aT Tryz.underlying70 ?_));have IH:=H_ (show Fr (λq=>q<w.heap.size/\q≠L) w (W3.setCell ⟨L,4,none⟩ (.bool true))from((kU.o.drewN nq).trans (F3.mono (λq hq=>hq.2))).setCell (λh=>h.2 rfl) _);have Z5:=H_ (show(W3.setCell ⟨L,4,none⟩ (.bool true)).heap[L]? =some (.cells #[rc,rk,rt,rv,true] 245 (0,0)) by have h:=aG H3 4 (.bool true);simpa using h);clear H3 F3 k4 z4
   go_end0
   exact⟨⟨_,rfl⟩,by rw[sU.o];exact Z5.o,IH.o⟩
  case neg=>
   have sU:=H_ (show R=some ⟨sc,sk,st,sv⟩ by rw[<-HR.o];unfold kJ;rw[if_neg (by simpa using aU)]);have hd:decide (rt>st)=false:=decide_eq_false (by omega);clear H1 aU;go_quiet (fail);clear l2 l4 r2;go_wp2_with fail
   go_end0
   exact⟨⟨_,rfl⟩,by rw[sU.o];exact IE.o,kU.o.drewN nq⟩
end
section
open Go Go.RowKit Go.Shelf
attribute [local go_sem] Oper.semAt_some
def Jj (o:Option aC) (r:aC):Option aC:=if kJ o r=true then some r else o
theorem Il (rs:List aC) (c:ByteArray) (a b:Int):og rs c a b=(spW rs c a b).foldl Jj none:=by
 have h:∀(rs:List aC) (o:Option aC),rs.foldl (Ie c a b) o=(spW rs c a b).foldl Jj o:=by
  intro rs
  induction rs with
  |nil=>intro o;rfl
  |cons r rs ih=>
   intro o;rw[List.foldl_cons,ih];unfold spW;by_cases hw:inW c a b r
   ·rw[List.filter_cons_of_pos (by simpa using hw),List.foldl_cons]
    congr 1
    unfold Ie Jj;by_cases hl:kJ o r=true
    ·rw[if_pos ⟨hw,hl⟩,if_pos hl]
    ·rw[if_neg (λh=>hl h.2),if_neg hl]
   ·rw[List.filter_cons_of_neg (by simpa using hw)]
    congr 1
    unfold Ie;rw[if_neg (λh=>hw h.1)]
 exact h rs none
def mY (rs:List aC) (grp aw:ByteArray) (d:Int):aC × Int:=if aw=grp then(⟨aw,1,d,1000000⟩,0)else match og rs aw (d- 40) d with
 |some r=>(r,0)
 |none=>({},13)
def WhI (n₀ L:Nat) (w0:World) (pre:List aC) (W:World):Prop:=vG L (pre.foldl Jj none) W/\Below n₀ w0 W
theorem TC {n₀ L B:Nat} {w0:World} (hn:n₀<=w0.heap.size) (hB:n₀<=B):OwnFrom B (WhI n₀ L w0):=λpre W W' row hs hg hr=>by
 refine⟨?_,hs.2.grown hg (Nat.le_trans hn hs.2.size) (λk e=>Nat.le_trans hB (hr k e).1)⟩;have h:=hs.1;refine(hg.block L (ag h) (λe=>?_)).trans h;obtain⟨_,o,ho,hc⟩:=hr L e.symm;have h2:W.heap[L]? =some o:=ho;rw[show W.heap[L]? =_ from h]at h2;cases h2;cases hc
theorem pN (W:World) (a b c d:Obj):((((W.alloc a).alloc b).alloc c).alloc d).heap[W.heap.size]? =some a/\((((W.alloc a).alloc b).alloc c).alloc d).heap[W.heap.size+1]? =some b/\((((W.alloc a).alloc b).alloc c).alloc d).heap[W.heap.size+2]? =some c/\((((W.alloc a).alloc b).alloc c).alloc d).heap[W.heap.size+3]? =some d/\((((W.alloc a).alloc b).alloc c).alloc d).heap.size=W.heap.size+4/\Below W.heap.size W ((((W.alloc a).alloc b).alloc c).alloc d):=by
 have s1:(W.alloc a).heap.size=W.heap.size+1:=by simp
 have s2:((W.alloc a).alloc b).heap.size=W.heap.size+2:=by simp
 have s3:(((W.alloc a).alloc b).alloc c).heap.size=W.heap.size+3:=by simp
 have h1:=heap_alloc_new W a;have h2:=heap_alloc_new (W.alloc a) b;have h3:=heap_alloc_new ((W.alloc a).alloc b) c;have h4:=heap_alloc_new (((W.alloc a).alloc b).alloc c) d;rw[s1]at h2;rw[s2]at h3;rw[s3]at h4;exact⟨al (al (al h1 b) c) d,al (al h2 c) d,al h3 d,h4,by simp,(((ai W a).alloc (by simp) b).alloc (by simp;omega) c).alloc (by simp;omega) d⟩
theorem vM {B:Nat} {w w':World} (h:Below B w w') {l:Nat} (hl:B<=l) (o:Obj):Below B w (w'.putObj l o):=
 (Fr.trans (Fr.ofBelow h) (⟨rfl,rfl,rfl,by simp,λk hk=>World.putObj_heap_other (by omega)⟩:Fr (·<B) w' (w'.putObj l o))).below
theorem TD (gl:List Value) (grp aw:ByteArray) (rs:List aC) (A:Option Addr) (cc:Nat) (d:Int) (w:World) (fZ:gl.toArray.size=21) (nj:gl.toArray[0]? =some (.string grp)) (hl:aj bN 4 w (·<w.heap.size) [.slice A rs.length cc] rs) (bP:∀r∈rs,r.currency.size<=140737488355328) (kC:grp.size<=140737488355328) (hm:rs.length<=100000) (hv:dJ grp rs) (eh:cQ aw=true) (hd:inD d):
 Calls Tryz.prog 170 #[.agg gl.toArray,.slice A rs.length cc,aw,d] w (ap w (.tuple #[.agg (fN (mY rs grp aw d).1).toArray,.int .i64 (mY rs grp aw d).2])):=by
 obtain⟨R,hR⟩:=x_ (mY rs grp aw d);have HR:=H_ hR;rw[hR];have ft:aw.size<=140737488355328:=by
  unfold cQ at eh;simp only[Bool.and_eq_true,beq_iff_eq]at eh;omega
 have lg:=H_ (λ(w2:World) (hb:Below w.heap.size w w2) (g:Nat) (hg:w2.cell? ⟨g,0,none⟩=some (.string aw)) (aU:g<w2.heap.size)=>Pz gl grp aw rs A cc d g w2 fZ nj ((hl.fr (λh=>bN.fr h (Fr.ofBelow hb)) (Fr.ofBelow hb)).mono (λh=>bN.mono h (λq hq=>Nat.lt_of_lt_of_le hq hb.size)) (λq hq=>Nat.lt_of_lt_of_le hq hb.size)) bP kC hm hv eh hd hg aU ft);have fu:=H_ fZ;have lF:=H_ nj;have HL:=H_ hl;obtain⟨Fq,Re⟩:=hd;obtain⟨n,hn⟩:=x_ (rs.length);have HN:=H_ hn;rw[hn]at lg hm |-;clear fZ nj hl bP kC hv eh hR ft hn;refine callsIn_wide.1 (callsIn_of_wp_marks (n:=6) Tryz.func170 rfl trivial (wpIn_wide.2 ?_) rfl);simp only[Tryz.ntmps170,List.size_toArray,List.length_cons,List.length_nil,Nat.reduceAdd,Nat.reduceSub,Array.replicate_succ,Array.replicate_zero,List.push_toArray,List.append_toArray,List.nil_append,List.cons_append];go_upto_region 1 with fail;obtain⟨W,hW,H,HB,HS,ewx⟩:=B_ w (.cells gl.toArray 29);rw[hW];clear ewx;obtain⟨W2,fR,H2,dz,jK,ewx⟩:=B_ W (.cells #[.string ⟨#[]⟩,(),(),()] 70);rw[fR];replace H:=(dz.block _ (ag H)).trans H;clear ewx;clear fR;have eW:W.heap.size=w.heap.size+1:=by rw[<-hW];simp
 rw[eW]at H2;clear hW;have aH:=HB.trans (dz.mono HB.size);have dW:=dz.size;have lV:=ag H2;have nf:w.heap.size<W2.heap.size:=by omega
 have HH:=H_ H;have HZ:=H_ H2;have EW:=H_ eW;clear H H2 eW;go_wp2_with (refine W_ 13 29 4 (w.heap.size) HH.o (by rw[ay];exact congrArg some fu.o.symm) Tryz.underlying29 ?_);refine(lg.o _ (aH.trans ((ai W2 _).mono aH.size)) W2.heap.size (ab (heap_alloc_new W2 _) 0) (ag (heap_alloc_new W2 _))).mono ?_;rintro e w5 ⟨rfl,cP⟩;have Nf:Below W2.heap.size W2 w5:=(ai W2 _).trans (cP.mono (by simp));have fG:=H_ (aH.trans (Nf.mono aH.size));have QZ:=k_ Nf HH;have vv:=k_ Nf HZ;have My:=H_ (show w.heap.size+2<=w5.heap.size by have:=Nf.size;omega);clear cP Nf aH dW HB dz HS jK;obtain⟨q,hq⟩:=x_ (decide (aw=grp));have zT:(aw.toList==grp.toList)=q:=by rw[gI];exact hq
 have HQ:=H_ hq;have c0:=(ab QZ.o 0).trans lF.o;clear hq;cases q with
 |true=>
  have hf:=H_ (show R=(⟨aw,1,d,1000000⟩,0) by rw[<-HR.o];unfold mY;rw[if_pos (of_decide_eq_true HQ.o)]);go_wp2_with (show wpList _ _ _ (Oper.mk none (Op.store _ (Operand.tmp 8) _) _ _ _ _::_) _ _;go_loud (refine wpList_store_row rfl 70 (.tmp 8) (.tmp 29) rfl (w.heap.size+1) #[aw,(1:Int),d,(1000000:Int)] rfl rfl 70 #[.string ⟨#[]⟩,(),(),()] vv.o aT rfl (by simp[Value.oneCell']) ?_));exact⟨_,aA rfl _ _ (w.heap.size+1) 70 #[aw,(1:Int),d,(1000000:Int)] (0,0) _ rfl (aB vv.o _) Tryz.underlying70 rfl aT _ rfl,by rw[hf.o];rfl,aD fG.o (by omega) _⟩
 |false=>
  have eP:=H_ (of_decide_eq_false HQ.o);go_upto_region 7 with fail;have dK:=ai w5 (.cells #[.string ⟨#[]⟩,(),(),(),false] 245);have H6:=heap_alloc_new w5 (.cells #[.string ⟨#[]⟩,(),(),(),false] 245);generalize mC:w5.alloc (Obj.cells #[.string ⟨#[]⟩,(),(),(),false] 245)=W6 at*;have MV:W6.heap.size=w5.heap.size+1:=by rw[<-mC];simp
  clear mC c0;have my:=H_ MV;have Mq:=H_ (show vG w5.heap.size none W6 from H6);have aaL:=H_ dK;clear H6 dK MV;go_wp2_with fail;refine(JH A n cc aw (d- 40) d W6).mono ?_;rintro e w7 ⟨rfl,rfl⟩;obtain⟨E1,E2,E3,E4,E5,E6⟩:=pN W6 (.cells #[.slice A n cc] 31) (.cells #[aw] 9) (.cells #[(d- 40:Int)] 3) (.cells #[d] 3);generalize (((W6.alloc (.cells #[.slice A n cc] 31)).alloc (.cells #[aw] 9)).alloc (.cells #[(d- 40:Int)] 3)).alloc (.cells #[d] 3)=W7 at*;have HE1:=H_ E1;have YN:=H_ E2;have zA:=H_ E3;have Fo:=H_ E4;have rW:=H_ (show W7.heap.size=w5.heap.size+5 by rw[E5,my.o]);have yK:=H_ (show Below w5.heap.size w5 W7 from aaL.o.trans (E6.mono aaL.o.size));have TT:=H_ (show vG w5.heap.size none W7 from(E6.block _ (by have:=my.o;omega)).trans Mq.o);have RR:=t_ fG yK.o;clear E1 E2 E3 E4 E5 E6;go_wp2_with fail;have hq7:∀q,q<w.heap.size->q<W7.heap.size/\q≠w5.heap.size:=λq hq=>by have:=rW.o;have:=My.o;omega
  have Xs:Fr (λq=>q<w.heap.size) w W7:=Fr.ofBelow RR.o;have HSQ:=H_ (tp Fence.wide 5 trivial rfl (by omega) W6.heap.size (W6.heap.size+1) (W6.heap.size+2) (W6.heap.size+3) (λq=>q<W7.heap.size/\q≠w5.heap.size) rs A cc aw (d- 40) d 100000 W7 (λq hq=>hq.1) ⟨by have:=rW.o;have:=my.o;omega,by rw[HN.o];exact HE1.o⟩ ⟨by have:=rW.o;have:=my.o;omega,YN.o⟩ ⟨by have:=rW.o;have:=my.o;omega,zA.o⟩ ⟨by have:=rW.o;have:=my.o;omega,Fo.o⟩
   ((HL.o.fr (λh=>bN.fr h Xs) Xs).mono (λh=>bN.mono h hq7) hq7) (by
    have h1:(spW rs aw (d- 40) d).length<=rs.length:=List.length_filter_le _ _;have:=HN.o;omega))
  clear hq7 Xs;refine wpIn_wide.1 (zy (n:=6) rfl (by omega) (gf:=225) (lb:=#[.pointer (some ⟨W6.heap.size,0,none⟩),.pointer (some ⟨W6.heap.size+1,0,none⟩),.pointer (some ⟨W6.heap.size+2,0,none⟩),.pointer (some ⟨W6.heap.size+3,0,none⟩)]) rfl trivial (enters_of Tryz.func225 K_ rfl) HSQ.o (λh k=>h.trans k) (λW l o o' hl ho hc hw=>⟨rfl,rfl,rfl,by simp,λk hk=>World.putObj_heap_other (by omega)⟩) (λW W' hW hg=>(Fr.refl _ W).grown hg (λk hk=>by omega) (λk e=>by cases e)) (Below.refl _ _) (λ_=>rfl)
   (WhI w5.heap.size w5.heap.size w5) (TC (Nat.le_refl _) (by have:=rW.o;omega)) ⟨TT.o,yK.o⟩ (λx=>(fN x).toArray) 70 (λx b=>{tmps:=#[.agg gl.toArray,.slice A n cc,.string aw,.int .i64 d,.pointer (some ⟨w.heap.size,0,none⟩),undef,undef,undef,.pointer (some ⟨w.heap.size+1,0,none⟩),.int .i64 0,.int .i64 0,.pointer (some ⟨w5.heap.size,0,none⟩),.pointer (some ⟨b,0,none⟩),.agg gl.toArray,.slice A n cc,.int .i64 d,.string aw,.slice (some ⟨W2.heap.size,0,none⟩) 1 1,.int .i64 0,.int .i64 0,.bool false,undef,undef,.string aw,.pointer (some ⟨w.heap.size,0,none⟩),.string grp,.bool false,undef,undef,undef,.slice A n cc,.string aw,.int .i64 d,.int .i64 (d- 40),.int .i64 d,.func (.func 225) #[] #[.pointer (some ⟨W6.heap.size,0,none⟩),.pointer (some ⟨W6.heap.size+1,0,none⟩),.pointer (some ⟨W6.heap.size+2,0,none⟩),.pointer (some ⟨W6.heap.size+3,0,none⟩)],oa x,undef,undef,undef,undef,undef,undef,undef,undef],defers:=[]}) ?assign ?body ?done)
  case assign=>
   rintro l ⟨rc,rk,rt,rv⟩ W K hK;have HK:=H_ hK;clear hK;simp only[oa]
   gi_wp2_with (show wpListIn _ _ _ _ _ (Oper.mk none (Op.store _ (Operand.tmp 12) _) _ _ _ _::_) _ _;refine cX rfl 70 (.tmp 12) (.tmp 36) rfl rfl W #[.string ⟨#[]⟩,(),(),()] 70 #[rc,rk,rt,rv] rfl rfl rfl aT rfl (by simp[Value.oneCell']) ?_;intro w4 H4 iX Bo)
   exact HK.o w4 iX H4
  case body=>
   rintro l pre ⟨rc,rk,rt,rv⟩ b W ⟨m5,oQ⟩ eX tQ NB;have vw:=H_ m5;have Gf:=H_ oQ;have Kn:=H_ NB;clear m5 oQ NB;simp only[oa]
   gi_wp2_with (show wpListIn _ _ _ _ _ (Oper.mk (some 37) _ _ _ _ _::_) _ _;refine lB rfl 70 (.tmp 12) rfl b rfl _ _ _ _ Kn.o Tryz.underlying70 rfl aT ?_)
   refine⟨trivial,(CallsIn.inRound l (callsIn_wide.2 (acj w5.heap.size _ rc rk rt rv W vw.o))).mono ?_⟩;rintro e w8 ⟨⟨v,rfl⟩,hl8,CE⟩;have HL8:=H_ hl8;have YT:=H_ CE;clear hl8 CE
   gi_wp2_with fail
   have Q6:=YT.o;have hL5:w5.heap.size<W.heap.size:=ag vw.o;have fC:W7.heap.size<W.heap.size:=by have:=ag Kn.o;omega
   refine(show KeepsFrom W7.heap.size W w8/\Fr (λq=>q<W7.heap.size/\q≠w5.heap.size) W w8/\WhI w5.heap.size w5.heap.size w5 (pre++[⟨rc,rk,rt,rv⟩]) w8 from⟨⟨Q6.size,λk o hk ho _=>(Q6.block k ⟨(Array.getElem?_eq_some_iff.1 ho).1,by have:=rW.o;omega⟩).trans ho⟩,Q6.mono (λq hq=>⟨by omega,hq.2⟩),?_,?_⟩)
   ·rw[List.foldl_append];exact HL8.o
   ·exact((Fr.ofBelow Gf.o).trans (Q6.mono (λq (hq:q<w5.heap.size)=>⟨by omega,by omega⟩))).below
  case done=>
   rintro D ys W0 hD rfl ⟨m5,oQ⟩ hD2;rw[<-Il]at m5;have Gf:=H_ oQ;have vh:=H_ hD2;have HDS:=H_ hD;have HZ0:=H_ ((oQ.block _ (show w.heap.size+1<w5.heap.size by have:=My.o;omega)).trans vv.o);have go:=t_ fG oQ;have R5:=H_ (show R=match og rs aw (d- 40) d with|some r=>(r,0)|none=>({},13) by rw[<-HR.o];unfold mY;rw[if_neg eP.o]);clear oQ hD2 hD;obtain⟨o,ho⟩:=x_ (og rs aw (d- 40) d);rw[ho]at m5 R5;have vw:=H_ m5;clear m5 ho;cases o with
   |none=>
    have hf:=H_ (show R=({},13)from R5.o);have l4:W0.cell? ⟨w5.heap.size,4,none⟩=some (.bool false):=ab vw.o 4;go_wp2_with (show wpList _ _ _ (Oper.mk none (Op.store _ (Operand.tmp 8) _) _ _ _ _::_) _ _;go_loud (refine wpList_store_row rfl 70 (.tmp 8) (.tmp 42) rfl (w.heap.size+1) #[.string ⟨#[]⟩,(),(),()] rfl rfl 70 #[.string ⟨#[]⟩,(),(),()] HZ0.o aT rfl (by simp[Value.oneCell']) ?_));refine⟨by simp,.inl ⟨_,_,rfl,run_takeDeferred (((cC _ _ _).block _ (show D≠w.heap.size+1 by have:=HDS.o;have:=rW.o;have:=My.o;omega)).trans vh.o),?_⟩⟩;exact⟨_,aA rfl _ _ (w.heap.size+1) 70 #[.string ⟨#[]⟩,(),(),()] (0,0) _ rfl ((World.putObj_heap_other (by have:=HDS.o;have:=rW.o;have:=My.o;omega)).trans (aB HZ0.o _)) Tryz.underlying70 rfl aT _ rfl,by rw[hf.o];rfl,vM (aD go.o (by omega) _) (by have:=HDS.o;have:=rW.o;have:=My.o;omega) _⟩
   |some r=>
    obtain⟨rc,rk,rt,rv⟩:=r;have hf:=H_ (show R=(⟨rc,rk,rt,rv⟩,0)from R5.o);have l4:W0.cell? ⟨w5.heap.size,4,none⟩=some (.bool true):=ab vw.o 4;have eZ:=H_ (show W0.rangeAt w5.heap.size 0 [rc,rk,rt,rv]from World.rangeAt_of_block vw.o 0 4);go_wp2_with (first|(refine w_ 44 70 43 w5.heap.size (0) [rc,rk,rt,rv] eZ.o aT Tryz.underlying70 ?_)|(show wpList _ _ _ (Oper.mk none (Op.store _ (Operand.tmp 8) _) _ _ _ _::_) _ _;go_loud (refine wpList_store_row rfl 70 (.tmp 8) (.tmp 44) rfl (w.heap.size+1) #[rc,rk,rt,rv] rfl rfl 70 #[.string ⟨#[]⟩,(),(),()] HZ0.o aT rfl (by simp[Value.oneCell']) ?_)));refine⟨by simp,.inl ⟨_,_,rfl,run_takeDeferred (((cC _ _ _).block _ (show D≠w.heap.size+1 by have:=HDS.o;have:=rW.o;have:=My.o;omega)).trans vh.o),?_⟩⟩;exact⟨_,aA rfl _ _ (w.heap.size+1) 70 #[rc,rk,rt,rv] (0,0) _ rfl ((World.putObj_heap_other (by have:=HDS.o;have:=rW.o;have:=My.o;omega)).trans (aB HZ0.o _)) Tryz.underlying70 rfl aT _ rfl,by rw[hf.o];rfl,vM (aD go.o (by omega) _) (by have:=HDS.o;have:=rW.o;have:=My.o;omega) _⟩
end
section
open Go Go.RowKit
theorem di {w w2:World} {A:Option Addr} {n c:Nat} {rs:List aC} (hl:aj bN 4 w (·<w.heap.size) [.slice A n c] rs) (hb:Below w.heap.size w w2):aj bN 4 w2 (·<w2.heap.size) [.slice A n c] rs:=(hl.fr (λh=>bN.fr h (Fr.ofBelow hb)) (Fr.ofBelow hb)).mono (λh=>bN.mono h (λq hq=>Nat.lt_of_lt_of_le hq hb.size)) (λq hq=>Nat.lt_of_lt_of_le hq hb.size)
def fO (rs:List aC) (grp aw:ByteArray) (d:Int):Int × Int:=if aw=grp then(1000000,0)else E8 rs aw d
theorem Iq (rs:List aC) (grp aw:ByteArray) (d:Int):((mY rs grp aw d).1.value,(mY rs grp aw d).2)=fO rs grp aw d:=by
 unfold mY fO E8;by_cases h:aw=grp
 ·rw[if_pos h,if_pos h]
 ·rw[if_neg h,if_neg h];cases og rs aw (d- 40) d<;>rfl
theorem ZU (gl:List Value) (grp aw:ByteArray) (rs:List aC) (A:Option Addr) (cc:Nat) (d:Int) (w:World) (fZ:gl.toArray.size=21) (nj:gl.toArray[0]? =some (.string grp)) (hl:aj bN 4 w (·<w.heap.size) [.slice A rs.length cc] rs) (bP:∀r∈rs,r.currency.size<=140737488355328) (kC:grp.size<=140737488355328) (hm:rs.length<=100000) (hv:dJ grp rs) (eh:cQ aw=true) (hd:inD d):
 Calls Tryz.prog 130 #[.agg gl.toArray,.slice A rs.length cc,aw,d] w (ap w (.tuple #[.int .i64 (fO rs grp aw d).1,.int .i64 (fO rs grp aw d).2])):=by
 have hw:=λ(w2:World) (hb:Below w.heap.size w w2)=>TD gl grp aw rs A cc d w2 fZ nj (di hl hb) bP kC hm hv eh hd
 rw[<-Iq];obtain⟨R,hR⟩:=x_ (mY rs grp aw d);rw[hR]at hw |-;obtain⟨⟨rc,rk,rt,rv⟩,re⟩:=R;have HW:=H_ hw;have fu:=H_ fZ;obtain⟨n,hn⟩:=x_ (rs.length);rw[hn]at HW |-;clear hw hR fZ nj hl bP kC hm hv eh hd hn;show Calls Tryz.prog 130 #[.agg gl.toArray,.slice A n cc,aw,d] w (ap w (.tuple #[rv,re]));go_enter Tryz.func130,Tryz.ntmps130;go_upto_region 1 with fail;obtain⟨W1,cS,H1,bC,dr,ewx⟩:=B_ w (.cells gl.toArray 29);rw[cS];clear ewx;clear cS;have fB:=H_ H1;clear H1;go_wp2_with (refine W_ 13 29 4 (w.heap.size) fB.o (by rw[ay];exact congrArg some fu.o.symm) Tryz.underlying29 ?_);refine(HW.o W1 bC).mono ?_;rintro e w2 ⟨rfl,aH⟩;have aF:=bC.trans (aH.mono bC.size);simp only[fN];go_upto_region 2 with fail
 have H3:=heap_alloc_new w2 (.cells #[rc,rk,rt,rv] 70);have eA:=aF.trans ((ai w2 (.cells #[rc,rk,rt,rv] 70)).mono aF.size);generalize hW3:w2.alloc (Obj.cells #[rc,rk,rt,rv] 70)=W3 at*;clear hW3;have c3:=ab H3 3;clear H3;go_wp2_with fail;go_ret2;exact⟨rfl,eA⟩
def akf (y m n p:Int):Int × Int:=if bo y m n p=0 then(da (bw y m (p- p%12)),0)else(0,bo y m n p)
theorem s8 {y m n p:Int} (h:bo y m n p=0):inY (bw y m (p- p%12) / 12)/\du y m n=true/\0<=p/\p<n:=by
 obtain⟨g1,g2,g3⟩:=kG h;have h2:=ig (q:=p- p%12) g1 (by omega) (by omega);exact⟨h2.2.2.2.2.2,g1,g2,g3⟩
theorem OH (y m n p:Int) (w:World) (hp:cx p):Calls Tryz.prog 157 #[.agg #[y,m,n],p] w (ap w (.tuple #[.int .i64 (akf y m n p).1,.int .i64 (akf y m n p).2])):=by
 obtain⟨r,hr⟩:=x_ (akf y m n p);rw[hr];have HR:=H_ hr;clear hr;go_enter Tryz.func157,Tryz.ntmps157;go_upto_region 1 with fail;obtain⟨W1,cS,H1,bC,dr,ewx⟩:=B_ w (.cells #[y,m,n] 23);rw[cS];clear ewx;clear cS;have c0:=ab H1 0;have c1:=ab H1 1;have c2:=ab H1 2;have fB:=H_ H1;clear H1;go_wp2_with fail;refine(vO y m n p W1).mono ?_;rintro e w2 ⟨rfl,aH⟩;have dA:=bC.trans (aH.mono bC.size);have dn:=k_ aH fB;have d0:=ab dn.o 0;have d1:=ab dn.o 1;have d2:=ab dn.o 2;obtain⟨v,hv⟩:=x_ (bo y m n p);rw[hv];have HV:=H_ hv;clear hv c0 c1 c2;by_cases h0:v=0
 ·subst h0;obtain⟨q6,g1,g2,g3⟩:=s8 HV.o;obtain⟨q1,q2,q3,q4,q5,_⟩:=ig g1 g2 g3;have hf:=H_ (show r=(da (bw y m (p- p%12)),0) by rw[<-HR.o];unfold akf;rw[if_pos HV.o]);have FH:=H_ (show lI (bw y m (p- p%12))=(da (bw y m (p- p%12)),0)from if_pos q6);have Q1:=H_ q1;have hrm:p.tmod 12=p%12:=Int.tmod_eq_emod_of_nonneg g2;obtain⟨z,hz⟩:=x_ (p%12);have TV:0<=z/\z<12:=by omega
  rw[hz]at hrm hf FH;have hwz:IntKind.i64.wrap z=z:=by rw[IntKind.wrap_i64];omega
  have cP:0<=p- z/\p- z<=200:=by omega
  obtain⟨cP,dd⟩:=cP;have nA:=H_ (And.intro cP dd);have Q2:=H_ (And.intro q2 q3);clear g1 q1 q6 hz q2 q3;go_wp2_with fail;refine(BS y m n (p- z) w2 Q1.o Q2.o.1 Q2.o.2 nA.o.1 nA.o.2).mono ?_;rintro e w3 ⟨rfl,aZ⟩;rw[FH.o];go_wp2_with fail;go_ret2;exact⟨hf.o.symm▸rfl,dA.trans (aZ.mono dA.size)⟩
 ·have h1:(v==0)=false:=by simpa using h0
  have h2:(v !=0)=true:=by simpa using h0
  have hf:=H_ (show r=(0,v) by rw[<-HR.o];unfold akf;rw[HV.o,if_neg h0]);clear h0;go_wp2_with fail;go_ret2;exact⟨hf.o.symm▸rfl,dA⟩
theorem dg {w:World} {b:Nat} {C:Array Value} {t:TypeId} {y m n:Int} (hb:w.heap[b]? =some (.cells C t (0,0))) (h1:C[1]? =some (.int .i64 y)) (h2:C[2]? =some (.int .i64 m)) (h3:C[3]? =some (.int .i64 n)):w.rangeAt b 1 [y,m,n]:=λj v hj=>by
 rcases j with _|_|_|j
 ·simp at hj;subst hj;exact(ab hb 1).trans h1
 ·simp at hj;subst hj;exact(ab hb 2).trans h2
 ·simp at hj;subst hj;exact(ab hb 3).trans h3
 ·simp at hj
theorem Hn (gl:List Value) (grp aw:ByteArray) (rs:List aC) (A:Option Addr) (cc:Nat) (y m n q:Int) (w:World) (fZ:gl.toArray.size=21) (nj:gl.toArray[0]? =some (.string grp)) (jy:gl.toArray[1]? =some (.int .i64 y)) (f8:gl.toArray[2]? =some (.int .i64 m)) (tT:gl.toArray[3]? =some (.int .i64 n))
 (hl:aj bN 4 w (·<w.heap.size) [.slice A rs.length cc] rs) (bP:∀r∈rs,r.currency.size<=140737488355328) (kC:grp.size<=140737488355328) (ft:aw.size<=140737488355328) (hm:rs.length<=100000) (hv:dJ grp rs) (eh:cQ aw=true) (eu:du y m n=true) (hq:0<=q/\q<n):
 Calls Tryz.prog 204 #[.agg gl.toArray,.slice A rs.length cc,aw,q] w (ap w (.tuple #[.int .i64 (aX y m n q).1,.int .i64 (bH y m n q).1,()])):=by
 have MA:bo y m n q=0:=by unfold bo;rw[if_pos eu,if_pos hq]
 have kV:=H_ (show(aX y m n q).2=0 by unfold aX;rw[if_pos MA]);have IP:=H_ (show(bH y m n q).2=0 by unfold bH;rw[if_pos MA]);obtain⟨f,hf⟩:=x_ (aX y m n q);obtain⟨la,m5⟩:∃f,bH y m n q=f:=⟨_,rfl⟩;have ny:=H_ (λ(w2:World)=>vP y m n q w2);have pb:=H_ (λ(w2:World)=>Af y m n q w2);rw[hf]at ny kV |-;rw[m5]at pb IP |-;obtain⟨f1,f2⟩:=f;obtain⟨l1,l2⟩:=la;obtain rfl:f2=0:=kV.o;obtain rfl:l2=0:=IP.o;simp only at ny pb |-;have HV:=H_ (λ(w2:World) (hb:Below w.heap.size w w2)=>show Calls Tryz.prog 79 #[grp,.slice A rs.length cc] w2 (ap w2 (.bool true)) by
  have h:=sK grp rs A cc w2 (di hl hb) bP kC hm
  rwa[decide_eq_true hv]at h)
 have HC:=H_ (λ(w2:World)=>show Calls Tryz.prog 112 #[aw] w2 (ap w2 (.bool true)) by
  have h:=BK aw w2 ft
  rwa[eh]at h)
 have Fl:=H_ (λ(w2:World)=>show Calls Tryz.prog 91 #[.agg #[y,m,n]] w2 (ap w2 (.bool true)) by
  have h:=mJ y m n w2
  rwa[eu]at h)
 have fu:=H_ fZ;have lF:=H_ nj;have Cv:=H_ (λ(w2:World) (h:w2.heap[w.heap.size]? =some (.cells gl.toArray 29 (0,0)))=>dg h jy f8 tT);obtain⟨N,hN⟩:∃n,rs.length=n:=⟨_,rfl⟩;rw[hN]at HV |-;clear fZ nj jy f8 tT hl bP kC ft hm hv eh eu hq MA hf m5 hN kV IP;go_enter Tryz.func204,Tryz.ntmps204;go_upto_region 1 with fail;obtain⟨W1,cS,H1,bC,dr,ewx⟩:=B_ w (.cells gl.toArray 29);rw[cS];clear ewx;clear cS;have fB:=H_ H1;have c0:=(ab H1 0).trans lF.o;clear H1;go_wp2_with fail;refine(HV.o W1 bC).mono ?_;rintro e w2 ⟨rfl,aH⟩;have aF:=bC.trans (aH.mono bC.size);have dn:=k_ aH fB;clear c0;go_wp2_with fail;refine(HC.o w2).mono ?_;rintro e w3 ⟨rfl,aZ⟩;have aR:=aF.trans (aZ.mono aF.size);have kS:=H_ ((aZ.block _ (Nat.lt_of_lt_of_le dr aH.size)).trans dn.o);have lE:=Nat.lt_of_lt_of_le (Nat.lt_of_lt_of_le dr aH.size) aZ.size;have Xd:=H_ (Cv.o w3 kS.o);go_wp2_with (show wpList _ _ _ (Oper.mk (some 27) _ _ _ _ _::_) _ _;refine cO rfl 23 (.tmp 26) rfl (w.heap.size) 1 rfl [.int .i64 y,.int .i64 m,.int .i64 n] _ Xd.o Tryz.underlying23 rfl bV ?_);refine(Fl.o w3).mono ?_;rintro e w4 ⟨rfl,bU⟩;have bD:=aR.trans (bU.mono aR.size);have oW:=k_ bU kS;have yJ:=Nat.lt_of_lt_of_le lE bU.size;have N9:=H_ (Cv.o w4 oW.o);go_wp2_with (show wpList _ _ _ (Oper.mk (some 33) _ _ _ _ _::_) _ _;refine cO rfl 23 (.tmp 32) rfl (w.heap.size) 1 rfl [.int .i64 y,.int .i64 m,.int .i64 n] _ N9.o Tryz.underlying23 rfl bV ?_);refine(ny.o w4).mono ?_;rintro e w5 ⟨rfl,cP⟩;have fG:=bD.trans (cP.mono bD.size);have QZ:=k_ cP oW;have adl:=H_ (Cv.o w5 QZ.o);go_wp2_with (show wpList _ _ _ (Oper.mk (some 40) _ _ _ _ _::_) _ _;refine cO rfl 23 (.tmp 39) rfl (w.heap.size) 1 rfl [.int .i64 y,.int .i64 m,.int .i64 n] _ adl.o Tryz.underlying23 rfl bV ?_);refine(pb.o w5).mono ?_;rintro e w6 ⟨rfl,dd⟩;have fi:=fG.trans (dd.mono fG.size);go_wp2_with fail;go_ret3;exact⟨rfl,fi⟩
theorem Ze (a:ah) (g:Nat) (code:Int) (w:World) (hc:w.cell? ⟨g,0,none⟩=some (.int .i64 code)) (hg:g<w.heap.size):Calls Tryz.prog 159 #[.agg (bn a).toArray,.pointer (some ⟨g,0,none⟩)] w (ap w (.bool (a.code==code))):=by
 obtain⟨a1,a2,a3,a4⟩:=a;obtain⟨q,hq⟩:=x_ ((a1==code));show Calls Tryz.prog 159 #[.agg #[a1,a2,a3,a4],.pointer (some ⟨g,0,none⟩)] w (ap w (.bool (a1==code)));rw[hq];have HC:=H_ hc;have HG:=H_ hg;clear hc hg;go_enter Tryz.func159,Tryz.ntmps159;go_upto_region 1 with fail;obtain⟨W1,cS,H1,bC,dr,ewx⟩:=B_ w (.cells #[a1,a2,a3,a4] 78);rw[cS];clear ewx;clear cS;have c0:=ab H1 0;have cI:=(bC.cell (p:=⟨g,0,none⟩) HG.o).trans HC.o;clear H1;go_wp2_with fail;go_ret;exact⟨rfl,bC⟩
theorem SU (l:List ah) (A:Option Addr) (c g:Nat) (code:Int) (w:World) (hl:aj ar 4 w (·<w.heap.size) [.slice A l.length c] l) (hgc:w.cell? ⟨g,0,none⟩=some (.int .i64 code)) (hg:g<w.heap.size):Calls Tryz.prog 158 #[.slice A l.length c,.func (.func 159) #[] #[.pointer (some ⟨g,0,none⟩)]] w (ap w (.int .i64 (iB (λa=>a.code==code) l))):=by
 obtain⟨r,hr⟩:=x_ (iB (λa=>a.code==code) l);rw[hr];have HR:=H_ hr;have gr:=hl.cap;unfold maxLen at gr;obtain⟨n,bj⟩:=x_ (l.length);have HL:=H_ hl;have HN:=H_ bj;have FP:=H_ hgc;have HG:=H_ hg;rw[bj]at gr |-;clear hl bj hr hgc hg;go_enter Tryz.func158,Tryz.ntmps158;go_wp2_with fail
 go_loopw [8] (λi wr=>∃k:Nat,k<=n/\i=.int .i64 (k:Int)/\Below w.heap.size w wr/\∀j (hj:j<l.length),j<k->(l[j].code==code)=false) (λi _=>n- (intOf i).toNat)
 case atStart=>exact⟨0,by omega,rfl,Below.refl _ _,λj hj h=>by omega⟩
 case round=>
  obtain⟨k,hk,rfl,hb,hall⟩:=hrel;have HA:=H_ hall;clear hall;have bP:=hb.size;by_cases aU:k<n
  case pos=>
   have bq:(k:Int)< (n:Int):=by omega
   have gW:0<n:=by omega
   have bI:k<l.length:=by rw[HN.o];exact aU
   obtain⟨b,o,es,dj,ed,bL,aS⟩:=aj.get HL.o k bI;subst dj;obtain⟨bE,_⟩:=ar.lit bL;rw[bE]at aS;clear bE;obtain⟨q,hq⟩:=x_ ((l[k].code==code));have HQ:=H_ hq;obtain⟨x,hx⟩:=x_ (l[k]);rw[hx]at aS hq;obtain⟨a1,a2,a3,a4⟩:=x;have eZ:=H_ (show wr.rangeAt b (o+k*4) [a1,a2,a3,a4]from(aS.fr (Fr.ofBelow hb)).range);have cI:=(Ze ⟨a1,a2,a3,a4⟩ g code wr ((hb.cell (p:=⟨g,0,none⟩) HG.o).trans FP.o) (Nat.lt_of_lt_of_le HG.o hb.size));simp only at hq;rw[hq]at cI;have FK:=H_ cI;clear bL aS hx ed hq cI;go_wp2_with (refine w_ 15 78 14 b (o+k*4) [a1,a2,a3,a4] eZ.o gy Tryz.underlying78 ?_);refine FK.o.mono ?_;rintro e w2 ⟨rfl,aH⟩;have dA:=hb.trans (aH.mono hb.size);cases q with
   |true=>
    have hf:=H_ (show r=(k:Int) by rw[<-HR.o];exact nW bI HQ.o HA.o);go_wp2_with fail;go_ret;exact⟨hf.o.symm▸rfl,dA⟩
   |false=>
    go_wp2_with fail;go_roundw
    case rel=>exact⟨k+1,by omega,by go_num,dA,λj hj m7=>by
     rcases Nat.lt_or_ge j k with h|h
     ·exact HA.o j hj h
     ·obtain rfl:j=k:=by omega
      exact HQ.o⟩
    case measure=>first|exact aQ aU|(simp only[intOf];omega)
  case neg=>
   have bq:¬(k:Int)< (n:Int):=by omega
   have hf:=H_ (show r= -1 by rw[<-HR.o];exact mf (λj hj=>HA.o j hj (by have:=HN.o;omega)));go_wp2_with fail;go_ret;exact⟨hf.o.symm▸rfl,hb⟩
theorem Ll (l:List ah) (code:Int):(iB (λa=>a.code==code) l= -1/\aK l code=none)\/∃k,∃hk:k<l.length,iB (λa=>a.code==code) l=(k:Int)/\aK l code=some l[k]:=by
 unfold iB aK;cases h:l.findIdx? (λa=>a.code==code)with
 |none=>
  left;rw[List.findIdx?_eq_none_iff]at h;exact⟨rfl,List.find?_eq_none.2 (λx hx=>by rw[h x hx];simp)⟩
 |some k=>
  right;rw[List.findIdx?_eq_some_iff_getElem]at h;obtain⟨hk,h1,h2⟩:=h;exact⟨k,hk,rfl,List.find?_eq_some_iff_getElem.2 ⟨h1,k,hk,rfl,λj hj=>by have:=h2 j hj;simpa using this⟩⟩
theorem xq (g:au) (gl:List Value) (code:Int) (w:World) (hg:aL w (·<w.heap.size) gl g):Calls Tryz.prog 116 #[.agg gl.toArray,code] w (ap w (cF g.chart code)):=by
 obtain⟨Ac,cc,Ae,ce,eX,_,h4,_,_,_,ee,_⟩:=hg.view;have iX:=H_ (show gl.toArray[4]? =some (.slice Ac g.chart.length cc) by simpa using h4);have fu:=H_ (show gl.toArray.size=21 by simpa using eX);have Da:=H_ (λ(w2:World) (hb:Below w.heap.size w w2) (b:Nat) (hc:w2.cell? ⟨b,0,none⟩=some (.int .i64 code)) (aU:b<w2.heap.size)=>SU g.chart Ac cc b code w2 (az ee hb) hc aU);have HL:=H_ ee;have tW:=H_ (Ll g.chart code);have gr:=ee.cap;unfold maxLen at gr;obtain⟨ch,aa2⟩:=x_ (g.chart);rw[aa2]at iX Da HL tW gr |-;obtain⟨n,hn⟩:=x_ (ch.length);have HN:=H_ hn;obtain⟨ix,ja⟩:=x_ (iB (λa:ah=>a.code==code) ch);rw[ja]at Da tW;rw[hn]at iX Da gr;obtain⟨r1,qI⟩:∃r,aK ch code=r:=⟨_,rfl⟩;rw[qI]at tW;have ME:=H_ (show cF ch code=.tuple #[.agg (bn (gH r1)).toArray,r1.isSome] by unfold cF;rw[qI]);obtain⟨V,hV⟩:=x_ (cF ch code);rw[hV]at ME |-;clear hg eX h4 ee aa2 hn ja qI hV;go_enter Tryz.func116,Tryz.ntmps116;go_upto_region 1 with fail;obtain⟨E1,E2,E3,E4,E5,E6⟩:=pN w (.cells gl.toArray 29) (.cells #[code] 3) (.cells #[(),(),(),()] 78) (.cells #[] 0);clear E1 E2 E3 E4 E5 E6;have K1:=al (al (heap_alloc_new w (.cells gl.toArray 29)) (.cells #[code] 3)) (.cells #[(),(),(),()] 78);have K2:=al (heap_alloc_new (w.alloc (.cells gl.toArray 29)) (.cells #[code] 3)) (.cells #[(),(),(),()] 78);have K3:=heap_alloc_new ((w.alloc (.cells gl.toArray 29)).alloc (.cells #[code] 3)) (.cells #[(),(),(),()] 78);have KB:Below w.heap.size w (((w.alloc (.cells gl.toArray 29)).alloc (.cells #[code] 3)).alloc (.cells #[(),(),(),()] 78)):=(((ai w _).alloc (by simp) _).alloc (by simp;omega) _);have KS:(((w.alloc (.cells gl.toArray 29)).alloc (.cells #[code] 3)).alloc (.cells #[(),(),(),()] 78)).heap.size=w.heap.size+3:=by simp
 simp only[World.size_alloc,Nat.add_assoc,Nat.reduceAdd]at K2 K3;generalize ((w.alloc (Obj.cells gl.toArray 29)).alloc (Obj.cells #[code] 3)).alloc (Obj.cells #[(),(),(),()] 78)=W at*;have H1:=H_ K1;have H2:=H_ K2;have H3:=H_ K3;have KS:=H_ KS;have c4:=(ab K1 4).trans iX.o;clear K1 K2 K3;go_wp2_with fail;refine(Da.o W KB (w.heap.size+1) (ab H2.o 0) (by have:=KS.o;omega)).mono ?_;rintro e w2 ⟨rfl,aH⟩;have dA:=KB.trans (aH.mono KB.size);have G1:=(aH.block _ (show w.heap.size<W.heap.size by have:=KS.o;omega)).trans H1.o;have G3:=H_ ((aH.block _ (show w.heap.size+2<W.heap.size by have:=KS.o;omega)).trans H3.o);have d4:=(ab G1 4).trans iX.o;clear c4 G1;rcases tW.o with⟨ja,fg⟩|⟨k,hk,ja,Kf⟩
 ·subst ja fg;have hf:=H_ (show V=.tuple #[.agg #[(),(),(),()],false]from ME.o);go_wp2_with (show wpList _ _ _ (Oper.mk none (Op.store _ (Operand.tmp 4) _) _ _ _ _::_) _ _;go_loud (refine wpList_store_row rfl 78 (.tmp 4) (.tmp 13) rfl (w.heap.size+2) #[(),(),(),()] rfl rfl 78 #[(),(),(),()] G3.o (by rw[gy];rfl) rfl (by simp[Value.oneCell']) ?_));refine bodyPost_ret (v:=.tuple #[.agg #[(),(),(),()],false]) (aA rfl _ _ (w.heap.size+2) 78 #[(),(),(),()] (0,0) _ rfl (aB G3.o _) Tryz.underlying78 rfl (by rw[gy];rfl) _ rfl) rfl ?_;exact⟨hf.o.symm▸rfl,aD dA (by omega) _⟩
 ·subst ja;obtain⟨b,o,es,dj,ed,bL,aS⟩:=aj.get HL.o k hk;subst dj;obtain⟨bE,_⟩:=ar.lit bL;rw[bE]at aS;obtain⟨x,hx⟩:=x_ (ch[k]);rw[hx]at aS Kf;subst Kf;obtain⟨a1,a2,a3,a4⟩:=x;have eZ:=H_ (show w2.rangeAt b (o+k*4) [a1,a2,a3,a4]from(aS.fr (Fr.ofBelow dA)).range);have hf:=H_ (show V=.tuple #[.agg #[a1,a2,a3,a4],true]from ME.o);have hkI:(k:Int)< (n:Int):=by have:=HN.o;omega
  have Fm:¬(k:Int)<0:=by omega
  have Kz:k<n:=by have:=HN.o;omega
  clear bL bE aS hx ed;go_wp2_with (first|(refine w_ 18 78 17 b (o+k*4) [a1,a2,a3,a4] eZ.o gy Tryz.underlying78 ?_)|(show wpList _ _ _ (Oper.mk none (Op.store _ (Operand.tmp 4) _) _ _ _ _::_) _ _;go_loud (refine wpList_store_row rfl 78 (.tmp 4) (.tmp 18) rfl (w.heap.size+2) #[a1,a2,a3,a4] rfl rfl 78 #[(),(),(),()] G3.o (by rw[gy];rfl) rfl (by simp[Value.oneCell']) ?_)));refine bodyPost_ret (v:=.tuple #[.agg #[a1,a2,a3,a4],true]) (aA rfl _ _ (w.heap.size+2) 78 #[a1,a2,a3,a4] (0,0) _ rfl (aB G3.o _) Tryz.underlying78 rfl (by rw[gy];rfl) _ rfl) rfl ?_;exact⟨hf.o.symm▸rfl,aD dA (by omega) _⟩
theorem Lq (g:au) (gl:List Value) (code:Int) (w:World) (hg:aL w (·<w.heap.size) gl g):Calls Tryz.prog 160 #[.agg gl.toArray,code] w (ap w (.bool (xV g code))):=by
 have HC:=H_ (λ(w2:World) (hb:Below w.heap.size w w2)=>xq g gl code w2 (hg.keep hb));have fu:=H_ (show gl.toArray.size=21 by have:=hg.len;simpa using this);obtain⟨R,hR⟩:=x_ (xV g code);obtain⟨k,hk⟩:=x_ ((gH (aK g.chart code)).kind);have Vf:=H_ (show R=(decide (k=4)||decide (k=5)) by
  rw[<-hR,<-hk];unfold xV;cases aK g.chart code with
  |none=>rfl
  |some a=>rw[<-Bool.decide_or];rfl)
 rw[hR];have e0:cF g.chart code=.tuple #[.agg (bn (gH (aK g.chart code))).toArray,.bool (aK g.chart code).isSome]:=rfl;rw[e0]at HC;generalize (aK g.chart code).isSome=s at*;obtain⟨x,hx⟩:=x_ (gH (aK g.chart code));rw[hx]at HC hk;obtain⟨a1,a2,a3,a4⟩:=x;obtain rfl:a2=k:=hk;obtain⟨q1,mF⟩:∃q,(a2==4)=q:=⟨_,rfl⟩;obtain⟨q2,lc⟩:∃q,(a2==5)=q:=⟨_,rfl⟩;have HRQ:=H_ (show R=(q1||q2) by rw[Vf.o,<-mF,<-lc];rfl);clear hg hR hx e0 Vf;go_enter Tryz.func160,Tryz.ntmps160;go_upto_region 1 with fail;obtain⟨W1,cS,H1,bC,dr,ewx⟩:=B_ w (.cells gl.toArray 29);rw[cS];clear ewx;clear cS;have fB:=H_ H1;clear H1;go_wp2_with (refine W_ 8 29 2 (w.heap.size) fB.o (by rw[ay];exact congrArg some fu.o.symm) Tryz.underlying29 ?_);refine(HC.o W1 bC).mono ?_;rintro e w2 ⟨rfl,aH⟩;have aF:=bC.trans (aH.mono bC.size);show _;simp only[bn];go_upto_region 2 with fail
 have H3:=heap_alloc_new w2 (.cells #[a1,a2,a3,a4] 78);have eA:=aF.trans ((ai w2 (.cells #[a1,a2,a3,a4] 78)).mono aF.size);generalize hW3:w2.alloc (Obj.cells #[a1,a2,a3,a4] 78)=W3 at*;clear hW3;have c1:=ab H3 1;clear H3;cases q1 with
 |true=>
  have hf:=H_ (show R=true from HRQ.o);go_wp2_with fail;go_ret;exact⟨hf.o.symm▸rfl,eA⟩
 |false=>
  have hf:=H_ (show R=q2 from HRQ.o);go_wp2_with fail;go_ret;exact⟨hf.o.symm▸rfl,eA⟩
end
end Go.Proofs.YtibiddakakgakaaGreat
