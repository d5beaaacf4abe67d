/- Groups: the basis of an account. Written by gen_b17.py. -/
import Derived.Test.YtibiddakakgakaaGreatQdB16
import Derived.DeepKeys4
import Derived.Maps.Keyed
set_option linter.unusedVariables false
set_option linter.unusedSimpArgs false
set_option maxRecDepth 4000
attribute [local go_sem ↓] Go.wp_at_zero Go.wp_at_succ
set_option maxHeartbeats 16000000
namespace Go.Proofs.YtibiddakakgakaaGreat
section
open Go Go.RowKit
def cn (a:ah):Bool:=if a.kind=1\/a.kind=2 then decide (a.basis=1\/a.basis=3)else if a.kind=3 then decide (a.basis=3)else decide (a.basis=2)
theorem Sy (a:ah) (w:World):Calls Tryz.prog 182 #[.agg (bn a).toArray] w (ap w (.bool (cn a))):=by
 obtain⟨r,hr⟩:=x_ (cn a);rw[hr];have HR:=H_ hr;clear hr;obtain⟨c1,c2,c3,c4⟩:=a;go_enter Tryz.func182,Tryz.ntmps182;go_upto_region 1 with fail;obtain⟨W,hW,H0,HB,yG,ewx⟩:=B_ w (.cells #[c1,c2,c3,c4] 78);rw[hW];clear ewx yG;have d1:=ab H0 1;have d2:=ab H0 2;clear hW H0;by_cases k1:c2=1
 ·subst k1;by_cases b1:c3=1
  ·subst b1;have hf:=H_ (show r=true by rw[<-HR.o];unfold cn;simp);go_wp2_with fail;go_ret;exact⟨hf.o.symm▸rfl,HB⟩
  ·have b1':(c3==1)=false:=by simpa using b1
   by_cases b3:c3=3
   ·subst b3;have hf:=H_ (show r=true by rw[<-HR.o];unfold cn;simp);go_wp2_with fail;go_ret;exact⟨hf.o.symm▸rfl,HB⟩
   ·have b3':(c3==3)=false:=by simpa using b3
    have hf:=H_ (show r=false by rw[<-HR.o];unfold cn;simp[b1,b3]);go_wp2_with fail;go_ret;exact⟨hf.o.symm▸rfl,HB⟩
 ·have k1':(c2==1)=false:=by simpa using k1
  by_cases k2:c2=2
  ·subst k2;by_cases b1:c3=1
   ·subst b1;have hf:=H_ (show r=true by rw[<-HR.o];unfold cn;simp);go_wp2_with fail;go_ret;exact⟨hf.o.symm▸rfl,HB⟩
   ·have b1':(c3==1)=false:=by simpa using b1
    by_cases b3:c3=3
    ·subst b3;have hf:=H_ (show r=true by rw[<-HR.o];unfold cn;simp);go_wp2_with fail;go_ret;exact⟨hf.o.symm▸rfl,HB⟩
    ·have b3':(c3==3)=false:=by simpa using b3
     have hf:=H_ (show r=false by rw[<-HR.o];unfold cn;simp[b1,b3]);go_wp2_with fail;go_ret;exact⟨hf.o.symm▸rfl,HB⟩
  ·have k2':(c2==2)=false:=by simpa using k2
   by_cases k3:c2=3
   ·subst k3;by_cases b3:c3=3
    ·subst b3;have hf:=H_ (show r=true by rw[<-HR.o];unfold cn;simp);go_wp2_with fail;go_ret;exact⟨hf.o.symm▸rfl,HB⟩
    ·have b3':(c3==3)=false:=by simpa using b3
     have hf:=H_ (show r=false by rw[<-HR.o];unfold cn;simp[b3]);go_wp2_with fail;go_ret;exact⟨hf.o.symm▸rfl,HB⟩
   ·have k3':(c2==3)=false:=by simpa using k3
    by_cases b2:c3=2
    ·subst b2;have hf:=H_ (show r=true by rw[<-HR.o];unfold cn;simp[k1,k2,k3]);go_wp2_with fail;go_ret;exact⟨hf.o.symm▸rfl,HB⟩
    ·have b2':(c3==2)=false:=by simpa using b2
     have hf:=H_ (show r=false by rw[<-HR.o];unfold cn;simp[k1,k2,k3,b2]);go_wp2_with fail;go_ret;exact⟨hf.o.symm▸rfl,HB⟩
theorem PN (a:ah) (w:World):Calls Tryz.prog 200 #[.agg (bn a).toArray] w (ap w (.bool (cn a))):=by
 obtain⟨r,hr⟩:=x_ (cn a);rw[hr];have HR:=H_ hr;clear hr;obtain⟨c1,c2,c3,c4⟩:=a;go_enter Tryz.func200,Tryz.ntmps200;go_upto_region 1 with fail;obtain⟨W,hW,H0,HB,yG,ewx⟩:=B_ w (.cells #[c1,c2,c3,c4] 78);rw[hW];clear ewx yG;have d1:=ab H0 1;have d2:=ab H0 2;clear hW H0;by_cases k1:c2=1
 ·subst k1;by_cases b1:c3=1
  ·subst b1;have hf:=H_ (show r=true by rw[<-HR.o];unfold cn;simp);go_wp2_with fail;go_ret;exact⟨hf.o.symm▸rfl,HB⟩
  ·have b1':(c3==1)=false:=by simpa using b1
   by_cases b3:c3=3
   ·subst b3;have hf:=H_ (show r=true by rw[<-HR.o];unfold cn;simp);go_wp2_with fail;go_ret;exact⟨hf.o.symm▸rfl,HB⟩
   ·have b3':(c3==3)=false:=by simpa using b3
    have hf:=H_ (show r=false by rw[<-HR.o];unfold cn;simp[b1,b3]);go_wp2_with fail;go_ret;exact⟨hf.o.symm▸rfl,HB⟩
 ·have k1':(c2==1)=false:=by simpa using k1
  by_cases k2:c2=2
  ·subst k2;by_cases b1:c3=1
   ·subst b1;have hf:=H_ (show r=true by rw[<-HR.o];unfold cn;simp);go_wp2_with fail;go_ret;exact⟨hf.o.symm▸rfl,HB⟩
   ·have b1':(c3==1)=false:=by simpa using b1
    by_cases b3:c3=3
    ·subst b3;have hf:=H_ (show r=true by rw[<-HR.o];unfold cn;simp);go_wp2_with fail;go_ret;exact⟨hf.o.symm▸rfl,HB⟩
    ·have b3':(c3==3)=false:=by simpa using b3
     have hf:=H_ (show r=false by rw[<-HR.o];unfold cn;simp[b1,b3]);go_wp2_with fail;go_ret;exact⟨hf.o.symm▸rfl,HB⟩
  ·have k2':(c2==2)=false:=by simpa using k2
   by_cases k3:c2=3
   ·subst k3;by_cases b3:c3=3
    ·subst b3;have hf:=H_ (show r=true by rw[<-HR.o];unfold cn;simp);go_wp2_with fail;go_ret;exact⟨hf.o.symm▸rfl,HB⟩
    ·have b3':(c3==3)=false:=by simpa using b3
     have hf:=H_ (show r=false by rw[<-HR.o];unfold cn;simp[b3]);go_wp2_with fail;go_ret;exact⟨hf.o.symm▸rfl,HB⟩
   ·have k3':(c2==3)=false:=by simpa using k3
    by_cases b2:c3=2
    ·subst b2;have hf:=H_ (show r=true by rw[<-HR.o];unfold cn;simp[k1,k2,k3]);go_wp2_with fail;go_ret;exact⟨hf.o.symm▸rfl,HB⟩
    ·have b2':(c3==2)=false:=by simpa using b2
     have hf:=H_ (show r=false by rw[<-HR.o];unfold cn;simp[k1,k2,k3,b2]);go_wp2_with fail;go_ret;exact⟨hf.o.symm▸rfl,HB⟩
structure dp where
 name:ByteArray:=ByteArray.empty
 code:Int:=0
 kind:Int:=0
 basis:Int:=0
 mapped:Bool:=false
def AP (q:dp):List Value:=[.string q.name,.int .i64 q.code,.int .i64 q.kind,.int .i64 q.basis,.bool q.mapped]
def vH (_:World) (_:Nat->Prop) (cs:List Value) (q:dp):Prop:=cs=AP q
def jM (r0 r1 r2 r3 r4 r5 r6 r7 r8 r9 cw cA cy ct cz:Int):List dp:=[{name:=⟨#[105,110,118,101,115,116,109,101,110,116]⟩,code:=r0,kind:=1,basis:=3,mapped:=true},{name:=⟨#[103,111,111,100,119,105,108,108]⟩,code:=r1,kind:=1,basis:=3,mapped:=false},{name:=⟨#[97,115,115,111,99,105,97,116,101,115]⟩,code:=r2,kind:=1,basis:=3,mapped:=false},{name:=⟨#[105,110,118,101,110,116,111,114,121]⟩,code:=r3,kind:=1,basis:=1,mapped:=true},{name:=⟨#[114,101,115,101,114,118,101]⟩,code:=r4,kind:=3,basis:=3,mapped:=false},{name:=⟨#[109,105,110,111,114,105,116,121]⟩,code:=r5,kind:=3,basis:=3,mapped:=false},{name:=⟨#[114,101,116,97,105,110,101,100]⟩,code:=r6,kind:=3,basis:=3,mapped:=true},{name:=⟨#[97,99,113,117,105,114,101,100]⟩,code:=r7,kind:=3,basis:=3,mapped:=false},{name:=⟨#[111,119,110,101,114,115]⟩,code:=r8,kind:=3,basis:=3,mapped:=false},{name:=⟨#[100,105,115,112,111,115,97,108]⟩,code:=r9,kind:=4,basis:=2,mapped:=false},{name:=⟨#[97,115,115,111,99,105,97,116,101,80,114,111,102,105,116]⟩,code:=cw,kind:=4,basis:=2,mapped:=false},{name:=⟨#[100,105,118,105,100,101,110,100,115]⟩,code:=cA,kind:=4,basis:=2,mapped:=true},{name:=⟨#[109,105,110,111,114,105,116,121,80,114,111,102,105,116]⟩,code:=cy,kind:=5,basis:=2,mapped:=false},{name:=⟨#[100,105,102,102,101,114,101,110,99,101]⟩,code:=ct,kind:=5,basis:=2,mapped:=false},{name:=⟨#[109,97,114,103,105,110]⟩,code:=cz,kind:=5,basis:=2,mapped:=false}]
theorem qU {β:Type} {w:World} {Q:Nat->Prop} {b sz:Nat} (f:β->List Value) (hf:∀x,(f x).length=sz):∀(xs:List β) (o:Nat),At w Q ⟨b,o,none⟩ (xs.flatMap f)->∀i x,xs[i]? =some x->At w Q ⟨b,o+i*sz,none⟩ (f x)
 |[],_,_,i,x,h=>by simp at h
 |y::xs,o,ha,i,x,h=>by
  rw[List.flatMap_cons]at ha;obtain⟨h1,h2⟩:=ha.split;cases i with
  |zero=>
   simp only[List.getElem?_cons_zero,Option.some.injEq]at h;subst h;simpa using h1
  |succ i=>
   simp only[List.getElem?_cons_succ]at h;rw[hf y]at h2;have:=qU f hf xs (o+sz) h2 i x h
   rwa[show o+(i+1)*sz=o+sz+i*sz from by rw[Nat.succ_mul];omega]
theorem yh {w:World} {Q:Nat->Prop} {g:Nat} {t:TypeId} {xs:List dp} {QG:Array Value} {n:Nat} (h:w.heap[g]? =some (.cells QG t (0,0))) (hQ:Q g) (ha:QG=(xs.flatMap AP).toArray) (hn:xs.length=n) (hm:n<=1000):aj vH 5 w Q [.slice (some ⟨g,0,none⟩) n n] xs:=by
 subst hn ha;have aS:At w Q ⟨g,0,none⟩ (xs.flatMap AP):=by
  have h2:=dO (cs:=xs.flatMap AP) h;exact⟨hQ,h2.2⟩
 exact⟨_,_,rfl,Nat.le_refl _,by unfold maxLen;omega,λ_=>⟨g,0,rfl,hQ,λi x hx=>⟨AP x,rfl,qU AP (λ_=>rfl) xs 0 aS i x hx⟩⟩⟩
theorem JB (r0 r1 r2 r3 r4 r5 r6 r7 r8 r9 cw cA cy ct cz:Int) (w:World):Calls Tryz.prog 183 #[.agg #[r0,r1,r2,r3,r4,r5,r6,r7,r8,r9,cw,cA,cy,ct,cz]] w (λe w'=>∃v,e=.returned v/\(∃A c,v=.slice A 15 c)/\aj vH 5 w' (λk=>w.heap.size<=k/\k<w'.heap.size) [v] (jM r0 r1 r2 r3 r4 r5 r6 r7 r8 r9 cw cA cy ct cz)/\Below w.heap.size w w'):=by
 go_enter Tryz.func183,Tryz.ntmps183;go_upto_region 1 with fail;obtain⟨W,hW,H0,HB,yG,ewx⟩:=B_ w (.cells #[r0,r1,r2,r3,r4,r5,r6,r7,r8,r9,cw,cA,cy,ct,cz] 26);rw[hW];clear ewx yG;have d0:=ab H0 0;have d1:=ab H0 1;have d2:=ab H0 2;have d3:=ab H0 3;have d4:=ab H0 4;have d5:=ab H0 5;have d6:=ab H0 6;have d7:=ab H0 7;have d8:=ab H0 8;have d9:=ab H0 9;have d10:=ab H0 10;have d11:=ab H0 11;have d12:=ab H0 12;have d13:=ab H0 13;have d14:=ab H0 14;clear hW H0;go_wp2_with fail;go_ret;exact⟨_,rfl,⟨_,_,rfl⟩,yh (heap_alloc_new W _) ⟨HB.size,by simp⟩ rfl rfl (by omega),HB.alloc HB.size _⟩
theorem EG (r0 r1 r2 r3 r4 r5 r6 r7 r8 r9 cw cA cy ct cz:Int) (w:World):Calls Tryz.prog 201 #[.agg #[r0,r1,r2,r3,r4,r5,r6,r7,r8,r9,cw,cA,cy,ct,cz]] w (λe w'=>∃v,e=.returned v/\(∃A c,v=.slice A 15 c)/\aj vH 5 w' (λk=>w.heap.size<=k/\k<w'.heap.size) [v] (jM r0 r1 r2 r3 r4 r5 r6 r7 r8 r9 cw cA cy ct cz)/\Below w.heap.size w w'):=by
 go_enter Tryz.func201,Tryz.ntmps201;go_upto_region 1 with fail;obtain⟨W,hW,H0,HB,yG,ewx⟩:=B_ w (.cells #[r0,r1,r2,r3,r4,r5,r6,r7,r8,r9,cw,cA,cy,ct,cz] 26);rw[hW];clear ewx yG;have d0:=ab H0 0;have d1:=ab H0 1;have d2:=ab H0 2;have d3:=ab H0 3;have d4:=ab H0 4;have d5:=ab H0 5;have d6:=ab H0 6;have d7:=ab H0 7;have d8:=ab H0 8;have d9:=ab H0 9;have d10:=ab H0 10;have d11:=ab H0 11;have d12:=ab H0 12;have d13:=ab H0 13;have d14:=ab H0 14;clear hW H0;go_wp2_with fail;go_ret;exact⟨_,rfl,⟨_,_,rfl⟩,yh (heap_alloc_new W _) ⟨HB.size,by simp⟩ rfl rfl (by omega),HB.alloc HB.size _⟩
theorem Hk (a:ah) (w:World):Calls Tryz.prog 181 #[.agg (bn a).toArray] w (ap w (.bool (!cn a))):=by
 obtain⟨c1,c2,c3,c4⟩:=a;go_enter Tryz.func181,Tryz.ntmps181;go_upto_region 1 with fail;obtain⟨W,hW,H0,HB,yG,ewx⟩:=B_ w (.cells #[c1,c2,c3,c4] 78);rw[hW];clear ewx yG;have d0:=ab H0 0;have d1:=ab H0 1;have d2:=ab H0 2;have d3:=ab H0 3;clear hW H0;go_wp2_with fail;refine(Sy ⟨c1,c2,c3,c4⟩ W).mono ?_;rintro e w2 ⟨rfl,aH⟩;go_wp2_with fail;go_ret;exact⟨rfl,HB.trans (aH.mono HB.size)⟩
def fz (ch:List ah) (L:List dp) (i:Nat):Bool:=match L[i]? with
 |none=>false
 |some q=>match aK ch q.code with
  |none=>false
  |some a=>a.kind==q.kind&&a.basis==q.basis&&!((L.take i).any λp=>p.code==q.code)
def oc (ch:List ah) (L:List dp):Bool:=(List.range L.length).all (fz ch L)
def cY (r:gG):List dp:=jM r.investment r.goodwill r.associates r.inventory r.reserve r.minority r.retained r.acquired r.owners r.disposal r.associateProfit r.dividends r.minorityProfit r.difference r.margin
def bR (ch:List ah) (r:gG):Bool:=ej ch true&&ch.all cn&&oc ch (cY r)
def n0 (ec ch:List ah) (l:bu):Bool:=match aK ec l.from_ with
 |none=>false
 |some a=>match aK ch l.to_ with
  |none=>false
  |some b=>a.kind==b.kind&&decide (inD l.since)
def gF (ec ch:List ah) (ls:List bu) (i:Nat):Bool:=match ls[i]? with
 |none=>false
 |some l=>n0 ec ch l&&!((ls.take i).any λk=>k.from_==l.from_&&k.since==l.since)
def pV (ec ch:List ah) (ls:List bu):Bool:=(List.range ls.length).all (gF ec ch ls)
def n8 (e:aV) (ch:List ah):Bool:=ej ch true&&ej e.chart false&&decide (e.links.length<=400)&&pV e.chart ch e.links
def fS (L:List dp) (c:Int):Bool:=L.any λq=>q.code==c&&!q.mapped
def iT (L:List dp) (c:Int):Bool:=L.foldl (λb q=>if c=q.code then !q.mapped else b) false
def dP (ch:List ah) (L:List dp) (e:aV):Bool:=lw e.name&&cQ e.currency&&n8 e ch&&e.links.all λl=> !fS L l.to_
def mK (ch:List ah) (L:List dp) (es:List aV) (i:Nat):Bool:=match es[i]? with
 |none=>false
 |some e=> !((es.take i).any λx=>decide (x.name=e.name))&&dP ch L e
def DX (ch:List ah) (L:List dp) (es:List aV):Bool:=(List.range es.length).all (mK ch L es)
def bh (g:au):Bool:=cQ g.currency&&du g.calendar.year g.calendar.month g.calendar.periods&&bR g.chart g.roles&&decide (1<=g.entities.length/\g.entities.length<=12)&&!(g.entities.getD 0 {}).joint&&DX g.chart (cY g.roles) g.entities
theorem EN {ch:List ah} {L:List dp} (h:oc ch L=true) {i j:Nat} (Gb:i<j) (hj:j<L.length):(L[i]'(by omega)).code≠L[j].code:=by
 unfold oc at h;rw[List.all_eq_true]at h;have h1:=h j (List.mem_range.2 hj);unfold fz at h1;rw[List.getElem?_eq_getElem hj]at h1;simp only at h1;cases hf:aK ch L[j].code with
 |none=>rw[hf]at h1;cases h1
 |some a=>
  rw[hf]at h1;simp only[Bool.and_eq_true,Bool.not_eq_true',List.any_eq_false,beq_iff_eq]at h1;refine h1.2 _ ?_;rw[List.mem_take_iff_getElem];exact⟨i,by omega,rfl⟩
theorem tc {L:List dp} {c:Int} {k:Nat} (hk:k<L.length):iT (L.take (k+1)) c=(if c=L[k].code then !L[k].mapped else iT (L.take k) c):=by
 unfold iT;rw[List.take_add_one,List.getElem?_eq_getElem hk,List.foldl_append];rfl
theorem s9 {L:List dp} (hd:∀i j (Gb:i<j) (hj:j<L.length),(L[i]'(by omega)).code≠L[j].code) (c:Int):∀k,k<=L.length->iT (L.take k) c=fS (L.take k) c
 |0,_=>rfl
 |k+1,hk=>by
  have bI:k<L.length:=hk;rw[tc bI,s9 hd c k (by omega)];unfold fS;rw[List.take_add_one,List.getElem?_eq_getElem bI,List.any_append];simp only[Option.toList_some,List.any_cons,List.any_nil,Bool.or_false];by_cases h:c=L[k].code
  ·rw[if_pos h];have h0:(L.take k).any (λq=>q.code==c&&!q.mapped)=false:=by
    rw[List.any_eq_false];intro q hq;rw[List.mem_take_iff_getElem]at hq;obtain⟨i,hi,rfl⟩:=hq;have:=hd i k (by omega) bI;rw[h];simp[this]
   rw[h0,h];simp
  ·rw[if_neg h];have:(L[k].code==c)=false:=by simpa using λe=>h e.symm
   rw[this];simp
theorem KZ {ch:List ah} {L:List dp} (h:oc ch L=true) (c:Int):iT L c=fS L c:=by
 have:=s9 (λi j Gb hj=>EN h Gb hj) c L.length (Nat.le_refl _)
 rwa[List.take_length]at this
theorem iV {α:Type} {L:List α} {k:Nat} (hk:k<L.length) (p:α->Bool):(L.take (k+1)).any p=((L.take k).any p||p L[k]):=by
 rw[List.take_add_one,List.getElem?_eq_getElem hk,List.any_append];simp
def ji (k b c:Int):ah:=⟨c,k,b,if c=1010\/c=1100\/c=1200 then 1000 else if c=2100\/c=4100 then c- 100 else 0⟩
def PY:List (Int × Int × List Int):=[(1,1,[1000,1010,1100,1200]),(1,3,[1300,1500,1600,1700]),(2,1,[2000,2100]),(3,3,[3000,3100,3200,3300,3400,3500]),(4,2,[4000,4100,4500,4600,4700]),(5,2,[5000,5100,5500,5600,5700])]
def ii:List ah:=[⟨1000,1,1,0⟩,⟨1010,1,1,1000⟩,⟨1100,1,1,1000⟩,⟨1200,1,1,1000⟩,⟨1300,1,3,0⟩,⟨1500,1,3,0⟩,⟨1600,1,3,0⟩,⟨1700,1,3,0⟩,⟨2000,2,1,0⟩,⟨2100,2,1,2000⟩,⟨3000,3,3,0⟩,⟨3100,3,3,0⟩,⟨3200,3,3,0⟩,⟨3300,3,3,0⟩,⟨3400,3,3,0⟩,⟨3500,3,3,0⟩,⟨4000,4,2,0⟩,⟨4100,4,2,4000⟩,⟨4500,4,2,0⟩,⟨4600,4,2,0⟩,⟨4700,4,2,0⟩,⟨5000,5,2,0⟩,⟨5100,5,2,0⟩,⟨5500,5,2,0⟩,⟨5600,5,2,0⟩,⟨5700,5,2,0⟩]
def B5:List Int:=[1,1,1,1,1,2,2,3,3,4,4,4,5,5]
def TA:List Int:=[1010,1100,1200,1300,1500,2000,2100,3000,3300,4000,4100,4700,5000,5100]
def dv:List ah:=[⟨10,1,0,0⟩,⟨20,1,0,0⟩,⟨30,1,0,0⟩,⟨40,1,0,0⟩,⟨50,1,0,0⟩,⟨60,2,0,0⟩,⟨70,2,0,0⟩,⟨80,3,0,0⟩,⟨90,3,0,0⟩,⟨100,4,0,0⟩,⟨110,4,0,0⟩,⟨120,4,0,0⟩,⟨130,5,0,0⟩,⟨140,5,0,0⟩]
def dw:List bu:=[⟨10,1010,-25567⟩,⟨20,1100,-25567⟩,⟨30,1200,-25567⟩,⟨40,1300,-25567⟩,⟨50,1500,-25567⟩,⟨60,2000,-25567⟩,⟨70,2100,-25567⟩,⟨80,3000,-25567⟩,⟨90,3300,-25567⟩,⟨100,4000,-25567⟩,⟨110,4100,-25567⟩,⟨120,4700,-25567⟩,⟨130,5000,-25567⟩,⟨140,5100,-25567⟩]
def BN (n c:ByteArray) (j:Bool):aV:={name:=n,currency:=c,chart:=dv,links:=dw,joint:=j}
def ZN:gG:={investment:=1500,goodwill:=1600,associates:=1700,inventory:=1200,reserve:=3100,minority:=3200,retained:=3300,acquired:=3400,owners:=3500,disposal:=4500,associateProfit:=4600,dividends:=4700,minorityProfit:=5500,difference:=5600,margin:=5700}
def oK:au:={currency:=⟨#[69,85,82]⟩,calendar:=⟨2026,1,36⟩,chart:=ii,roles:=ZN,entities:=[BN ⟨#[112,97,114,101,110,116]⟩ ⟨#[69,85,82]⟩ false,BN ⟨#[110,111,114,116,104]⟩ ⟨#[69,85,82]⟩ false,BN ⟨#[119,101,115,116]⟩ ⟨#[85,83,68]⟩ false,BN ⟨#[106,111,105,110,116]⟩ ⟨#[85,83,68]⟩ true]}
set_option maxRecDepth 100000 in
theorem akL:bh oK=true:=by decide+kernel
def iB {α:Type} (p:α->Bool) (l:List α):Int:=match l.findIdx? p with
 |some k=>(k:Int)
 |none=> -1
theorem nW {α:Type} {p:α->Bool} {l:List α} {k:Nat} (hk:k<l.length) (h:p l[k]=true) (hb:∀j (hj:j<l.length),j<k->p l[j]=false):iB p l=(k:Int):=by
 unfold iB;have:l.findIdx? p=some k:=by
  rw[List.findIdx?_eq_some_iff_getElem];exact⟨hk,h,λj hj=>by simpa using hb j (by omega) hj⟩
 rw[this]
theorem mf {α:Type} {p:α->Bool} {l:List α} (hb:∀j (hj:j<l.length),p l[j]=false):iB p l= -1:=by
 unfold iB;have:l.findIdx? p=none:=by
  rw[List.findIdx?_eq_none_iff];intro x hx;obtain⟨j,hj,rfl⟩:=List.getElem_of_mem hx;exact hb j hj
 rw[this]
theorem Jh {α:Type} (p:α->Bool) (l:List α):decide (0<=iB p l)=l.any p:=by
 unfold iB;cases h:l.findIdx? p with
 |none=>
  rw[List.findIdx?_eq_none_iff]at h;have:l.any p=false:=by
   rw[List.any_eq_false];intro x hx;simpa using h x hx
  rw[this];rfl
 |some k=>
  rw[List.findIdx?_eq_some_iff_getElem]at h;obtain⟨hk,hp,_⟩:=h;have:l.any p=true:=List.any_eq_true.2 ⟨l[k],List.getElem_mem hk,hp⟩;rw[this];show decide ((0:Int)<=(k:Int))=true;exact decide_eq_true (by omega)
theorem Zv (l:List ah) (A:Option Addr) (c:Nat) (w:World) (hl:aj ar 4 w (·<w.heap.size) [.slice A l.length c] l) (hn:l.length<=1000):Calls Tryz.prog 158 #[.slice A l.length c,.func (.func 181) #[] #[]] w (ap w (.int .i64 (iB (λa=> !cn a) l))):=by
 obtain⟨r,hr⟩:=x_ (iB (λa=> !cn a) l);rw[hr];have HR:=H_ hr;clear hr;obtain⟨n,bj⟩:=x_ (l.length);rw[bj]at hn;have HL:=H_ hl;have HN:=H_ bj;rw[bj];clear hl bj;go_enter Tryz.func158,Tryz.ntmps158;go_wp2_with fail
 go_loopw [8] (λi wr=>∃k:Nat,k<=n/\i=.int .i64 (k:Int)/\Below w.heap.size w wr/\∀j (hj:j<l.length),j<k->cn l[j]=true) (λi _=>n- (intOf i).toNat)
 case atStart=>exact⟨0,by omega,rfl,Below.refl _ _,λj hj h=>by omega⟩
 case round=>
  obtain⟨k,hk,rfl,hb,hall⟩:=hrel;have HA:=H_ hall;clear hall;have bP:=hb.size;by_cases aU:k<n
  case pos=>
   have bq:(k:Int)< (n:Int):=by omega
   have bI:k<l.length:=by rw[HN.o];exact aU
   obtain⟨b,o,es,dj,ed,bL,aS⟩:=aj.get HL.o k bI;subst dj;obtain⟨bE,eL,aH,aZ,bU⟩:=ar.lit bL;rw[bE]at aS;obtain⟨ac,ni⟩:=x_ (l[k]);rw[ni]at aS;have nH:=H_ ni;have eZ:=H_ ((aS.fr (Fr.ofBelow hb)).range);clear bL bE aS ni eL aH aZ bU;go_wp2_with (refine w_ 15 78 14 b (o+k*4) (bn ac) eZ.o (cG _) Tryz.underlying78 ?_);refine(Hk ac wr).mono ?_;rintro e w2 ⟨rfl,aH⟩;have dA:=hb.trans (aH.mono hb.size);cases hp:cn ac with
   |false=>
    have hf:=H_ (show r=(k:Int) by rw[<-HR.o];exact nW bI (by rw[nH.o,hp];rfl) (λj hj m7=>by rw[HA.o j hj m7];rfl));clear hp;simp only[Bool.not_false];go_wp2_with fail;go_ret;exact⟨hf.o.symm▸rfl,dA⟩
   |true=>
    have HP:=H_ hp;clear hp;simp only[Bool.not_true];go_wp2_with fail;go_roundw
    case rel=>exact⟨k+1,by omega,by go_num,dA,λj hj m7=>by
     rcases Nat.lt_or_ge j k with h|h
     ·exact HA.o j hj h
     ·have:j=k:=by omega
      subst this;rw[nH.o];exact HP.o⟩
    case measure=>
     have e:wrap64 ((k:Int)+1)=((k+1:Nat):Int):=by unfold wrap64;omega
     simp only[intOf,e];omega
  case neg=>
   have bq:¬(k:Int)< (n:Int):=by omega
   have hf:=H_ (show r= -1 by rw[<-HR.o];exact mf (λj hj=>by rw[HA.o j hj (by have:=HN.o;omega)];rfl));go_wp2_with fail;go_ret;exact⟨hf.o.symm▸rfl,hb⟩
theorem Zf (l:List ah) (A:Option Addr) (c:Nat) (w:World) (hl:aj ar 4 w (·<w.heap.size) [.slice A l.length c] l) (hn:l.length<=1000):Calls Tryz.prog 180 #[.slice A l.length c,.func (.func 181) #[] #[]] w (ap w (.bool (!l.all cn))):=by
 have aM:=Zv l A c w hl hn;obtain⟨n,bj⟩:=x_ (l.length);rw[bj]at aM |-;have hh:decide (0<=iB (λa=> !cn a) l)= !l.all cn:=by rw[Jh,List.not_all_eq_any_not]
 obtain⟨i,hi⟩:=x_ (iB (λa=> !cn a) l);rw[hi]at aM hh;rw[<-hh];clear hh hi;go_enter Tryz.func180,Tryz.ntmps180;go_wp2_with fail;refine aM.mono ?_;clear aM;rintro e w2 ⟨rfl,aH⟩;by_cases h:0<=i
 ·have hf:decide (0<=i)=true:=decide_eq_true h;have HF:=H_ hf;clear hf;go_wp2_with fail;go_ret;exact⟨by rw[HF.o];first|done|rfl,aH⟩
 ·have hf:decide (0<=i)=false:=decide_eq_false h;have HF:=H_ hf;clear hf;go_wp2_with fail;go_ret;exact⟨by rw[HF.o];first|done|rfl,aH⟩
abbrev fT (aw:ByteArray) (y m p:Int) (Ac:Option Addr) (n cc:Nat) (r0 r1 r2 r3 r4 r5 r6 r7 r8 r9 cw cA cy ct cz:Int) (Ae:Option Addr) (ne ce:Nat):List Value:=[.string aw,.int .i64 y,.int .i64 m,.int .i64 p,.slice Ac n cc,.int .i64 r0,.int .i64 r1,.int .i64 r2,.int .i64 r3,.int .i64 r4,.int .i64 r5,.int .i64 r6,.int .i64 r7,.int .i64 r8,.int .i64 r9,.int .i64 cw,.int .i64 cA,.int .i64 cy,.int .i64 ct,.int .i64 cz,.slice Ae ne ce]
abbrev eI (l:bu):List Value:=[.int .i64 l.from_,.int .i64 l.to_,.int .i64 l.since]
def mM (l:bu):Prop:=cx l.from_/\cx l.to_/\cx l.since
theorem bJ.lit {w:World} {Q:Nat->Prop} {cs:List Value} {x:bu} (h:bJ w Q cs x):cs=eI x/\mM x:=by
 obtain⟨c0,c1,c2,rfl,⟨rfl,h0⟩,⟨rfl,h1⟩,⟨rfl,h2⟩⟩:=h;exact⟨rfl,h0,h1,h2⟩
abbrev lH (s c:ByteArray) (Ac:Option Addr) (n cc:Nat) (Al:Option Addr) (nl cl:Nat) (j:Bool):List Value:=[.string s,.string c,.slice Ac n cc,.slice Al nl cl,.bool j]
theorem aN.lit {w:World} {Q:Nat->Prop} {cs:List Value} {x:aV} (h:aN w Q cs x):∃Ac cc Al cl,cs=lH x.name x.currency Ac x.chart.length cc Al x.links.length cl x.joint/\aj ar 4 w Q [.slice Ac x.chart.length cc] x.chart/\aj bJ 3 w Q [.slice Al x.links.length cl] x.links:=by
 obtain⟨c0,c1,c2,c3,c4,rfl,h0,h1,h2,h3,h4⟩:=h;have e0:c0=_:=h0;have e1:c1=_:=h1;have e4:c4=_:=h4;subst e0 e1 e4;obtain⟨A,c,e,_⟩:=h2.form;subst e;obtain⟨A',c',e,_⟩:=h3.form;subst e;exact⟨A,c,A',c',rfl,h2,h3⟩
def JA (r:gG):Prop:=cx r.investment/\cx r.goodwill/\cx r.associates/\cx r.inventory/\cx r.reserve/\cx r.minority/\cx r.retained/\cx r.acquired/\cx r.owners/\cx r.disposal/\cx r.associateProfit/\cx r.dividends/\cx r.minorityProfit/\cx r.difference/\cx r.margin
theorem dH.lit {w:World} {Q:Nat->Prop} {cs:List Value} {r:gG} (h:dH w Q cs r):cs=[.int .i64 r.investment,.int .i64 r.goodwill,.int .i64 r.associates,.int .i64 r.inventory,.int .i64 r.reserve,.int .i64 r.minority,.int .i64 r.retained,.int .i64 r.acquired,.int .i64 r.owners,.int .i64 r.disposal,.int .i64 r.associateProfit,.int .i64 r.dividends,.int .i64 r.minorityProfit,.int .i64 r.difference,.int .i64 r.margin]/\JA r:=by
 obtain⟨c0,c1,c2,c3,c4,c5,c6,c7,c8,c9,Rz,Nt,RX,c13,c14,rfl,⟨rfl,h0⟩,⟨rfl,h1⟩,⟨rfl,h2⟩,⟨rfl,h3⟩,⟨rfl,h4⟩,⟨rfl,h5⟩,⟨rfl,h6⟩,⟨rfl,h7⟩,⟨rfl,h8⟩,⟨rfl,h9⟩,⟨rfl,dl⟩,⟨rfl,dx⟩,⟨rfl,et⟩,⟨rfl,fA⟩,⟨rfl,gQ⟩⟩:=h;exact⟨rfl,h0,h1,h2,h3,h4,h5,h6,h7,h8,h9,dl,dx,et,fA,gQ⟩
theorem iK.lit {w:World} {Q:Nat->Prop} {cs:List Value} {x:BE} (h:iK w Q cs x):cs=[.int .i64 x.year,.int .i64 x.month,.int .i64 x.periods]/\cx x.year/\cx x.month/\cx x.periods:=by
 obtain⟨c0,c1,c2,rfl,⟨rfl,h0⟩,⟨rfl,h1⟩,⟨rfl,h2⟩⟩:=h;exact⟨rfl,h0,h1,h2⟩
theorem aL.lit {w:World} {Q:Nat->Prop} {cs:List Value} {g:au} (h:aL w Q cs g):∃Ac cc Ae ce,cs=fT g.currency g.calendar.year g.calendar.month g.calendar.periods Ac g.chart.length cc g.roles.investment g.roles.goodwill g.roles.associates g.roles.inventory g.roles.reserve g.roles.minority g.roles.retained g.roles.acquired g.roles.owners g.roles.disposal g.roles.associateProfit g.roles.dividends g.roles.minorityProfit g.roles.difference g.roles.margin Ae g.entities.length ce/\aj ar 4 w Q [.slice Ac g.chart.length cc] g.chart/\aj aN 5 w Q [.slice Ae g.entities.length ce] g.entities/\(cx g.calendar.year/\cx g.calendar.month/\cx g.calendar.periods)/\JA g.roles:=by
 obtain⟨c0,c1,c2,c3,c4,rfl,h0,h1,h2,h3,h4⟩:=h;have e0:c0=_:=h0;subst e0;obtain⟨rfl,b1⟩:=h1.lit;obtain⟨rfl,b3⟩:=h3.lit;obtain⟨A,c,e,_⟩:=h2.form;subst e;obtain⟨A',c',e,_⟩:=h4.form;subst e;exact⟨A,c,A',c',rfl,h2,h4,b1,b3⟩
theorem pW {w w':World} {cs:List Value} {l:List bu} (h:aj bJ 3 w (·<w.heap.size) cs l) (hb:Below w.heap.size w w'):aj bJ 3 w' (·<w'.heap.size) cs l:=
 (h.fr (λh=>bJ.fr h (Fr.ofBelow hb)) (Fr.ofBelow hb)).mono (λh=>bJ.mono h (λk hk=>by have:=hb.size;omega)) (λk hk=>by have:=hb.size;omega)
theorem kI:(Tryz.prog.info? 26).map (·.size)=some 15:=by kernel_rfl
theorem Ax:(Tryz.prog.info? 222).map (·.size)=some 5:=by kernel_rfl
theorem ay:(Tryz.prog.info? 29).map (·.size)=some 21:=by kernel_rfl
theorem cD:(Tryz.prog.info? 74).map (·.size)=some 5:=by kernel_rfl
theorem dE:(Tryz.prog.info? 154).map (·.size)=some 3:=by kernel_rfl
theorem aQ {n k:Nat} (h:k<n):n- (intOf (.int .i64 ((k:Int)+1))).toNat<n- (intOf (.int .i64 (k:Int))).toNat:=by
 show n- ((k:Int)+1).toNat<n- ((k:Int)).toNat
 omega
def QX (B b k:Nat):Prop:=k<B/\k≠b
theorem gM {ch:List ah} {r:gG} {L:List dp} {k:Nat} (hL:cY r=L) (hk:k<L.length) (h:fz ch L k=false):bR ch r=false:=by
 unfold bR oc;rw[hL,bt hk h,Bool.and_false]
theorem I0 {ch:List ah} {r:gG} {L:List dp} (hL:cY r=L) (h1:ej ch true=true) (h2:ch.all cn=true) (h:∀k,k<L.length->fz ch L k=true):bR ch r=true:=by
 unfold bR oc;rw[hL,bQ h,h1,h2];rfl
section
variable {ch:List ah} {L:List dp} {k:Nat} {q:dp} {a:ah}
theorem EO (hk:L[k]? =some q) (h:aK ch q.code=none):fz ch L k=false:=by unfold fz;rw[hk];simp only;rw[h]
theorem od (hk:L[k]? =some q) (h:aK ch q.code=some a):fz ch L k=(a.kind==q.kind&&a.basis==q.basis&&!((L.take k).any λp=>p.code==q.code)):=by unfold fz;rw[hk];simp only;rw[h]
end
theorem Ml {L:List dp} {k:Nat} {q:dp} (hk:L[k]? =some q) {F:Int->Bool} (hF:(λd=>(L.take k).any λp=>p.code==d)=F) (d:Int):(if d=q.code then true else F d)=(L.take (k+1)).any λp=>p.code==d:=by
 obtain⟨hl,rfl⟩:=List.getElem?_eq_some_iff.1 hk;rw[iV hl,<-hF];by_cases h:d=L[k].code
 ·rw[if_pos h,h];simp
 ·rw[if_neg h,show(L[k].code==d)=false from by simpa using λe=>h e.symm,Bool.or_false]
theorem Gz (g:au) (cs:List Value) (w:World) (hg:aL w (·<w.heap.size) cs g) (hn:g.chart.length<=1000):Calls Tryz.prog 146 #[.agg cs.toArray] w (ap w (.bool (bR g.chart g.roles))):=by
 have Iz:=@run_makeMap Tryz.prog;obtain⟨Ac,cc,Ae,ce,rfl,ee,iu,eu,mD⟩:=hg.lit;clear hg;obtain⟨aw,⟨y,m,p⟩,ch,⟨r0,r1,r2,r3,r4,r5,r6,r7,r8,r9,cw,cA,cy,ct,cz⟩,es⟩:=g;simp only at ee iu mD eu hn |-;obtain⟨r,hr⟩:=x_ (bR ch ⟨r0,r1,r2,r3,r4,r5,r6,r7,r8,r9,cw,cA,cy,ct,cz⟩);rw[hr];have HR:=H_ hr;clear hr;obtain⟨L,hL⟩:=x_ (jM r0 r1 r2 r3 r4 r5 r6 r7 r8 r9 cw cA cy ct cz);have CI:L.length=15:=by rw[<-hL];rfl
 have tU:=H_ hL;have Bw:=H_ CI;obtain⟨n,bj⟩:=x_ (ch.length);obtain⟨ne,bT⟩:=x_ (es.length);have HL:=H_ ee;have HN:=H_ bj;have HE:=H_ iu;have eP:=H_ bT;rw[bj,bT];rw[bj]at hn;clear hL CI ee iu bj bT eu;have hrb:∀q∈L,cx q.code:=by
  rw[<-tU.o];obtain⟨b0,b1,b2,b3,b4,b5,b6,b7,b8,b9,b10,b11,b12,b13,b14⟩:=mD;intro q hq;simp only[jM,List.mem_cons,List.not_mem_nil,or_false]at hq;rcases hq with rfl|rfl|rfl|rfl|rfl|rfl|rfl|rfl|rfl|rfl|rfl|rfl|rfl|rfl|rfl<;>assumption
 have Ki:=H_ hrb;clear hrb mD;show Calls Tryz.prog 146 #[.agg #[aw,y,m,p,.slice Ac n cc,r0,r1,r2,r3,r4,r5,r6,r7,r8,r9,cw,cA,cy,ct,cz,.slice Ae ne ce]] w (ap w (.bool r));go_enter Tryz.func146,Tryz.ntmps146;go_upto_region 1 with fail;obtain⟨W,hW,H,HB,HS,ewx⟩:=B_ w (.cells #[aw,y,m,p,.slice Ac n cc,r0,r1,r2,r3,r4,r5,r6,r7,r8,r9,cw,cA,cy,ct,cz,.slice Ae ne ce] 29);rw[hW];clear ewx;clear hW;have d4:=ab H 4;have yM:=H_ ((dO (cs:=[.string aw,.int .i64 y,.int .i64 m,.int .i64 p,.slice Ac n cc]++([.int .i64 r0,.int .i64 r1,.int .i64 r2,.int .i64 r3,.int .i64 r4,.int .i64 r5,.int .i64 r6,.int .i64 r7,.int .i64 r8,.int .i64 r9,.int .i64 cw,.int .i64 cA,.int .i64 cy,.int .i64 ct,.int .i64 cz]++[.slice Ae ne ce])) H).split.2.split.1);have rL:=H_ H;clear H;go_wp2_with fail;have aM:=qQ ch Ac cc true W (az HL.o HB) (by rw[HN.o];exact hn);rw[HN.o]at aM;refine aM.mono ?_;clear aM;rintro e w2 ⟨rfl,aH⟩;have dA:=HB.trans (aH.mono HB.size);cases hc:ej ch true with
 |false=>
  have hf:=H_ (show r=false by rw[<-HR.o];unfold bR;rw[hc];rfl);clear hc;go_wp2_with fail;go_ret;exact⟨hf.o.symm▸rfl,dA⟩
 |true=>
  have HC:=H_ hc;have G2:=(aH.block _ HS).trans rL.o;have e4:=ab G2 4;clear hc d4;go_wp2_with fail;have aM:=Zf ch Ac cc w2 (az HL.o dA) (by rw[HN.o];exact hn);rw[HN.o]at aM;refine aM.mono ?_;clear aM;rintro e w3 ⟨rfl,aZ⟩;have Vs:=dA.trans (aZ.mono dA.size);have dW:=aH.size;have lE:=aZ.size;have G3:=(aZ.block _ (by omega)).trans G2;clear e4;cases hd:ch.all cn with
  |false=>
   have hf:=H_ (show r=false by rw[<-HR.o];unfold bR;rw[hd,Bool.and_false];rfl);clear hd;simp only[Bool.not_false];go_wp2_with fail;go_ret;exact⟨hf.o.symm▸rfl,Vs⟩
  |true=>
   have HD:=H_ hd;clear hd;simp only[Bool.not_true];go_upto_region 4 with fail;have CO:=pd.made Tryz.prog 3 4 qV w3;have gw:=ai w3 (.map #[] 0);have Bo:w3.heap.size+1=(w3.alloc (.map #[] 0)).heap.size:=by simp
   have G4:=al G3 (.map #[] 0);generalize JU:w3.alloc (Obj.map #[] 0)=W4 at*;clear JU;have e5:W4.rangeAt w.heap.size 5 [r0,r1,r2,r3,r4,r5,r6,r7,r8,r9,cw,cA,cy,ct,cz]:=((yM.o.fr (Fr.ofBelow aH)).fr ((Fr.ofBelow (aZ.trans (gw.mono lE))).mono (λk (hk:k<W.heap.size)=>by omega))).range;have sU:=H_ e5;have iX:=H_ G4;clear e5 G4 G3 G2;go_wp2_with (refine w_ 19 26 18 w.heap.size 5 [r0,r1,r2,r3,r4,r5,r6,r7,r8,r9,cw,cA,cy,ct,cz] sU.o kI Tryz.underlying26 ?_);refine(JB r0 r1 r2 r3 r4 r5 r6 r7 r8 r9 cw cA cy ct cz W4).mono ?_;rintro e w5 ⟨v,rfl,⟨A,c,rfl⟩,Ge,cP⟩;rw[tU.o]at Ge;have FB:=H_ (show aj vH 5 w5 (λk=>W4.heap.size<=k/\k<w5.heap.size) [.slice A L.length c] L by rw[Bw.o];exact Ge);have QU:=cP.size;have jE:=Vs.trans ((gw.mono Vs.size).trans (cP.mono (by omega)));have Oe:=CO.below cP;have YG:=H_ ((cP.block _ (by omega)).trans iX.o);clear Ge CO;go_wp2_with fail
   go_loopw [22] (λi wr=>∃k:Nat,k<=15/\i=.int .i64 (k:Int)/\Fr (QX w5.heap.size w3.heap.size) w5 wr/\KM wr w3.heap.size k (λd=>(L.take k).any λp=>p.code==d)/\∀j,j<k->fz ch L j=true) (λi _=>15- (intOf i).toNat)
   case atStart=>exact⟨0,by omega,rfl,Fr.refl _ _,Oe.eqv (λ_=>rfl),λj hj=>by omega⟩
   case round=>
    obtain⟨k,hk,rfl,lM,fD,hall⟩:=hrel;have HA:=H_ hall;have HF:=H_ lM;have bP:=lM.size;clear hall lM;have el:Below w.heap.size w wr:=((Fr.ofBelow jE).trans (HF.o.mono (λk (hk:k<w.heap.size)=>⟨by omega,by omega⟩))).below;by_cases aU:k<15
    case pos=>
     have bq:(k:Int)<15:=by omega
     have bI:k<L.length:=by rw[Bw.o];exact aU
     obtain⟨b,o,rz,dj,ed,bL,aS⟩:=aj.get FB.o k bI;subst dj;obtain⟨q,hq⟩:=x_ (L[k]);have zO:=Ki.o _ (List.getElem_mem bI);rw[hq]at bL zO;have HQ:=H_ (show L[k]? =some q by rw[List.getElem?_eq_getElem bI,hq]);obtain⟨qn,qc,qk,qb,qm⟩:=q;have M3:=H_ zO;obtain⟨abQ,aa7⟩:=zO;have bE:rz=[.string qn,.int .i64 qc,.int .i64 qk,.int .i64 qb,.bool qm]:=bL;subst bE;have eZ:=H_ ((aS.fr (HF.o.mono (λk hk=>⟨hk.2,by omega⟩))).range);have G6:=(HF.o.block w.heap.size ⟨by omega,by omega⟩).trans YG.o;have Vw:=H_ (az HL.o el);obtain⟨F,hF⟩:=x_ ((λd=>(L.take k).any λp=>p.code==d));rw[hF]at fD;have kV:=H_ hF;clear bL aS hq hF ed;go_upto_region 7 with(refine w_ 25 222 24 b (o+k*5) [qn,qc,qk,qb,qm] eZ.o Ax Tryz.underlying222 ?_);obtain⟨W6,mC,H6,dK,my,ewx⟩:=B_ wr (.cells #[qn,qc,qk,qb,qm] 222);rw[mC];replace G6:=(dK.block _ (ag G6)).trans G6;clear ewx;clear mC;have f1:=ab H6 1;have d4:=ab G6 4;have jP:=fD.below dK;have sS:=H_ H6;have HG6:=H_ G6;have ady:=H_ (az Vw.o dK);clear H6 G6 fD;go_wp2_with fail;have aM:=mL ch Ac cc qc W6 ady.o M3.o (by rw[HN.o];exact hn);rw[HN.o]at aM;refine aM.mono ?_;clear aM;rintro e w7 ⟨rfl,fC⟩;have MV:=dK.size;have QN:=fC.size;have qM:=jP.below fC;have J7:=dK.trans (fC.mono dK.size);have gb:=el.trans (J7.mono el.size);cases ha:aK ch qc with
     |none=>
      have e0:cF ch qc=.tuple #[.agg (bn {}).toArray,false]:=fJ ha;rw[e0];have hf:=H_ (show r=false by rw[<-HR.o];exact gM (L:=L) tU.o bI (EO HQ.o ha));clear e0 ha;go_wp2_with fail;go_ret;exact⟨hf.o.symm▸rfl,gb.alloc gb.size _⟩
     |some pa=>
      have e0:cF ch qc=.tuple #[.agg (bn pa).toArray,true]:=eD ha;rw[e0];have gc:=H_ (od HQ.o ha);clear e0 ha;obtain⟨p1,p2,p3,p4⟩:=pa;have G7:=(fC.block _ (by omega)).trans HG6.o;have K7:=(fC.block _ my).trans sS.o;go_upto_region 8 with fail;obtain⟨W8,Q6,H8,o9,XW,ewx⟩:=B_ w7 (.cells #[p1,p2,p3,p4] 78);rw[Q6];replace G7:=(o9.block _ (ag G7)).trans G7;replace K7:=(o9.block _ (ag K7)).trans K7;clear ewx;clear Q6;have g1:=ab H8 1;have g2:=ab H8 2;have f1:=ab K7 1;have f2:=ab K7 2;have f3:=ab K7 3;have iD:=qM.below o9;have kw:=gb.trans (o9.mono gb.size);have Bt:=J7.trans (o9.mono J7.size);have QC:=o9.size;clear H8 K7 G7 qM;cases kr:F qc with
      |true=>
       have hf:=H_ (show r=false by rw[<-HR.o];exact gM (L:=L) tU.o bI (by rw[gc.o,show((L.take k).any λp=>p.code==qc)=true from(congrFun kV.o qc).trans kr];simp));go_wp2_with (at_lookup;refine bO rfl _ _ 218 rfl 3 4 dI gx de (dU _) w3.heap.size k F rfl iD _ qc rfl (gD M3.o) ?_);go_ret;exact⟨hf.o.symm▸rfl,kw⟩
      |false=>
      by_cases h1:p2=qk
      case neg=>
       have h1':(p2 !=qk)=true:=by simpa using h1
       have hf:=H_ (show r=false by rw[<-HR.o];exact gM (L:=L) tU.o bI (by rw[gc.o,show(p2==qk)=false from by simpa using h1];rfl));go_wp2_with (at_lookup;refine bO rfl _ _ 218 rfl 3 4 dI gx de (dU _) w3.heap.size k F rfl iD _ qc rfl (gD M3.o) ?_);go_ret;exact⟨hf.o.symm▸rfl,kw⟩
      case pos=>
      have h1':(p2 !=qk)=false:=by simpa using h1
      by_cases h2:p3=qb
      case neg=>
       have h2':(p3 !=qb)=true:=by simpa using h2
       have hf:=H_ (show r=false by rw[<-HR.o];exact gM (L:=L) tU.o bI (by rw[gc.o,show(p3==qb)=false from by simpa using h2,Bool.and_false];rfl));go_wp2_with (at_lookup;refine bO rfl _ _ 218 rfl 3 4 dI gx de (dU _) w3.heap.size k F rfl iD _ qc rfl (gD M3.o) ?_);go_ret;exact⟨hf.o.symm▸rfl,kw⟩
      case pos=>
      have h2':(p3 !=qb)=false:=by simpa using h2
      have aaY:=H_ (show fz ch L k=true by rw[gc.o,show((L.take k).any λp=>p.code==qc)=false from(congrFun kV.o qc).trans kr,h1,h2];simp);go_wp2_with (first|(at_lookup;refine bO rfl _ _ 218 rfl 3 4 dI gx de (dU _) w3.heap.size k F rfl iD _ qc rfl (gD M3.o) ?_)|(at_mapUpdate;refine dV rfl _ _ _ 218 rfl 3 4 dI gx de w3.heap.size k F rfl iD (by simp only[maxLen];omega) qW nV _ qc rfl true rfl (gD M3.o) ?_;intro w9 qG gk;replace qG:=H_ qG));go_roundw
      case rel=>
       refine⟨k+1,by omega,by go_num,?_,?_,?_⟩
       ·exact(HF.o.trans ((Fr.ofBelow Bt).mono (λk hk=>by have:=hk.1;omega))).grown gk (λk hk=>hk.1) (λj hj=>by injection hj with hj;exact λh=>h.2 hj.symm)
       ·exact qG.o.eqv (λd=>Ml HQ.o kV.o d)
       ·intro j hj;rcases Nat.lt_or_ge j k with h|h
        ·exact HA.o j h
        ·have:j=k:=by omega
         subst this;exact aaY.o
      case measure=>
       exact aQ aU
    case neg=>
     have bq:¬(k:Int)<15:=by omega
     have hf:=H_ (show r=true by rw[<-HR.o];exact I0 (L:=L) tU.o HC.o HD.o (λj hj=>HA.o j (by have:=Bw.o;omega)));go_wp2_with fail;go_ret;exact⟨hf.o.symm▸rfl,el⟩
def vQ (md:Region.Mode) (ops:Array Oper) (m:Nat):Bool:=(List.range (ops.size- m)).all (λj=>Region.ready md ops (bz (m+j) ops.size)==[m+j])&&Region.ready md ops (bz ops.size ops.size)==[]
theorem BU (m n:Nat) (h:m<n):(bz m n).setIfInBounds m true=bz (m+1) n:=by
 apply Array.ext
 ·simp[bz]
 ·intro i h1 h2;simp only[bz,List.size_toArray,List.length_map,List.length_range,Array.size_setIfInBounds]at h1 h2;rw[Array.getElem_setIfInBounds (by simpa[bz]using h1)];simp only[bz,List.getElem_toArray,List.getElem_map,List.getElem_range];by_cases hi:m=i
  ·subst hi;simp
  ·rw[if_neg hi];have:(i<m)↔(i<m+1):=by omega
   simp[this]
theorem ag0 {P:Program} {md:Region.Mode} {ops:Array Oper} {Q:Exit->Act->World->Prop} (f:Nat):∀(d m:Nat) (a:Act) (w:World),m+d=ops.size->(∀i,m<=i->i<ops.size->Region.ready md ops (bz i ops.size)=[i])->Region.ready md ops (bz ops.size ops.size)=[]->
 wpList P ops Q (ops.toList.drop m) a w->wpAny P md ops Q (f+d) (bz m ops.size) a w
 |0,m,a,w,hm,hr,h0,h=>by
  have hm':m=ops.size:=by omega
  subst hm';rw[List.drop_eq_nil_of_le (by simp)]at h;exact wpAny_done h0 h _
 |d+1,m,a,w,hm,hr,h0,h=>by
  have aU:m<ops.size:=by omega
  refine wpAny_all (rs:=[m]) (hr m (Nat.le_refl _) aU) (by simp) (λi hi=>?_);obtain rfl:i=m:=by simpa using hi
  rw[BU i ops.size aU];have ho:ops[i]? =some ops[i]:=Array.getElem?_eq_getElem aU;have hd:ops.toList.drop i=ops[i]::ops.toList.drop (i+1):=by
   rw[List.drop_eq_getElem_cons (by simpa using aU)];simp
  rw[hd]at h;unfold wpOp;rw[ho];simp only[wpList]at h;have ih:=λa w=>ag0 (P:=P) (md:=md) (ops:=ops) (Q:=Q) f d (i+1) a w (by omega) (λj hj=>hr j (by omega)) h0
  show if Region.wanted ops[i] (yielded ops a.tmps)=true then _ else _
  split
  ·rename_i hw;rw[if_pos hw]at h;rcases h with h|h
   ·exact .inl (Oper.wp_mono ih h)
   ·exact .inr h
  ·rename_i hw;rw[if_neg hw]at h;exact ih _ _ h
theorem oh {P:Program} {md:Region.Mode} {ops:Array Oper} {Q:Exit->Act->World->Prop} {f m:Nat} {a:Act} {w:World} (hc:vQ md ops m=true) (hm:m<ops.size) (h:wpList P ops Q (ops.toList.drop m) a w):wpAny P md ops Q (f+(ops.size- m)) (bz m ops.size) a w:=by
 unfold vQ at hc;simp only[Bool.and_eq_true,List.all_eq_true,beq_iff_eq,List.mem_range]at hc;exact ag0 f _ m a w (by omega) (λi h1 h2=>by have:=hc.1 (i- m) (by omega);rwa[show m+(i- m)=i from by omega]at this) hc.2 h
theorem dC {P:Program} {ops:Array Oper} {Q:Exit->Act->World->Prop} (m:Nat) (V:Nat->Value->World->Prop) (S:World->Prop) {id:Nat} {a:Act} {w:World}
 (hm:P.follows .mixedOrders=true) (ho:rj .any ops=true) (hd:v8 ops a.tmps.size=true) (nz:m<ops.size) (jd:jN .any ops m=true) (lD:eQ .any ops m=true) (ee:vQ .any ops m=true) (hS:S w.drew)
 (dy:ei (dG P .any ops Q V S a) 0 (ops.toList.take m))
 (kA:∀a' w',Inv .any ops V S a (bz m ops.size) a' w'->wpList P ops Q (ops.toList.drop m) a' w'):(Code.region id ops true).wp P Q a w:=
 tJ m V S hm ho hd nz jd lD hS dy (λf a' w' hI=>oh ee nz (kA a' w' hI))
def yB (md:Region.Mode) (iW:Nat->Bool) (ops:Array Oper) (m:Nat):Bool:=
 (List.range m).all λi=>iW i||((List.range ops.size).drop (i+1)).any λj=>decide (j<=m)&&!(decide (j<m)&&iW j)&&match ops[j]? with
  |some o=>o.after.toList.any λe=>Region.binds md e&&e.on==i
  |none=>false
theorem tq {md:Region.Mode} {iW:Nat->Bool} {ops:Array Oper} {V:Nat->Value->World->Prop} {S:World->Prop} {a0:Act} {listed:Array Bool} {a:Act} {w:World} {m:Nat} (hI:Inv md ops V S a0 listed a w)
 (h:yB md iW ops m=true) {o:Oper} (ho:ops[m]? =some o) (hd:∀e∈o.after,Region.binds md e=true->aW listed e.on):∀k i,i<m->iW i=false->m- i<=k->aW listed i
 |0,i,hi,_,hk=>absurd hk (by omega)
 |k+1,i,hi,hl,hk=>by
  simp only[yB,List.all_eq_true,List.mem_range]at h;have h1:=h i hi;rw[hl,Bool.false_or]at h1;simp only[List.any_eq_true,Bool.and_eq_true,decide_eq_true_eq]at h1;obtain⟨j,hj,⟨RD,aaB⟩,h2⟩:=h1;have Gb:i<j:=by
   rw[List.mem_drop_iff_getElem]at hj;obtain⟨q,hq,lc⟩:=hj;simp at lc;omega
  cases zf:ops[j]? with
  |none=>rw[zf]at h2;simp at h2
  |some oj=>
   rw[zf]at h2;simp only[List.any_eq_true,Bool.and_eq_true,beq_iff_eq]at h2;obtain⟨e,he,hb,rfl⟩:=h2;by_cases Yp:j=m
   ·subst Yp;rw[ho]at zf;cases zf;exact hd e (by simpa using he) hb
   ·have hlj:iW j=false:=by
     have:decide (j<m)=true:=decide_eq_true (by omega);simpa[this]using aaB
    have:=tq hI (by simpa only[yB,List.all_eq_true,List.mem_range]using h) ho hd k j (by omega) hlj (by omega);exact hI.closed j oj zf this e (by simpa using he) hb
theorem Ir {P:Program} {md:Region.Mode} {ops:Array Oper} {Q:Exit->Act->World->Prop} {V:Nat->Value->World->Prop} {S:World->Prop} {a0:Act} {m:Nat} (iW:Nat->Bool)
 (fQ:∀(i:Nat) (o:Oper),ops[i]? =some o->∀e∈o.after,Region.binds md e=true->e.on<i)
 (jW:∀(i j:Nat) (oi oj:Oper) (d:Nat),ops[i]? =some oi->ops[j]? =some oj->oi.dst=some d->oj.dst=some d->i=j)
 (aU:∀(i:Nat) (o:Oper) (d:Nat),ops[i]? =some o->o.dst=some d->d<a0.tmps.size)
 (nz:m<ops.size) (jd:jN md ops m=true) (lD:eQ md ops m=true)
 (dy:∀i o,i<m->iW i=true->ops[i]? =some o->∀listed a w,Inv md ops V S a0 listed a w->(∀e∈o.after,Region.binds md e=true->aW listed e.on)->¬aW listed i->
  ∀K:Act->World->Prop,(∀v w',S w'->V i v w'->(∀j u,V j u w->V j u w')->K (a.put o.dst v) w')->if Region.wanted o (yielded ops a.tmps)=true then o.wp P a w K Q else K (a.put o.dst undef) w)
 (kA:∀f a w,Inv md ops V S a0 (bz m ops.size) a w->wpAny P md ops Q (f+(ops.size- m)) (bz m ops.size) a w):
 ∀bZ listed a w,Inv md ops V S a0 listed a w->(∀i,m<=i->i<ops.size->¬aW listed i)->(∀i,i<m->iW i=false->aW listed i)->left ops.size listed<=bZ->wpAny P md ops Q bZ listed a w:=by
 intro bZ
 induction bZ with
 |zero=>
  intro listed a w hI fg hE hf;have hr:Region.ready md ops listed=[]:=by
   rw[List.eq_nil_iff_forall_not_mem];intro i hi;obtain⟨h1,o,h2,_⟩:=mem_ready.1 hi;have:=dL hI.lsize (Array.getElem?_eq_some_iff.1 h2).1 h1;omega
  exact absurd (dT hI.lsize fQ hr (m+1) m (by omega) nz) (fg m (by omega) nz)
 |succ bZ ih=>
  intro listed a w hI fg hE hf;by_cases hall:∀i,i<m->aW listed i
  ·have hl:=nT hI.lsize (λi hi _=>hall i hi) fg;subst hl;have h1:=oC m ops.size ops.size (Nat.le_refl _);unfold left at hf;have h2:=kA (bZ+1- (ops.size- m)) a w hI
   rwa[show bZ+1- (ops.size- m)+(ops.size- m)=bZ+1 from by omega]at h2
  ·refine⟨λhr=>absurd (dT hI.lsize fQ hr (m+1) m (by omega) nz) (fg m (by omega) nz),λi hi=>?_⟩;obtain⟨h1,o,h2,h3⟩:=mem_ready.1 hi;have bP:i<ops.size:=(Array.getElem?_eq_some_iff.1 h2).1;have sO:i<m:=by
    refine Nat.lt_of_not_le λrJ=>?_
    by_cases he:i=m
    ·subst he;exact hall λj hj=>mX hI jd h2 h3 (i- j) j hj (Nat.le_refl _)
    ·simp only[eQ,List.all_eq_true]at lD;have h4:=lD i (by rw[List.mem_drop_iff_getElem];exact⟨i- (m+1),by simp;omega,by simp;omega⟩);rw[h2]at h4;simp only[List.any_eq_true,Bool.and_eq_true,decide_eq_true_eq]at h4;obtain⟨e,QB,⟨hb,YV⟩,hei⟩:=h4;exact fg e.on YV (by omega) (h3 e (by simpa using QB) hb)
   have hnd:¬aW listed i:=by
    unfold aW;rw[<-iU (by rw[hI.lsize];exact bP),h1];simp
   have hli:iW i=true:=by
    cases h:iW i with
    |true=>rfl
    |false=>exact absurd (hE i sO h) hnd
   refine wpOp_step h2 (λK hK=>dy i o sO hli h2 listed a w hI h3 hnd K (λv w' hS hv kW=>hK _ _ ?_));refine ih _ _ _ (hI.step jW aU h2 h3 hS hv kW) (λj hj RE rA=>?_) (λj hj hl=>(hE j hj hl).set) ?_
   ·rcases rA.inv with rfl|rA
    ·omega
    ·exact fg j hj RE rA
   ·have:=dL hI.lsize bP h1;omega
theorem Is {P:Program} {md:Region.Mode} {ops:Array Oper} {Q:Exit->Act->World->Prop} {V V2:Nat->Value->World->Prop} {S S2:World->Prop} {a0:Act} {m:Nat} (iW:Nat->Bool) (om:Oper) (Gr:ops[m]? =some om) (Yy:om.dst=none)
 (fQ:∀(i:Nat) (o:Oper),ops[i]? =some o->∀e∈o.after,Region.binds md e=true->e.on<i)
 (jW:∀(i j:Nat) (oi oj:Oper) (d:Nat),ops[i]? =some oi->ops[j]? =some oj->oi.dst=some d->oj.dst=some d->i=j)
 (aU:∀(i:Nat) (o:Oper) (d:Nat),ops[i]? =some o->o.dst=some d->d<a0.tmps.size)
 (nz:m+1<ops.size) (FO:yB md iW ops m=true) (lD:eQ md ops m=true) (jd:jN md ops (m+1)=true) (Nx:eQ md ops (m+1)=true) (hlm:iW m=false)
 (dy:∀i o,i<m->ops[i]? =some o->∀listed a w,Inv md ops V S a0 listed a w->(∀e∈o.after,Region.binds md e=true->aW listed e.on)->¬aW listed i->
  ∀K:Act->World->Prop,(∀v w',S w'->V i v w'->(∀j u,V j u w->V j u w')->K (a.put o.dst v) w')->if Region.wanted o (yielded ops a.tmps)=true then o.wp P a w K Q else K (a.put o.dst undef) w)
 (Gi:∀listed a w,Inv md ops V S a0 listed a w->(∀i,i<m->iW i=false->aW listed i)->
  ∀K:Act->World->Prop,(∀w',S2 w'->(∀i o d u,i<m->ops[i]? =some o->o.dst=some d->a.tmps[d]? =some u->V i u w->V2 i u w')->K (a.put om.dst undef) w')->if Region.wanted om (yielded ops a.tmps)=true then om.wp P a w K Q else K (a.put om.dst undef) w)
 (FG:∀i o,i<m+1->iW i=true->ops[i]? =some o->∀listed a w,Inv md ops V2 S2 a0 listed a w->(∀e∈o.after,Region.binds md e=true->aW listed e.on)->¬aW listed i->
  ∀K:Act->World->Prop,(∀v w',S2 w'->V2 i v w'->(∀j u,V2 j u w->V2 j u w')->K (a.put o.dst v) w')->if Region.wanted o (yielded ops a.tmps)=true then o.wp P a w K Q else K (a.put o.dst undef) w)
 (kA:∀f a w,Inv md ops V2 S2 a0 (bz (m+1) ops.size) a w->wpAny P md ops Q (f+(ops.size- (m+1))) (bz (m+1) ops.size) a w):
 ∀bZ listed a w,Inv md ops V S a0 listed a w->(∀i,m<=i->i<ops.size->¬aW listed i)->left ops.size listed<=bZ->wpAny P md ops Q bZ listed a w:=by
 have nx:m<ops.size:=by omega
 intro bZ
 induction bZ with
 |zero=>
  intro listed a w hI fg hf;have hr:Region.ready md ops listed=[]:=by
   rw[List.eq_nil_iff_forall_not_mem];intro i hi;obtain⟨h1,o,h2,_⟩:=mem_ready.1 hi;have:=dL hI.lsize (Array.getElem?_eq_some_iff.1 h2).1 h1;omega
  exact absurd (dT hI.lsize fQ hr (m+1) m (by omega) nx) (fg m (by omega) nx)
 |succ bZ ih=>
  intro listed a w hI fg hf;refine⟨λhr=>absurd (dT hI.lsize fQ hr (m+1) m (by omega) nx) (fg m (by omega) nx),λi hi=>?_⟩;obtain⟨h1,o,h2,h3⟩:=mem_ready.1 hi;have bP:i<ops.size:=(Array.getElem?_eq_some_iff.1 h2).1;have sO:i<=m:=by
   refine Nat.le_of_not_lt λGt=>?_
   simp only[eQ,List.all_eq_true]at lD;have h4:=lD i (by rw[List.mem_drop_iff_getElem];exact⟨i- (m+1),by simp;omega,by simp;omega⟩);rw[h2]at h4;simp only[List.any_eq_true,Bool.and_eq_true,decide_eq_true_eq]at h4;obtain⟨e,QB,⟨hb,YV⟩,hei⟩:=h4;exact fg e.on YV (by omega) (h3 e (by simpa using QB) hb)
  have hnd:¬aW listed i:=by
   unfold aW;rw[<-iU (by rw[hI.lsize];exact bP),h1];simp
  have aeD:=dL hI.lsize bP h1;by_cases he:i=m
  ·subst he;rw[Gr]at h2;cases h2;have hE:∀j,j<i->iW j=false->aW listed j:=λj hj hl=>tq hI FO Gr h3 (i- j) j hj hl (Nat.le_refl _)
   refine wpOp_step Gr (λK hK=>Gi listed a w hI hE K (λw' hS2 hV=>hK _ _ ?_));refine Ir (V:=V2) (S:=S2) (a0:=a0) (m:=i+1) iW fQ jW aU nz jd Nx FG kA bZ _ _ _ ?_ (λj hj RE rA=>?_) (λj hj hl=>?_) (by omega)
   ·refine⟨by simp[hI.lsize],hS2,?_,?_,?_,?_,?_⟩
    ·rw[Yy];exact hI.defers
    ·rw[Yy];exact hI.size
    ·intro j oj zf rA e QB hb;rcases rA.inv with rfl|rA
     ·rw[Gr]at zf;cases zf;exact aW.set (h3 e QB hb)
     ·exact(hI.closed j oj zf rA e QB hb).set
    ·intro j oj d zf jx rA;rcases rA.inv with rfl|rA
     ·rw[Gr]at zf;cases zf;rw[Yy]at jx;cases jx
     ·obtain⟨v,hv,hV1⟩:=hI.got j oj d zf jx rA;have RD:j<i:=Nat.lt_of_not_le λrJ=>fg j rJ (Array.getElem?_eq_some_iff.1 zf).1 rA
      exact⟨v,by rw[Yy];exact hv,hV j oj d v RD zf jx hv hV1⟩
    ·intro j hj;rw[Yy];exact hI.old j (λq oq hoq hqd hdq=>hj q oq hoq hqd hdq.set)
   ·rcases rA.inv with rfl|rA
    ·omega
    ·exact fg j (by omega) RE rA
   ·by_cases CF:j=i
    ·subst CF;exact aW.new (by rw[hI.lsize];exact bP)
    ·exact(hE j (by omega) hl).set
  ·refine wpOp_step h2 (λK hK=>dy i o (by omega) h2 listed a w hI h3 hnd K (λv w' hS hv kW=>hK _ _ ?_));refine ih _ _ _ (hI.step jW aU h2 h3 hS hv kW) (λj hj RE rA=>?_) (by omega);rcases rA.inv with rfl|rA
   ·omega
   ·exact fg j hj RE rA
def OF (P:Program) (md:Region.Mode) (ops:Array Oper) (Q:Exit->Act->World->Prop) (V:Nat->Value->World->Prop) (S:World->Prop) (a0:Act) (iW:Nat->Bool) (i:Nat) (o:Oper):Prop:=iW i=true->dG P md ops Q V S a0 i o
theorem cV {P:Program} {ops:Array Oper} {Q:Exit->Act->World->Prop} (m:Nat) (iW:Nat->Bool) (V:Nat->Value->World->Prop) (S:World->Prop) (V2:Nat->Value->World->Prop) (S2:World->Prop) {id:Nat} {a:Act} {w:World}
 (hm:P.follows .mixedOrders=true) (ho:rj .any ops=true) (hd:v8 ops a.tmps.size=true) (nz:m+1<ops.size) (FO:yB .any iW ops m=true) (lD:eQ .any ops m=true) (jd:jN .any ops (m+1)=true) (Nx:eQ .any ops (m+1)=true) (hlm:iW m=false) (ee:vQ .any ops (m+1)=true)
 (om:Oper) (Gr:ops[m]? =some om) (Yy:om.dst=none) (hS:S w.drew)
 (dy:ei (dG P .any ops Q V S a) 0 (ops.toList.take m))
 (Gi:∀listed A0 w2,Inv .any ops V S a listed A0 w2->(∀i,i<m->iW i=false->aW listed i)->
  ∀K:Act->World->Prop,(∀w',S2 w'->(∀i o d u,i<m->ops[i]? =some o->o.dst=some d->A0.tmps[d]? =some u->V i u w2->V2 i u w')->K (A0.put om.dst undef) w')->if Region.wanted om (yielded ops A0.tmps)=true then om.wp P A0 w2 K Q else K (A0.put om.dst undef) w2)
 (FG:ei (OF P .any ops Q V2 S2 a iW) 0 (ops.toList.take (m+1)))
 (kA:∀a' w',Inv .any ops V2 S2 a (bz (m+1) ops.size) a' w'->wpList P ops Q (ops.toList.drop (m+1)) a' w'):(Code.region id ops true).wp P Q a w:=by
 have fg:∀i,¬aW (Array.replicate ops.size false) i:=λi h=>by
  unfold aW at h;by_cases hi:i<ops.size<;>simp[Array.getD_eq_getD_getElem?,hi]at h
 refine wp_region_any hm (Is (V:=V) (S:=S) (V2:=V2) (S2:=S2) (a0:=a) (m:=m) iW om Gr Yy (kN ho) (λi j oi oj d hi hj mA jx=>(dD hd i oi d hi mA).2 j oj hj jx) (λi o d hi mA=>(dD hd i o d hi mA).1) nz FO lD jd Nx hlm
  (λi o sO hi listed a' w' hI ns hnd K hK=>?_) Gi (λi o sO hl hi listed a' w' hI ns hnd K hK=>?_) (λf a' w' hI=>oh ee nz (kA a' w' hI)) _ _ _ _ ?_ (λi _ _=>fg i) ?_)
 ·have:=ei.get dy (i:=i) (o:=o) (by rw[List.getElem?_take_of_lt sO];simpa using hi);rw[Nat.zero_add]at this;exact this listed a' w' hI ns hnd K hK
 ·have:=ei.get FG (i:=i) (o:=o) (by rw[List.getElem?_take_of_lt sO];simpa using hi);rw[Nat.zero_add]at this;exact this hl listed a' w' hI ns hnd K hK
 ·exact⟨by simp,hS,rfl,rfl,λi _ _ h=>absurd h (fg i),λi _ _ _ _ h=>absurd h (fg i),λ_ _=>rfl⟩
 ·unfold left;exact Nat.le_trans (List.length_filter_le _ _) (by simp)
def O6:Option VV->Bool
 |some (.val _)=>true
 |some _=>false
 |none=>true
theorem Ks.store {W w w':World} {ks:List VV} {p i:Nat} {kn:VV} {u:Value} (hv:((List.range ks.length).all λj=>j==p||O6 ks[j]?)=true) (h:Ks W ks i u w) (hp:i=p->kn.holds W u w'):Ks W (ks.set p kn) i u w':=by
 intro k hk;by_cases Dl:i=p
 ·subst Dl;rw[List.getElem?_set_self']at hk;cases Iv:ks[i]? with
  |none=>rw[Iv]at hk;cases hk
  |some k0=>
   rw[Iv]at hk;have lO:kn=k:=Option.some.inj hk;subst lO;exact hp rfl
 ·rw[List.getElem?_set_ne (λe=>Dl e.symm)]at hk;have eX:i<ks.length:=(List.getElem?_eq_some_iff.1 hk).1;rw[List.all_eq_true]at hv;have h2:=hv i (List.mem_range.2 eX);rw[hk]at h2;have h3:=h k hk;cases k with
  |val x=>exact h3
  |own P hP=>simp[O6,Dl]at h2
def cM (W:World) (QG:Array Value) (t:TypeId) (v:Value) (w:World):Prop:=∃g,v=.pointer (some ⟨g,0,none⟩)/\W.heap.size<=g/\w.heap[g]? =some (.cells QG t (0,0))
theorem cM.keep (W:World) (QG:Array Value) (t:TypeId):∀v w w',Below w.heap.size w w'->cM W QG t v w->cM W QG t v w':=by
 rintro v w w' hb ⟨g,rfl,h1,h2⟩;exact⟨g,rfl,h1,(hb.block _ (ag h2)).trans h2⟩
theorem cM.made {W w:World} (h:W.heap.size<=w.heap.size) (QG:Array Value) (t:TypeId):cM W QG t (.pointer (some ⟨w.heap.size,0,none⟩)) (w.alloc (.cells QG t)):=⟨_,rfl,h,heap_alloc_new _ _⟩
end
section
open Go Go.RowKit
open Go.Maps (Keyed)
theorem BR {l:List ah} {A:Option Addr} {c n:Nat} {w:World} (hN:l.length=n) (hl:aj ar 4 w (·<w.heap.size) [.slice A l.length c] l) (hn:l.length<=1000) (code:Int) (hc:cx code) {o:ah} {s:Bool} (ho:gH (aK l code)=o) (hs:(aK l code).isSome=s):Calls Tryz.prog 94 #[.slice A n c,code] w (ap w (.tuple #[.agg (bn o).toArray,s])):=by
 subst hN ho hs;exact mL l A c code w hl hc hn
theorem ve {l:List ah} {A:Option Addr} {c n:Nat} {w:World} (hN:l.length=n) (hl:aj ar 4 w (·<w.heap.size) [.slice A l.length c] l) (hn:l.length<=1000) (code:Int) (hc:cx code) {o:ah} {s:Bool} (ho:gH (aK l code)=o) (hs:(aK l code).isSome=s):Calls Tryz.prog 34 #[.slice A n c,code] w (ap w (.tuple #[.agg (bn o).toArray,s])):=by
 subst hN ho hs;exact mU l A c code w hl hc hn
theorem JO {l:List ah} {A:Option Addr} {c n:Nat} {w:World} (hN:l.length=n) (hl:aj ar 4 w (·<w.heap.size) [.slice A l.length c] l) (hn:l.length<=1000) (g:Bool):Calls Tryz.prog 179 #[.slice A n c,g] w (ap w (.bool (ej l g))):=by
 subst hN;exact qQ l A c g w hl hn
theorem EU {l:List ah} {A:Option Addr} {c n:Nat} {w:World} (hN:l.length=n) (hl:aj ar 4 w (·<w.heap.size) [.slice A l.length c] l) (hn:l.length<=1000) (g:Bool):Calls Tryz.prog 199 #[.slice A n c,g] w (ap w (.bool (ej l g))):=by
 subst hN;rw[vR];exact pv l A c g w hl hn
theorem Em {ec ch:List ah} {l:bu} {o1 o2:ah} {s1 s2:Bool} (h1:gH (aK ec l.from_)=o1) (h2:(aK ec l.from_).isSome=s1) (h3:gH (aK ch l.to_)=o2) (h4:(aK ch l.to_).isSome=s2):n0 ec ch l=(s1&&(s2&&(o1.kind==o2.kind&&decide (inD l.since)))):=by
 unfold n0;subst h1 h2 h3 h4;cases aK ec l.from_ with
 |none=>rfl
 |some a=>cases aK ch l.to_ with
  |none=>rfl
  |some b=>rfl
theorem kK {ec ch:List ah} {ls:List bu} {k:Nat} {l:bu} (h:ls[k]? =some l):gF ec ch ls k=(n0 ec ch l&&!((ls.take k).any λk=>k.from_==l.from_&&k.since==l.since)):=by unfold gF;rw[h]
theorem ZC (s cu:ByteArray) (Ac Al Ah:Option Addr) (n m cc nl cl hc:Nat) (jo:Bool) (ec ch:List ah) (l:bu) (w:World) (hN:ec.length=n) (hM:ch.length=m) (sN:aj ar 4 w (·<w.heap.size) [.slice Ac ec.length cc] ec) (ee:aj ar 4 w (·<w.heap.size) [.slice Ah ch.length hc] ch) (hl:mM l) (hn:ec.length<=1000) (hm:ch.length<=1000):
 Calls Tryz.prog 214 #[.agg (lH s cu Ac n cc Al nl cl jo).toArray,.slice Ah m hc,.agg (eI l).toArray] w (ap w (.bool (n0 ec ch l))):=by
 obtain⟨r,hr⟩:=x_ (n0 ec ch l);rw[hr];obtain⟨o1,Mt⟩:∃o,gH (aK ec l.from_)=o:=⟨_,rfl⟩;obtain⟨s1,tC⟩:∃s,(aK ec l.from_).isSome=s:=⟨_,rfl⟩;obtain⟨o2,CC⟩:∃o,gH (aK ch l.to_)=o:=⟨_,rfl⟩;obtain⟨s2,dW⟩:∃s,(aK ch l.to_).isSome=s:=⟨_,rfl⟩;have HR:=H_ (hr.symm.trans (Em Mt tC CC dW));obtain⟨l1,l2,l3⟩:=l;obtain⟨b1,b2,b3⟩:=hl;simp only at b1 b2 b3 Mt tC CC dW;have kU:=H_ (λ(w2:World) (hb:Below w.heap.size w w2)=>BR hN (az sN hb) hn l1 b1 Mt tC);have kV:=H_ (λ(w2:World) (hb:Below w.heap.size w w2)=>BR hM (az ee hb) hm l2 b2 CC dW);clear hr Mt tC CC dW sN ee hN hM hn hm b1 b2;show Calls Tryz.prog 214 #[.agg #[s,cu,.slice Ac n cc,.slice Al nl cl,jo],.slice Ah m hc,.agg #[l1,l2,l3]] w (ap w (.bool r));go_enter Tryz.func214,Tryz.ntmps214;go_upto_region 1 with fail;obtain⟨W,hW,H,HB,HS,ewx⟩:=B_ w (.cells #[s,cu,.slice Ac n cc,.slice Al nl cl,jo] 74);rw[hW];clear ewx;obtain⟨W2,fR,H2,dz,jK,ewx⟩:=B_ W (.cells #[l1,l2,l3] 154);rw[fR];replace H:=(dz.block _ (ag H)).trans H;clear ewx;clear fR;have eW:W.heap.size=w.heap.size+1:=by rw[<-hW];simp
 rw[eW]at H2;clear hW;have aH:=HB.trans (dz.mono HB.size);have e2:=ab H 2;have f0:=ab H2 0;have HH:=H_ H;have dn:=H_ H2;clear H H2;go_wp2_with fail;refine(kU.o W2 aH).mono ?_;rintro e w3 ⟨rfl,aZ⟩;have aR:=aH.trans (aZ.mono aH.size);have K3:=(aZ.block _ (ag dn.o)).trans dn.o;obtain⟨p1,p2,p3,p4⟩:=o1;go_upto_region 2 with fail;obtain⟨W4,JU,H4,gw,Bo,ewx⟩:=B_ w3 (.cells #[p1,p2,p3,p4] 78);rw[JU];replace K3:=(gw.block _ (ag K3)).trans K3;clear ewx;clear JU;have bD:=aR.trans (gw.mono aR.size);have f1:=ab K3 1;have zH:=H_ K3;have oW:=H_ H4;clear K3 H4 e2 f0;go_wp2_with fail;refine(kV.o W4 bD).mono ?_;rintro e w5 ⟨rfl,cP⟩;have fG:=bD.trans (cP.mono bD.size);have K5:=(cP.block _ (ag zH.o)).trans zH.o;have G5:=(cP.block _ (ag oW.o)).trans oW.o;obtain⟨q1,q2,q3,q4⟩:=o2;go_upto_region 3 with fail
 obtain⟨W6,mC,H6,dK,my,ewx⟩:=B_ w5 (.cells #[q1,q2,q3,q4] 78);rw[mC];replace K5:=(dK.block _ (ag K5)).trans K5;replace G5:=(dK.block _ (ag G5)).trans G5;clear ewx;clear mC;have fi:=fG.trans (dK.mono fG.size);have f2:=ab K5 2;have g1:=ab G5 1;have k1:=ab H6 1;clear K5 G5 H6 f1;cases s1 with
 |false=>
  have hf:=H_ (show r=false by rw[HR.o];rfl);go_wp2_with fail;go_ret;exact⟨hf.o.symm▸rfl,fi⟩
 |true=>
 cases s2 with
 |false=>
  have hf:=H_ (show r=false by rw[HR.o];rfl);go_wp2_with fail;go_ret;exact⟨hf.o.symm▸rfl,fi⟩
 |true=>
 by_cases h1:p2=q2
 case neg=>
  have h1':(p2==q2)=false:=by simpa using h1
  have hf:=H_ (show r=false by rw[HR.o,h1'];rfl);go_wp2_with fail;go_ret;exact⟨hf.o.symm▸rfl,fi⟩
 case pos=>
  have h1':(p2==q2)=true:=by simpa using h1
  have hf:=H_ (show r=decide (inD l3) by rw[HR.o,h1'];rfl);obtain⟨d,hd⟩:=x_ (decide (inD l3));have aM:=nS l3 W6;rw[hd]at aM;have HD:=H_ hd;clear hd;go_wp2_with fail;refine aM.mono ?_;clear aM;rintro e w7 ⟨rfl,fC⟩;go_wp2_with fail;go_ret;exact⟨by rw[hf.o,HD.o];first|done|rfl,fi.trans (fC.mono fi.size)⟩
end
section
open Go Go.RowKit
open Go.Maps (Keyed)
open Go.WideMaps (KeyLaw)
theorem lA:laidOutB Tryz.prog=true:=by kernel_rfl
theorem Ep:(154:TypeId)<Tryz.prog.types.size:=of_decide_eq_true K_
theorem LG:(match Tryz.prog.underlying 154 with|some (.array _ _)|some (.struct _)=>true|_=>false)=true:=by kernel_rfl
theorem Pa:KeyLaw Tryz.prog 154:=deep_law_laid lA (m:=2) (by omega) Ep K_ LG
theorem mN:Keyed Tryz.prog 154:=Keyed.of_law Pa
theorem mh:Tryz.prog.cellsOf 3=1:=by kernel_rfl
theorem xD:Tryz.prog.cellsOf 154=3:=by kernel_rfl
theorem f7 {d:Nat} {n:Int} (h:cx n):Tryz.prog.keyLits (d+1) 3 [n]=some [.int .i64 n]:=by
 unfold Program.keyLits;rw[oA];simp[WalkArith.wf_i64 h]
theorem B8 {d:Nat} {a z b:Int} (ha:cx a) (hz:cx z) (hb:cx b):Tryz.prog.keyLits (d+2) 154 [a,z,b]=some [.int .i64 a,.int .i64 z,.int .i64 b]:=by
 unfold Program.keyLits;rw[Tryz.underlying154];have h1:=f7 (d:=d) ha;have h2:=f7 (d:=d) hz;have h3:=f7 (d:=d) hb;simp[xD,mh,h1,h2,h3]
theorem B9:Tryz.prog.keyType 154=true:=by kernel_rfl
theorem po:∃fs,Tryz.prog.underlying 154=some (.struct fs):=⟨_,Tryz.underlying154⟩
theorem Eo {a b c:Value}:(Value.agg #[a,b,c]).formed Tryz.prog 154=true:=by
 obtain⟨fs,hu⟩:=po;simp[Value.formed,hu,xD]
theorem mW:∃d,Tryz.prog.types.size+1=d+2:=⟨Tryz.prog.types.size- 1,by have h:154<Tryz.prog.types.size:=Ep;omega⟩
theorem xE {a z b:Int} (ha:cx a) (hz:cx z) (hb:cx b):keyOf Tryz.prog 154 (.agg #[a,z,b])=some (.string (keyBytes [a,z,b])):=by
 obtain⟨fs,hu⟩:=po;obtain⟨d,hd⟩:=mW;unfold keyOf;rw[hu];simp only[B9,Eo,Bool.and_self,if_true,hd,Value.cells];rw[B8 ha hz hb];rfl
abbrev LK:={p:Int × Int // cx p.1/\cx p.2}
def xF (c:LK):Lit:=.string (keyBytes [c.1.1,(),c.1.2])
theorem Er (c:LK):keyOf Tryz.prog 154 (.agg #[c.1.1,(),c.1.2])=some (xF c):=xE c.2.1 bd0 c.2.2
theorem LH (x y:LK) (h:xF x=xF y):x=y:=by
 have h1:=Er x;have h2:=Er y;rw[<-h]at h2;have h3:=mN.inj h1 h2;have h4:=congrArg Array.toList (Value.agg.inj h3);simp only[List.cons.injEq,Value.int.injEq,true_and,and_true]at h4;exact Subtype.ext (Prod.ext h4.1 h4.2)
theorem LI (x:LK):WideAt.IsKeyLit (xF x):=trivial
theorem xG:Tryz.prog.underlying 252=some (.map 154 4):=by kernel_rfl
abbrev aeo (w:World) (b n:Nat) (f:LK->Bool):Prop:=pd Tryz.prog 154 4 xF w b n f
def EX (ls:List bu) (k:Nat) (c:LK):Bool:=(ls.take k).any λx=>x.from_==c.1.1&&x.since==c.1.2
theorem Ig {ls:List bu} {k:Nat} {l:bu} (hk:ls[k]? =some l) (h1:cx l.from_) (h3:cx l.since) {F:LK->Bool} (hF:EX ls k=F) (d:LK):(if d=(⟨(l.from_,l.since),h1,h3⟩:LK)then true else F d)=EX ls (k+1) d:=by
 obtain⟨hl,rfl⟩:=List.getElem?_eq_some_iff.1 hk;unfold EX;rw[iV hl,<-hF];by_cases h:d=(⟨(ls[k].from_,ls[k].since),h1,h3⟩:LK)
 ·rw[if_pos h,h];simp
 ·rw[if_neg h];have:(ls[k].from_==d.1.1&&ls[k].since==d.1.2)=false:=by
   rw[Bool.and_eq_false_iff];by_cases e1:ls[k].from_=d.1.1
   ·right;have e2:¬ls[k].since=d.1.2:=λe2=>h (Subtype.ext (Prod.ext e1.symm e2.symm))
    simpa using e2
   ·left;simpa using e1
  rw[this,Bool.or_false];rfl
def kb (ec ch:List ah) (ls:List bu):Bool:=ej ch true&&ej ec false&&decide (ls.length<=400)&&pV ec ch ls
theorem kL {ec ch:List ah} {ls:List bu} {k:Nat} (hk:k<ls.length) (h:gF ec ch ls k=false):kb ec ch ls=false:=by
 unfold kb pV;rw[bt hk h,Bool.and_false]
theorem Hb (s cu:ByteArray) (Ac Al Ah:Option Addr) (n m nl cc cl hc:Nat) (jo:Bool) (ec ch:List ah) (ls:List bu) (w:World) (hN:ec.length=n) (hM:ch.length=m) (Ok:ls.length=nl) (sN:aj ar 4 w (·<w.heap.size) [.slice Ac ec.length cc] ec) (lP:aj bJ 3 w (·<w.heap.size) [.slice Al ls.length cl] ls) (ee:aj ar 4 w (·<w.heap.size) [.slice Ah ch.length hc] ch) (hn:ec.length<=1000) (hm:ch.length<=1000) (bj:ls.length<=1000):
 Calls Tryz.prog 185 #[.agg (lH s cu Ac n cc Al nl cl jo).toArray,.slice Ah m hc] w (ap w (.bool (kb ec ch ls))):=by
 have Iz:=@run_makeMap Tryz.prog;obtain⟨r,hr⟩:=x_ (kb ec ch ls);rw[hr];have HR:=H_ hr;have vo:=H_ (λ(w2:World) (hb:Below w.heap.size w w2)=>JO hM (az ee hb) hm true);have HV2:=H_ (λ(w2:World) (hb:Below w.heap.size w w2)=>JO hN (az sN hb) hn false);have Cz:=H_ (λ(w2:World) (hb:Below w.heap.size w w2) (l:bu) (hl:mM l)=>ZC s cu Ac Al Ah n m cc nl cl hc jo ec ch l w2 hN hM (az sN hb) (az ee hb) hl hn hm);have sV:=H_ lP;have jz:=H_ Ok;rw[Ok]at bj;clear hr sN ee hN hM lP Ok hn hm;show Calls Tryz.prog 185 #[.agg #[s,cu,.slice Ac n cc,.slice Al nl cl,jo],.slice Ah m hc] w (ap w (.bool r));go_enter Tryz.func185,Tryz.ntmps185;go_upto_region 1 with fail;obtain⟨W,hW,H,HB,HS,ewx⟩:=B_ w (.cells #[s,cu,.slice Ac n cc,.slice Al nl cl,jo] 74);rw[hW];clear ewx;clear hW;have HH:=H_ H;clear H;go_wp2_with fail;refine(vo.o W HB).mono ?_;rintro e w2 ⟨rfl,aH⟩;have aF:=HB.trans (aH.mono HB.size);cases fP:ej ch true with
 |false=>
  have hf:=H_ (show r=false by rw[<-HR.o];unfold kb;rw[fP];rfl);go_wp2_with fail;go_ret;exact⟨hf.o.symm▸rfl,aF⟩
 |true=>
 have jG:=H_ fP;have G2:=(aH.block _ HS).trans HH.o;have e2:=ab G2 2;have dW:=aH.size;clear fP;go_wp2_with fail;refine(HV2.o w2 aF).mono ?_;rintro e w3 ⟨rfl,aZ⟩;have aR:=aF.trans (aZ.mono aF.size);have lE:=aZ.size;have G3:=(aZ.block _ (by omega)).trans G2;have e3:=ab G3 3;clear e2 G2;cases gn:ej ec false with
 |false=>
  have hf:=H_ (show r=false by rw[<-HR.o];unfold kb;rw[gn,Bool.and_false];rfl);go_wp2_with fail;go_ret;exact⟨hf.o.symm▸rfl,aR⟩
 |true=>
 have jv:=H_ gn;clear gn;by_cases rJ:nl<=400
 case neg=>
  have FS_:(400:Int)< (nl:Int):=by omega
  have hf:=H_ (show r=false by rw[<-HR.o];unfold kb;rw[jz.o,decide_eq_false rJ,Bool.and_false];rfl);go_wp2_with fail;go_ret;exact⟨hf.o.symm▸rfl,aR⟩
 case pos=>
 have FS_:¬(400:Int)< (nl:Int):=by omega
 have IG:=H_ G3;clear G3;go_upto_region 4 with fail;have CO:=pd.made Tryz.prog 154 4 xF w3;have gw:=ai w3 (.map #[] 0);have Bo:w3.heap.size+1=(w3.alloc (.map #[] 0)).heap.size:=by simp
 have G4:=al IG.o (.map #[] 0);generalize JU:w3.alloc (Obj.map #[] 0)=W4 at*;clear JU e3;have e3:=ab G4 3;have iX:=H_ G4;have bD:=aR.trans (gw.mono aR.size);clear G4;go_wp2_with fail
 go_loopw [28] (λi wr=>∃k:Nat,k<=nl/\i=.int .i64 (k:Int)/\Fr (QX W4.heap.size w3.heap.size) W4 wr/\aeo wr w3.heap.size k (EX ls k)/\∀j,j<k->gF ec ch ls j=true) (λi _=>nl- (intOf i).toNat)
 case atStart=>exact⟨0,by omega,rfl,Fr.refl _ _,CO.eqv (λ_=>rfl),λj hj=>by omega⟩
 case round=>
  obtain⟨k,hk,rfl,lM,fD,hall⟩:=hrel;have HA:=H_ hall;have HF:=H_ lM;have bP:=lM.size;clear hall lM;have el:Below w.heap.size w wr:=((Fr.ofBelow bD).trans (HF.o.mono (λk (hk:k<w.heap.size)=>⟨by omega,by omega⟩))).below;have hs0':=el.size;by_cases aU:k<nl
  case pos=>
   have bq:(k:Int)< (nl:Int):=by omega
   have bI:k<ls.length:=by rw[jz.o];exact aU
   obtain⟨b,o,rz,dj,ed,bL,aS⟩:=aj.get sV.o k bI;subst dj;obtain⟨bE,hlb⟩:=bJ.lit bL;obtain⟨l,hl⟩:=x_ (ls[k]);rw[hl]at bE hlb;have HL:=H_ (show ls[k]? =some l by rw[List.getElem?_eq_getElem bI,hl]);obtain⟨l1,l2,l3⟩:=l;subst bE;have jD:=H_ hlb;have bC:=H_ hlb.1;have eA:=H_ hlb.2.2;have eZ:=H_ ((aS.fr (Fr.ofBelow el)).range);have E6:=(HF.o.block w.heap.size ⟨by omega,by omega⟩).trans iX.o;have aar:=H_ (Cz.o);obtain⟨F,hF⟩:=x_ (EX ls k);rw[hF]at fD;have kV:=H_ hF;clear bL aS hl hF ed hlb;go_upto_region 7 with(refine w_ 31 154 30 b (o+k*3) [l1,l2,l3] eZ.o dE Tryz.underlying154 ?_);obtain⟨W6,mC,H6,dK,my,ewx⟩:=B_ wr (.cells #[l1,l2,l3] 154);rw[mC];replace E6:=(dK.block _ (ag E6)).trans E6;clear ewx;clear mC;have f0:=ab H6 0;have f2:=ab H6 2;have jP:=fD.below dK;have MV:=dK.size;clear fD;go_upto_region 8 with fail
   obtain⟨W8,Q6,H8,o9,XW,ewx⟩:=B_ W6 (.cells #[l1,(),l3] 154);rw[Q6];replace E6:=(o9.block _ (ag E6)).trans E6;replace H6:=(o9.block _ (ag H6)).trans H6;clear ewx;clear Q6;have iD:=jP.below o9;have QC:=o9.size;have Bt:=dK.trans (o9.mono dK.size);have kw:=el.trans (Bt.mono el.size);have k0:=ab H8 0;have k1:=ab H8 1;have k2:=ab H8 2;have f0:=ab H6 0;have f1:=ab H6 1;have f2:=ab H6 2;have VF:=H_ E6;have HH8:=H_ H8;clear H8 H6 E6 jP;obtain⟨c0,sM⟩:∃c:LK,c=⟨(l1,l3),bC.o,eA.o⟩:=⟨_,rfl⟩;have vp:=H_ (show keyOf Tryz.prog 154 (.agg #[l1,(),l3])=some (xF c0) by rw[sM];exact xE bC.o bd0 eA.o);have HSN:=H_ (show F c0=((ls.take k).any λx=>x.from_==l1&&x.since==l3) by rw[<-kV.o,sM];rfl);have m8:=H_ sM;clear sM;cases kr:F c0 with
   |true=>
    have hf:=H_ (show r=false by rw[<-HR.o];exact kL bI (by rw[kK HL.o,show((ls.take k).any λx=>x.from_==l1&&x.since==l3)=true from HSN.o.symm.trans kr];simp));go_wp2_with (at_lookup;refine bO rfl _ _ 252 rfl 154 4 mN xG de (dU _) w3.heap.size k F rfl iD (.agg #[l1,(),l3]) c0 rfl vp.o ?_);go_ret;exact⟨hf.o.symm▸rfl,kw⟩
   |false=>
    have aM:=aar.o W8 kw ⟨l1,l2,l3⟩ jD.o;obtain⟨v,hv⟩:=x_ (n0 ec ch ⟨l1,l2,l3⟩);rw[hv]at aM;have gc:=H_ (show gF ec ch ls k=v by rw[kK HL.o,hv,show((ls.take k).any λx=>x.from_==l1&&x.since==l3)=false from HSN.o.symm.trans kr];simp);clear hv;have eE:=H_ aM;clear aM;go_wp2_with (first|(at_lookup;refine bO rfl _ _ 252 rfl 154 4 mN xG de (dU _) w3.heap.size k F rfl iD (.agg #[l1,(),l3]) c0 rfl vp.o ?_)|(refine W_ 41 74 2 w.heap.size VF.o cD Tryz.underlying74 ?_));refine eE.o.mono ?_;rintro e wA ⟨rfl,NT⟩;have NN:=iD.below NT;have hsA:=NT.size;have Yt:=kw.trans (NT.mono kw.size);cases v with
    |false=>
     have hf:=H_ (show r=false by rw[<-HR.o];exact kL bI gc.o);go_wp2_with fail;go_ret;exact⟨hf.o.symm▸rfl,Yt⟩
    |true=>
     have KA:=(NT.block _ XW).trans HH8.o;have k0:=ab KA 0;have k1:=ab KA 1;have k2:=ab KA 2;clear KA;go_wp2_with (at_mapUpdate;refine dV rfl _ _ _ 252 rfl 154 4 mN xG de w3.heap.size k F rfl NN (by simp only[maxLen];omega) LH LI (.agg #[l1,(),l3]) c0 rfl true rfl vp.o ?_;intro wB nI hgB;replace nI:=H_ nI);go_roundw
     case rel=>
      refine⟨k+1,by omega,by go_num,?_,?_,?_⟩
      ·exact(HF.o.trans ((Fr.ofBelow (Bt.trans (NT.mono Bt.size))).mono (λk hk=>by have:=hk.1;omega))).grown hgB (λk hk=>hk.1) (λj hj=>by injection hj with hj;exact λh=>h.2 hj.symm)
      ·exact nI.o.eqv (λd=>by rw[m8.o];exact Ig HL.o bC.o eA.o kV.o d)
      ·intro j hj;rcases Nat.lt_or_ge j k with h|h
       ·exact HA.o j h
       ·have:j=k:=by omega
        subst this;exact gc.o
     case measure=>first|exact aQ aU|(simp only[intOf];omega)
  case neg=>
   have bq:¬(k:Int)< (nl:Int):=by omega
   have hf:=H_ (show r=true by
    rw[<-HR.o];unfold kb pV;rw[jG.o,jv.o,jz.o,decide_eq_true rJ,bQ (λj hj=>HA.o j (by omega))];rfl)
   go_wp2_with fail;go_ret;exact⟨hf.o.symm▸rfl,el⟩
end
end Go.Proofs.YtibiddakakgakaaGreat
