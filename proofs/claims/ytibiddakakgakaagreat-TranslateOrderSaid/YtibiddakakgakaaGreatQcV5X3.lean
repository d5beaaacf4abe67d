/- Currencies in the program of rates. -/
import Derived.Test.YtibiddakakgakaaGreatQcA3V4
set_option linter.unusedVariables false
set_option linter.unusedSimpArgs false
set_option maxRecDepth 4000
attribute [local go_sem ↓] Go.wp_at_zero Go.wp_at_succ
set_option maxHeartbeats 16000000
namespace Go.Proofs.YtibiddakakgakaaGreat
section
open Go Go.RowKit
theorem S9 {s:ByteArray}:decide (0<=ncI s)= !((List.range s.size).all (λk=>j7 (bat s k))):=by
 cases h:(List.range s.size).all (λk=>j7 (bat s k))with
 |true=>
  rw[List.all_eq_true]at h;have:ncI s= -1:=mf (λj hj=>by
   rw[List.length_range]at hj;simp[h j (List.mem_range.2 hj)])
  rw[this];rfl
 |false=>
  have h2:¬ncI s<0:=λaU=>by
   unfold ncI iB at aU;cases e:(List.range s.size).findIdx? (λk=> !j7 (bat s k))with
   |some q=>rw[e]at aU;simp at aU;omega
   |none=>
    rw[List.findIdx?_eq_none_iff]at e;rw[List.all_eq_false]at h;obtain⟨k,hk,hc⟩:=h;have:=e k hk;simp at this;rw[this]at hc;exact hc rfl
  simp;omega
theorem Zg (s:ByteArray) (g cap:Nat) (w:World) (hc:∀k,k<s.size->w.cell? ⟨g,k,none⟩=some (.int .u8 (bat s k:Int))) (hg:g<w.heap.size) (hs:s.size<=cap) (hcm:cap<=maxLen):Calls Tryz.prog 153 #[.slice (some ⟨g,0,none⟩) s.size cap,.func (.func 154) #[] #[]] w (ap w (.bool (decide (0<=ncI s)))):=by
 have aM:=Zw s g cap w hc hg hs hcm;obtain⟨n,hn⟩:=x_ (s.size);obtain⟨R,hR⟩:∃z,ncI s=z:=⟨_,rfl⟩;rw[hn,hR]at aM;rw[hn,hR];have XA:=H_ aM;clear aM hc hg hs hcm hn hR;go_enter Tryz.func153,Tryz.ntmps153;go_wp2_with fail;refine XA.o.mono ?_;rintro e w2 ⟨rfl,aH⟩;go_wp2_with fail;go_ret;exact⟨by first|rfl|simp,aH⟩
theorem Cq {ops:Array Oper} {rest:List Oper} {o:Oper} {a:Act} {w:World} {Q:Exit->Act->World->Prop} (hw:Region.wanted o (yielded ops a.tmps)=true) (x:Operand) (pC:o.op=Op.convert 9 198 x) (s:ByteArray) (hx:a.eval x=.string s) (hs:s.size<=maxLen)
 (hK:∀(cap:Nat) (w2:World),(∀k,k<s.size->w2.cell? ⟨w.heap.size,k,none⟩=some (.int .u8 (bat s k:Int)))->w.heap.size<w2.heap.size->s.size<=cap->cap<=maxLen->Below w.heap.size w w2->wpList Tryz.prog ops Q rest (a.put o.dst (.slice (some ⟨w.heap.size,0,none⟩) s.size cap)) w2):wpList Tryz.prog ops Q (o::rest) a w:=
 wpList_step λK' qj=>by
  rw[if_pos hw];have eC:=run_bytes_of_string (P:=Tryz.prog) w 9 198 5 s K_ K_ K_;unfold Oper.wp;simp[execOp,pC,hx,eC,Result.andThen];refine qj _ _ (hK _ _ (λk hk=>?_) ?_ (grownCap_ge _ _ _ _) (grownCap_le_maxLen _ _ _ _ hs) ?_)
  ·have h1:=heap_alloc_new w.drew (.cells (bytesRow s (grownCap w s.size 0 5)) 5 ((bytesRow s (grownCap w s.size 0 5)).size,(bytesRow s (grownCap w s.size 0 5)).size+1));have h2:=bytesRow_at s (grownCap w s.size 0 5) k hk;rw[show(w.drew.heap.size)=w.heap.size from rfl]at h1;have h3:(w.drew.alloc (.cells (bytesRow s (grownCap w s.size 0 5)) 5 ((bytesRow s (grownCap w s.size 0 5)).size,(bytesRow s (grownCap w s.size 0 5)).size+1))).cell? ⟨w.heap.size,k,none⟩=(bytesRow s (grownCap w s.size 0 5))[k]? :=by
    simp only[World.cell?,h1];rfl
   have h4:=h3.trans h2;refine Eq.trans ?_ (h4.trans ?_)
   ·rfl
   ·unfold bat
    rw[Array.getD_eq_getD_getElem?,Array.getElem?_eq_getElem (show k<s.data.size from hk)];rfl
  ·have:=ag (heap_alloc_new w.drew (.cells (bytesRow s (grownCap w s.size 0 5)) 5 ((bytesRow s (grownCap w s.size 0 5)).size,(bytesRow s (grownCap w s.size 0 5)).size+1)));exact this
  ·exact((Below.refl _ _).drew).alloc (Nat.le_refl _) _
theorem BK (s:ByteArray) (w:World) (hs:s.size<=140737488355328):Calls Tryz.prog 112 #[s] w (ap w (.bool (cQ s))):=by
 obtain⟨R,hR⟩:∃b,cQ s=b:=⟨_,rfl⟩;have HR:=H_ hR;rw[hR];clear hR;go_enter Tryz.func112,Tryz.ntmps112;by_cases h3:s.size=3
 case neg=>
  have hf:=H_ (show R=false by rw[<-HR.o];unfold cQ;simp[h3]);have QD:((s.size:Int)==3)=false:=by simp;omega
  clear h3;go_wp2_with fail;go_ret;exact⟨by rw[hf.o];rfl,Below.refl _ _⟩
 case pos=>
  have HS:=H_ h3;have QD:((s.size:Int)==3)=true:=by simp;omega
  have yP:=H_ (show R= !(decide (0<=ncI s)) by rw[<-HR.o,S9];unfold cQ;simp[h3]);clear h3;go_wp2_with (show wpList _ _ _ (Oper.mk (some 8) _ _ _ _ _::_) _ _;refine Cq (by rfl) (.tmp 7) rfl s rfl (by unfold maxLen;omega) ?_;intro cap w2 hc aU gr hcm aH;replace hc:=H_ hc);refine(Zg s w.heap.size cap w2 hc.o aU gr hcm).mono ?_;rintro e w3 ⟨rfl,aZ⟩;go_wp2_with fail;go_ret;exact⟨by rw[yP.o];first|rfl|simp,aH.trans (aZ.mono aH.size)⟩
theorem Hp (grp:ByteArray) (cur:ByteArray) (k t v:Int) (w:World) (hs:cur.size<=140737488355328):Calls Tryz.prog 110 #[grp,.agg #[cur,k,t,v]] w (ap w (.bool (eO grp ⟨cur,k,t,v⟩))):=by
 obtain⟨R,hR⟩:∃b,eO grp ⟨cur,k,t,v⟩=b:=⟨_,rfl⟩;have HR:=H_ hR;rw[hR];obtain⟨b1,eL⟩:∃b,cQ cur=b:=⟨_,rfl⟩;have bC:=H_ eL;have HCU:=H_ (λw2:World=>BK cur w2 hs);rw[eL]at HCU;clear hR eL;go_enter Tryz.func110,Tryz.ntmps110;go_upto_region 1 with fail;obtain⟨W,hW,H,HB,HS,ewx⟩:=B_ w (.cells #[cur,k,t,v] 70);rw[hW];clear ewx;clear hW;have HX:=H_ H;have e0:=ab H 0;clear H;go_wp2_with fail;refine(HCU.o W).mono ?_;rintro e w2 ⟨rfl,aH⟩;have aF:=HB.trans (aH.mono HB.size);have qi:=(aH.block _ HS).trans HX.o;have Fv:=H_ qi;have IP:=H_ (ag qi);have c0:=ab qi 0;have c1:=ab qi 1;have c2:=ab qi 2;have c3:=ab qi 3;clear qi e0;cases b1 with
 |false=>
  have hf:=H_ (show R=false by rw[<-HR.o];unfold eO;simp[bC.o]);go_wp2_with fail;go_ret;exact⟨hf.o.symm▸rfl,aF⟩
 |true=>
 by_cases h1:cur=grp
 case pos=>
  have tR:(cur.toList==grp.toList)=true:=by rw[gI,decide_eq_true h1]
  have H1:=H_ h1;clear h1;have hf:=H_ (show R=false by rw[<-HR.o];unfold eO;simp[H1.o]);go_wp2_with fail;go_ret;exact⟨hf.o.symm▸rfl,aF⟩
 case neg=>
 have tR:(cur.toList==grp.toList)=false:=by rw[gI,decide_eq_false h1]
 have H1:=H_ h1;clear h1;by_cases h2:v<1
 case pos=>
  have tt:decide (v<1)=true:=decide_eq_true h2;have H2:=H_ h2;clear h2;have hf:=H_ (show R=false by rw[<-HR.o];unfold eO;rw[decide_eq_false (show ¬(1<=v/\v<=1000000000000) by have:=H2.o;omega)];simp);go_wp2_with fail;go_ret;exact⟨hf.o.symm▸rfl,aF⟩
 case neg=>
 have tt:decide (v<1)=false:=decide_eq_false h2;by_cases h3:1000000000000<v
 case pos=>
  have QD:decide (v>1000000000000)=true:=decide_eq_true h3;have H3:=H_ h3;clear h2 h3;have hf:=H_ (show R=false by rw[<-HR.o];unfold eO;rw[decide_eq_false (show ¬(1<=v/\v<=1000000000000) by have:=H3.o;omega)];simp);go_wp2_with fail;go_ret;exact⟨hf.o.symm▸rfl,aF⟩
 case neg=>
 have QD:decide (v>1000000000000)=false:=decide_eq_false h3;have sU:=H_ (show R=(decide (k=1/\ -25567<=t/\t<=84005)||decide (k=2/\0<=t/\t<120)) by
  rw[<-HR.o];unfold eO;rw[bC.o,decide_eq_true H1.o,decide_eq_true (show 1<=v/\v<=1000000000000 by omega)];simp)
 clear h2 h3;by_cases h4:k=1
 case pos=>
  subst h4;obtain⟨db,Mv⟩:∃b:Bool,decide (inD t)=b:=⟨_,rfl⟩;have hd:=nS t w2;rw[Mv]at hd;have HD:=H_ hd;have hf:=H_ (show R=db by
   rw[sU.o,<-Mv,decide_eq_false (show ¬((1:Int)=2/\0<=t/\t<120) by omega),Bool.or_false];exact decide_eq_decide.2 ⟨λh=>h.2,λh=>⟨rfl,h⟩⟩)
  clear hd Mv;go_wp2_with fail;refine HD.o.mono ?_;rintro e w3 ⟨rfl,aZ⟩;have aR:=aF.trans (aZ.mono aF.size);go_wp2_with fail;go_ret;exact⟨hf.o.symm▸rfl,aR⟩
 case neg=>
 have h4d:(k==1)=false:=by simpa using h4
 by_cases h7:k=2
 case neg=>
  have h7d:(k==2)=false:=by simpa using h7
  have H4:=H_ (And.intro h4 h7);clear h4 h7;have hf:=H_ (show R=false by rw[sU.o];have:=H4.o;simp;omega);go_wp2_with fail;go_ret;exact⟨hf.o.symm▸rfl,aF⟩
 case pos=>
 subst h7;clear h4 h4d;by_cases h5:0<=t
 case neg=>
  have h5d:decide (t≥0)=false:=decide_eq_false h5;have h5e:decide (0<=t)=false:=decide_eq_false h5;have H5:=H_ h5;clear h5;have hf:=H_ (show R=false by rw[sU.o];have:=H5.o;simp;omega);go_wp2_with fail;go_ret;exact⟨hf.o.symm▸rfl,aF⟩
 case pos=>
 have h5d:decide (t≥0)=true:=decide_eq_true h5;have h5e:decide (0<=t)=true:=decide_eq_true h5;have H5:=H_ h5;clear h5;by_cases h6:t<120
 case pos=>
  have h6d:decide (t<120)=true:=decide_eq_true h6;have H6:=H_ h6;clear h6;have hf:=H_ (show R=true by rw[sU.o];have:=H5.o;have:=H6.o;simp;omega);go_wp2_with fail;go_ret;exact⟨hf.o.symm▸rfl,aF⟩
 case neg=>
  have h6d:decide (t<120)=false:=decide_eq_false h6;have H6:=H_ h6;clear h6;have hf:=H_ (show R=false by rw[sU.o];have:=H6.o;simp;omega);go_wp2_with fail;go_ret;exact⟨hf.o.symm▸rfl,aF⟩
theorem EQ (grp:ByteArray) (cur:ByteArray) (k t v:Int) (w:World) (hs:cur.size<=140737488355328):Calls Tryz.prog 67 #[grp,.agg #[cur,k,t,v]] w (ap w (.bool (eO grp ⟨cur,k,t,v⟩))):=by
 obtain⟨R,hR⟩:∃b,eO grp ⟨cur,k,t,v⟩=b:=⟨_,rfl⟩;have HR:=H_ hR;rw[hR];obtain⟨b1,eL⟩:∃b,cQ cur=b:=⟨_,rfl⟩;have bC:=H_ eL;have HCU:=H_ (λw2:World=>xU cur w2 hs);rw[eL]at HCU;clear hR eL;go_enter Tryz.func67,Tryz.ntmps67;go_upto_region 1 with fail;obtain⟨W,hW,H,HB,HS,ewx⟩:=B_ w (.cells #[cur,k,t,v] 70);rw[hW];clear ewx;clear hW;have HX:=H_ H;have e0:=ab H 0;clear H;go_wp2_with fail;refine(HCU.o W).mono ?_;rintro e w2 ⟨rfl,aH⟩;have aF:=HB.trans (aH.mono HB.size);have qi:=(aH.block _ HS).trans HX.o;have Fv:=H_ qi;have IP:=H_ (ag qi);have c0:=ab qi 0;have c1:=ab qi 1;have c2:=ab qi 2;have c3:=ab qi 3;clear qi e0;cases b1 with
 |false=>
  have hf:=H_ (show R=false by rw[<-HR.o];unfold eO;simp[bC.o]);go_wp2_with fail;go_ret;exact⟨hf.o.symm▸rfl,aF⟩
 |true=>
 by_cases h1:cur=grp
 case pos=>
  have tR:(cur.toList==grp.toList)=true:=by rw[gI,decide_eq_true h1]
  have H1:=H_ h1;clear h1;have hf:=H_ (show R=false by rw[<-HR.o];unfold eO;simp[H1.o]);go_wp2_with fail;go_ret;exact⟨hf.o.symm▸rfl,aF⟩
 case neg=>
 have tR:(cur.toList==grp.toList)=false:=by rw[gI,decide_eq_false h1]
 have H1:=H_ h1;clear h1;by_cases h2:v<1
 case pos=>
  have tt:decide (v<1)=true:=decide_eq_true h2;have H2:=H_ h2;clear h2;have hf:=H_ (show R=false by rw[<-HR.o];unfold eO;rw[decide_eq_false (show ¬(1<=v/\v<=1000000000000) by have:=H2.o;omega)];simp);go_wp2_with fail;go_ret;exact⟨hf.o.symm▸rfl,aF⟩
 case neg=>
 have tt:decide (v<1)=false:=decide_eq_false h2;by_cases h3:1000000000000<v
 case pos=>
  have QD:decide (v>1000000000000)=true:=decide_eq_true h3;have H3:=H_ h3;clear h2 h3;have hf:=H_ (show R=false by rw[<-HR.o];unfold eO;rw[decide_eq_false (show ¬(1<=v/\v<=1000000000000) by have:=H3.o;omega)];simp);go_wp2_with fail;go_ret;exact⟨hf.o.symm▸rfl,aF⟩
 case neg=>
 have QD:decide (v>1000000000000)=false:=decide_eq_false h3;have sU:=H_ (show R=(decide (k=1/\ -25567<=t/\t<=84005)||decide (k=2/\0<=t/\t<120)) by
  rw[<-HR.o];unfold eO;rw[bC.o,decide_eq_true H1.o,decide_eq_true (show 1<=v/\v<=1000000000000 by omega)];simp)
 clear h2 h3;by_cases h4:k=1
 case pos=>
  subst h4;obtain⟨db,Mv⟩:∃b:Bool,decide (inD t)=b:=⟨_,rfl⟩;have hd:=mt t w2;rw[Mv]at hd;have HD:=H_ hd;have hf:=H_ (show R=db by
   rw[sU.o,<-Mv,decide_eq_false (show ¬((1:Int)=2/\0<=t/\t<120) by omega),Bool.or_false];exact decide_eq_decide.2 ⟨λh=>h.2,λh=>⟨rfl,h⟩⟩)
  clear hd Mv;go_wp2_with fail;refine HD.o.mono ?_;rintro e w3 ⟨rfl,aZ⟩;have aR:=aF.trans (aZ.mono aF.size);have Bq:=(aZ.block _ IP.o).trans Fv.o;have d1:=ab Bq 1;have d2:=ab Bq 2;clear Bq;cases db with
  |true=>
   go_wp2_with fail;go_ret;exact⟨hf.o.symm▸rfl,aR⟩
  |false=>
   go_wp2_with fail;go_ret;exact⟨hf.o.symm▸rfl,aR⟩
 case neg=>
 have h4d:(k==1)=false:=by simpa using h4
 by_cases h7:k=2
 case neg=>
  have h7d:(k==2)=false:=by simpa using h7
  have H4:=H_ (And.intro h4 h7);clear h4 h7;have hf:=H_ (show R=false by rw[sU.o];have:=H4.o;simp;omega);go_wp2_with fail;go_ret;exact⟨hf.o.symm▸rfl,aF⟩
 case pos=>
 subst h7;clear h4 h4d;by_cases h5:0<=t
 case neg=>
  have h5d:decide (t≥0)=false:=decide_eq_false h5;have h5e:decide (0<=t)=false:=decide_eq_false h5;have H5:=H_ h5;clear h5;have hf:=H_ (show R=false by rw[sU.o];have:=H5.o;simp;omega);go_wp2_with fail;go_ret;exact⟨hf.o.symm▸rfl,aF⟩
 case pos=>
 have h5d:decide (t≥0)=true:=decide_eq_true h5;have h5e:decide (0<=t)=true:=decide_eq_true h5;have H5:=H_ h5;clear h5;by_cases h6:t<120
 case pos=>
  have h6d:decide (t<120)=true:=decide_eq_true h6;have H6:=H_ h6;clear h6;have hf:=H_ (show R=true by rw[sU.o];have:=H5.o;have:=H6.o;simp;omega);go_wp2_with fail;go_ret;exact⟨hf.o.symm▸rfl,aF⟩
 case neg=>
  have h6d:decide (t<120)=false:=decide_eq_false h6;have H6:=H_ h6;clear h6;have hf:=H_ (show R=false by rw[sU.o];have:=H6.o;simp;omega);go_wp2_with fail;go_ret;exact⟨hf.o.symm▸rfl,aF⟩
theorem Ef:(Tryz.prog.info? 161).map (·.size)=some 3:=by kernel_rfl
theorem xS (cur:ByteArray) (k t v:Int) (w:World):Calls Tryz.prog 111 #[.agg #[cur,k,t,v]] w (ap w (.agg #[cur,k,t])):=by
 go_enter Tryz.func111,Tryz.ntmps111;go_upto_region 1 with fail;obtain⟨W,hW,H,HB,HS,ewx⟩:=B_ w (.cells #[cur,k,t,v] 70);rw[hW];clear ewx;obtain⟨W2,fR,H2,dz,jK,ewx⟩:=B_ W (.cells #[.string ⟨#[]⟩,(),()] 161);rw[fR];replace H:=(dz.block _ (ag H)).trans H;clear ewx;clear fR;have eW:W.heap.size=w.heap.size+1:=by rw[<-hW];simp
 rw[eW]at H2;clear hW;have aH:=HB.trans (dz.mono HB.size);have dW:=dz.size;have lV:=ag H2;have nf:w.heap.size<W2.heap.size:=by omega
 have HH:=H_ H;have HZ:=H_ H2;have EW:=H_ eW;clear H H2 eW;have aF:=aH;have ku:=nf;have kt:=lV;have dn:=HH;have qN:=HZ;have c0:=ab dn.o 0;have c1:=ab dn.o 1;have c2:=ab dn.o 2;go_wp2_with (show wpList _ _ _ (Oper.mk none (Op.store _ (Operand.tmp 2) _) _ _ _ _::_) _ _;refine wpList_store_row rfl 161 (.tmp 2) (.tmp 9) rfl (w.heap.size+1) #[cur,k,t] rfl rfl 161 #[.string ⟨#[]⟩,(),()] qN.o (by rw[Ef];rfl) rfl (by simp[Value.oneCell']) ?_);refine bodyPost_ret (v:=_) (eT rfl _ _ (w.heap.size+1) 161 _ (0,0) _ rfl (aB qN.o _) Tryz.underlying161 rfl Ef) rfl ?_;exact⟨rfl,aD aF (by omega) _⟩
theorem AT (cur M4:ByteArray) (k t v k2 t2 v2:Int) (w:World):Calls Tryz.prog 68 #[.agg #[cur,k,t,v],.agg #[M4,k2,t2,v2]] w (ap w (.bool (decide (cur=M4/\k=k2/\t=t2)))):=by
 obtain⟨R,hR⟩:∃b:Bool,decide (cur=M4/\k=k2/\t=t2)=b:=⟨_,rfl⟩;have HR:=H_ hR;rw[hR];clear hR;go_enter Tryz.func68,Tryz.ntmps68;go_upto_region 1 with fail;obtain⟨W,hW,H,HB,HS,ewx⟩:=B_ w (.cells #[cur,k,t,v] 70);rw[hW];clear ewx;obtain⟨W2,fR,H2,dz,jK,ewx⟩:=B_ W (.cells #[M4,k2,t2,v2] 70);rw[fR];replace H:=(dz.block _ (ag H)).trans H;clear ewx;clear fR;have eW:W.heap.size=w.heap.size+1:=by rw[<-hW];simp
 rw[eW]at H2;clear hW;have aH:=HB.trans (dz.mono HB.size);have dW:=dz.size;have lV:=ag H2;have nf:w.heap.size<W2.heap.size:=by omega
 have HH:=H_ H;have HZ:=H_ H2;have EW:=H_ eW;clear H H2 eW;have aF:=aH;have ku:=nf;have kt:=lV;have dn:=HH;have qN:=HZ;have c0:=ab dn.o 0;have c1:=ab dn.o 1;have c2:=ab dn.o 2;have d0:=ab qN.o 0;have d1:=ab qN.o 1;have d2:=ab qN.o 2;by_cases h1:cur=M4
 case neg=>
  have tR:(cur.toList==M4.toList)=false:=by rw[gI,decide_eq_false h1]
  have H1:=H_ h1;clear h1;have hf:=H_ (show R=false by rw[<-HR.o];exact decide_eq_false (λh=>H1.o h.1));go_wp2_with fail;go_ret;exact⟨hf.o.symm▸rfl,aF⟩
 case pos=>
 have tR:(cur.toList==M4.toList)=true:=by rw[gI,decide_eq_true h1]
 have H1:=H_ h1;clear h1;by_cases h2:k=k2
 case neg=>
  have tt:(k==k2)=false:=by simpa using h2
  have H2:=H_ h2;clear h2;have hf:=H_ (show R=false by rw[<-HR.o];exact decide_eq_false (λh=>H2.o h.2.1));go_wp2_with fail;go_ret;exact⟨hf.o.symm▸rfl,aF⟩
 case pos=>
 have tt:(k==k2)=true:=by simpa using h2
 have H2:=H_ h2;clear h2;by_cases h3:t=t2
 case neg=>
  have QD:(t==t2)=false:=by simpa using h3
  have H3:=H_ h3;clear h3;have hf:=H_ (show R=false by rw[<-HR.o];exact decide_eq_false (λh=>H3.o h.2.2));go_wp2_with fail;go_ret;exact⟨hf.o.symm▸rfl,aF⟩
 case pos=>
  have QD:(t==t2)=true:=by simpa using h3
  have H3:=H_ h3;clear h3;have hf:=H_ (show R=true by rw[<-HR.o];exact decide_eq_true ⟨H1.o,H2.o,H3.o⟩);go_wp2_with fail;go_ret;exact⟨hf.o.symm▸rfl,aF⟩
theorem aT:(Tryz.prog.info? 70).map (·.size)=some 4:=by kernel_rfl
def fN (x:aC):List Value:=[.string x.currency,.int .i64 x.kind,.int .i64 x.when_,.int .i64 x.value]
theorem io {w:World} {Q:Nat->Prop} {cs:List Value} {x:aC} (h:bN w Q cs x):cs=fN x/\am x.kind/\am x.when_/\am x.value:=by
 obtain⟨c0,c1,c2,c3,e,h0,h1,h2,h3⟩:=h;have h0:c0=[.string x.currency]:=h0;obtain⟨h1,b1⟩:=h1;obtain⟨h2,b2⟩:=h2;obtain⟨h3,b3⟩:=h3;subst h0 h1 h2 h3;exact⟨e,b1,b2,b3⟩
theorem D4 {rs:List aC} {c:ByteArray} {k w:Int} {i:Nat} (hi:i<rs.length) (he:cW rs[i]=(c,k,w)) (h:∀j (hj:j<rs.length),j<i->cW rs[j]≠(c,k,w)):dq rs c k w=some rs[i].value:=by
 have e:rs.find? (λr=>decide (cW r=(c,k,w)))=some rs[i]:=by
  rw[List.find?_eq_some_iff_getElem];exact⟨by simpa using he,i,hi,rfl,λj hj=>by simpa using h j (by omega) hj⟩
 unfold dq;rw[e];rfl
theorem D5 {rs:List aC} {c:ByteArray} {k w:Int} (h:∀j (hj:j<rs.length),cW rs[j]≠(c,k,w)):dq rs c k w=none:=by
 unfold dq;rw[List.find?_eq_none.2]
 ·rfl
 ·intro r hr;obtain⟨j,hj,rfl⟩:=List.getElem_of_mem hr;simpa using h j hj
def oT (x:ak) (l:List ak):List ak:=l.takeWhile (λy=>decide (ltX y x))++x::l.dropWhile (λy=>decide (ltX y x))
def jV (l:List ak):List ak:=l.foldl (λo x=>oT x o) []
theorem sl (x:ak) (l:List ak):(oT x l).Perm (x::l):=by
 unfold oT;refine List.perm_middle.trans ?_;rw[List.takeWhile_append_dropWhile]
theorem sj (x y:ak) (l:List ak):oT x (y::l)=if ltX y x then y::oT x l else x::y::l:=by
 unfold oT;by_cases h:ltX y x
 ·rw[if_pos h,List.takeWhile_cons_of_pos (by simpa using h),List.dropWhile_cons_of_pos (by simpa using h)];rfl
 ·rw[if_neg h,List.takeWhile_cons_of_neg (by simpa using h),List.dropWhile_cons_of_neg (by simpa using h)];rfl
theorem tf (x:ak):∀(l:List ak),l.Pairwise ltX->(∀y∈l,y.id≠x.id)->(oT x l).Pairwise ltX
 |[],_,_=>by simp[oT]
 |y::l,h,hd=>by
  rw[sj];rw[List.pairwise_cons]at h;split
  ·rename_i hl;rw[List.pairwise_cons];refine⟨λz hz=>?_,tf x l h.2 (λz hz=>hd z (List.mem_cons_of_mem _ hz))⟩;rcases List.mem_cons.1 ((sl x l).mem_iff.1 hz)with e|hz
   ·rw[e];exact hl
   ·exact h.1 z hz
  ·rename_i hl;have hx:ltX x y:=by
    have:=hd y (List.mem_cons_self ..);unfold ltX at hl |-;omega
   rw[List.pairwise_cons,List.pairwise_cons];refine⟨λz hz=>?_,h⟩;rcases List.mem_cons.1 hz with e|hz
   ·rw[e];exact hx
   ·exact AB hx (h.1 z hz)
theorem AU:∀(l o:List ak),o.Pairwise ltX->((o++l).map (·.id)).Nodup->(l.foldl (λo x=>oT x o) o).Perm (o++l)/\(l.foldl (λo x=>oT x o) o).Pairwise ltX
 |[],o,h,_=>⟨by simp,h⟩
 |x::l,o,h,hn=>by
  have hp:(oT x o++l).Perm (o++x::l):=((sl x o).append_right l).trans List.perm_middle.symm;have hd:∀y∈o,y.id≠x.id:=λy hy e=>by
   rw[List.map_append,List.map_cons]at hn;have h1:=(List.nodup_append.1 hn).2.2;exact h1 y.id (List.mem_map.2 ⟨y,hy,rfl⟩) x.id (List.mem_cons_self ..) e
  obtain⟨i1,i2⟩:=AU l (oT x o) (tf x o h hd) ((hp.map _).nodup_iff.2 hn);exact⟨i1.trans hp,i2⟩
theorem mu {l:List ak} (hn:(l.map (·.id)).Nodup):j5 l (jV l):=by
 have:=AU l [] List.Pairwise.nil (by simpa using hn);rw[List.nil_append]at this;exact this
theorem j5.filter {es fs:List ak} (h:j5 es fs) (q:ak->Bool):j5 (es.filter q) (fs.filter q):=⟨h.1.filter q,h.2.filter q⟩
theorem ri {g:au} {es:List ak} (h:okJ g es):(es.map (·.id)).Nodup:=by
 rw[List.nodup_iff_pairwise_ne,List.pairwise_iff_getElem];intro i j hi hj Gb e;simp only[List.length_map]at hi hj;simp only[List.getElem_map]at e;have h1:=(rp (h j hj)).2.1;have h2:=Lw h1 es[i] (List.mem_take_iff_getElem.2 ⟨i,by omega,rfl⟩);exact h2 e
theorem fU {l:List ak} (q:ak->Bool) (h:(l.map (·.id)).Nodup):((l.filter q).map (·.id)).Nodup:=h.sublist (List.filter_sublist.map _)
instance (g:au) (es:List ak):Decidable (okJ g es):=inferInstanceAs (Decidable (∀k (h:k<es.length),eF g (es.take k) es[k]=0))
def cE (b:XBk):Prop:=bh b.g=true/\okJ b.g b.es/\dJ b.g.currency b.rs
instance (b:XBk):Decidable (cE b):=inferInstanceAs (Decidable (_/\_/\_))
theorem cE.j {b:XBk} (h:cE b):kQ b.g b.es:=⟨h.1,h.2.1⟩
def eN (b:XBk) (p:Int):Prop:=0<=p/\p<b.g.calendar.periods
def dZ (b:XBk) (ent:Int):Prop:=0<=ent/\ent<b.g.entities.length
instance (b:XBk) (p:Int):Decidable (eN b p):=inferInstanceAs (Decidable (_/\_))
instance (b:XBk) (p:Int):Decidable (dZ b p):=inferInstanceAs (Decidable (_/\_))
def fH (b:XBk) (ent p:Int):Int:=if cE b then(if dZ b ent/\eN b p then 0 else 2)else 1
def gJ (es:List ak) (ent t:Int):List ak:=es.filter (λx=>decide (x.entity=ent/\x.date<=t))
def Je (b:XBk) (ent p:Int):List ak:=jV (gJ b.es ent (bA b.g p))
def pQ (b:XBk) (ent p:Int):List bW × Int:=if fH b ent p=0 then ZA b p (Je b ent p)else([],fH b ent p)
def pm (b:XBk) (e l p:Int):bW × Int:=
 if fH b 0 p=0 then(match eH b.es e with
  |none=>({},8)
  |some k=>if l<0\/((b.es.getD k {}).lines.length:Int)<=l\/bA b.g p< (b.es.getD k {}).date then({},8)else jr b (b.es.getD k {}) l.toNat p)
 else({},fH b 0 p)
theorem OY {b:XBk} (h:cE b) (ent p:Int):j5 (gJ b.es ent (bA b.g p)) (Je b ent p):=mu (fU _ (ri h.2.1))
theorem Lj {b:XBk} (h:cE b) {ent p:Int} {x:ak}:x∈Je b ent p↔x∈b.es/\x.entity=ent/\x.date<=bA b.g p:=by
 rw[(OY h ent p).1.mem_iff];unfold gJ;rw[List.mem_filter,decide_eq_true_iff]
theorem vN {b:XBk} {ent p:Int} (h:fH b ent p=0):cE b/\dZ b ent/\eN b p:=by
 unfold fH at h;by_cases h1:cE b
 ·rw[if_pos h1]at h;by_cases h2:dZ b ent/\eN b p
  ·exact⟨h1,h2⟩
  ·rw[if_neg h2]at h;cases h
 ·rw[if_neg h1]at h;cases h
theorem fy {g:au} (h:bh g=true):du g.calendar.year g.calendar.month g.calendar.periods=true:=by
 unfold bh at h;simp only[Bool.and_eq_true]at h;exact h.1.1.1.1.2
theorem ST {g:au} (h:bh g=true):1<=g.entities.length/\g.entities.length<=12:=by
 unfold bh at h;simp only[Bool.and_eq_true,decide_eq_true_eq]at h;exact h.1.1.2
theorem Aq {g:au} (h:bh g=true) {q:Nat} (hq:q<g.entities.length):cQ g.entities[q].currency=true/\pV g.entities[q].chart g.chart g.entities[q].links=true:=by
 unfold bh at h;simp only[Bool.and_eq_true]at h;have h1:=h.2;unfold DX at h1;have h2:=Ad h1 hq;unfold mK at h2;rw[List.getElem?_eq_getElem hq]at h2;simp only[Bool.and_eq_true]at h2;have h3:=h2.2;unfold dP at h3;simp only[Bool.and_eq_true]at h3;have h4:=h3.1.2;unfold n8 at h4;simp only[Bool.and_eq_true]at h4;exact⟨h3.1.1.2,h4.2⟩
theorem GY:∀(ls:List bu) (code gA:Int) (l:bu),js ls code gA=some l->l∈ls/\l.from_=code/\l.since<=gA:=by
 have ir:∀(ls:List bu) (code gA:Int) (o:Option bu) (l:bu),ls.foldl (zw code gA) o=some l->o=some l\/(l∈ls/\l.from_=code/\l.since<=gA):=by
  intro ls
  induction ls with
  |nil=>intro code gA o l h;exact .inl h
  |cons x ls ih=>
   intro code gA o l h;rcases ih code gA _ l h with h|h
   ·unfold zw at h;split at h
    ·rename_i hc;cases h;exact .inr ⟨List.mem_cons_self ..,hc.1,hc.2.1⟩
    ·exact .inl h
   ·exact .inr ⟨List.mem_cons_of_mem _ h.1,h.2⟩
 intro ls code gA l h;rcases ir ls code gA none l h with h|h
 ·cases h
 ·exact h
theorem S4 {g:au} (hg:bh g=true) {q:Nat} (hq:q<g.entities.length) {code gA:Int} (h:(gz g.entities[q] code gA).2=0):∃a b,aK g.entities[q].chart code=some a/\aK g.chart (gz g.entities[q] code gA).1=some b/\a.kind=b.kind:=by
 obtain⟨_,hl⟩:=Aq hg hq;unfold gz at h |-;split at h
 ·cases h
 rename_i h1;rw[if_neg h1];split at h
 ·cases h
 rename_i h2;rw[if_neg h2];cases ho:js g.entities[q].links code gA with
 |none=>rw[ho]at h;cases h
 |some l=>
  obtain⟨h3,h4,_⟩:=GY _ _ _ _ ho;obtain⟨k,hk,rfl⟩:=List.getElem_of_mem h3;unfold pV at hl;have h5:=Ad hl hk;unfold gF at h5;rw[List.getElem?_eq_getElem hk]at h5;simp only[Bool.and_eq_true]at h5;have h6:=h5.1;unfold n0 at h6;rw[h4]at h6;cases ha:aK g.entities[q].chart code with
  |none=>rw[ha]at h6;cases h6
  |some a=>
   rw[ha]at h6;simp only at h6;cases hb:aK g.chart g.entities[q].links[k].to_ with
   |none=>rw[hb]at h6;cases h6
   |some b=>
    rw[hb]at h6;simp only[Bool.and_eq_true,beq_iff_eq]at h6;exact⟨a,b,rfl,rfl,h6.1⟩
theorem Ei {g:au} (hg:bh g=true) {p:Int} (hp:0<=p/\p<g.calendar.periods):bA g p=ff (bw g.calendar.year g.calendar.month p):=by
 unfold bA bH bo;rw[if_pos (by rw[if_pos (fy hg),if_pos hp])]
theorem An {g:au} (hg:bh g=true) {p:Int} (hp:0<=p/\p<g.calendar.periods):lJ g p=da (bw g.calendar.year g.calendar.month p):=by
 unfold lJ aX bo;rw[if_pos (by rw[if_pos (fy hg),if_pos hp])]
theorem Tm {g:au} (hg:bh g=true) {p:Int} (hp:0<=p/\p<g.calendar.periods):inY (bw g.calendar.year g.calendar.month p/ 12):=(ig (fy hg) hp.1 hp.2).2.2.2.2.2
theorem B6 {N:Int} (h:inY (N/ 12)):inD (ff N)/\da N<=ff N:=by
 have h1:=(im h).2.2.2.2.1;have h2:=Jl h;have hd:=nR (y:=N/ 12) (m:=N%12+1) h (by omega) (by omega);have hci:qP (ff N) (N/ 12) (N%12+1) (ck (N/ 12) (N%12+1)):=by
  refine⟨h,by omega,by omega,by omega,Int.le_refl _,?_⟩;unfold ff da;rw[show N%12+1- 1=N%12 from by omega]
 have a:=hci.year.2;have b:=(oE h).1;have hb:=gN (show N/ 12+1<=2200 by have:=h.2;omega);rw[tZ]at hb;unfold inD at*;have:=h.2;exact⟨⟨by omega,by omega⟩,h2⟩
theorem nX {g:au} (hg:bh g=true) {p:Int} (hp:0<=p/\p<g.calendar.periods):inD (bA g p):=by
 rw[Ei hg hp];exact(B6 (Tm hg hp)).1
theorem Js {g:au} (hg:bh g=true) {d:Int} (h:(cT g.calendar.year g.calendar.month g.calendar.periods d).2=0):(0<=iC g d/\iC g d<g.calendar.periods)/\lJ g (iC g d)<=d/\d<=bA g (iC g d)/\inD d:=by
 have hc:=fy hg;have e:iC g d=(cT g.calendar.year g.calendar.month g.calendar.periods d).1:=rfl;unfold cT at h e;cases hp:rm g.calendar.year g.calendar.month g.calendar.periods d with
 |none=>rw[hp]at h;cases h
 |some p=>
  rw[hp]at e;simp only at e;obtain⟨h1,h2,h3⟩:=rn hc hp;have hn:=of_decide_eq_true hc;have hb:0<=iC g d/\iC g d<g.calendar.periods:=by omega
  rw[An hg hb,Ei hg hb,e];exact⟨by omega,h2,h3,Jt hc h1 h2 h3⟩
theorem oz {b:XBk} (h:cE b) {x:ak} (hx:x∈b.es):(cT b.g.calendar.year b.g.calendar.month b.g.calendar.periods x.date).2=0:=by
 have h1:=(zx h.j hx).2.1;rw[Pu (fy h.1),if_pos h1]
theorem Am {b:XBk} (h:cE b) {x:ak} (hx:x∈b.es):dZ b x.entity:=⟨(rx h.j hx).2.2.1,(rx h.j hx).2.2.2.1⟩
structure ab0 (b:XBk) (ent code date p:Int):Prop where
 map:(gz (b.g.entities.getD ent.toNat {}) code (bA b.g p)).2=0
 acc:∃a,aK b.g.chart (gz (b.g.entities.getD ent.toNat {}) code (bA b.g p)).1=some a/\dM b ent code date p=((gz (b.g.entities.getD ent.toNat {}) code (bA b.g p)).1,kP b (b.g.entities.getD ent.toNat {}).currency a.basis date p)
theorem me {b:XBk} {ent:Int} (he:dZ b ent):∃q:Nat,∃hq:q<b.g.entities.length,ent=(q:Int)/\b.g.entities.getD ent.toNat {}=b.g.entities[q]:=by
 refine⟨ent.toNat,by have:=he.2;have:=he.1;omega,by have:=he.1;omega,?_⟩;rw[List.getD_eq_getElem?_getD,List.getElem?_eq_getElem (by have:=he.2;have:=he.1;omega)];rfl
theorem AA {b:XBk} (h:cE b) {ent:Int} (he:dZ b ent) {code date p:Int} (hm:(gz (b.g.entities.getD ent.toNat {}) code (bA b.g p)).2=0):ab0 b ent code date p:=by
 refine⟨hm,?_⟩;obtain⟨q,hq,_,e⟩:=me he;have jA:=hm;rw[e]at jA;obtain⟨a,b1,h1,h2,h3⟩:=S4 h.1 hq jA;rw[<-e]at h2;refine⟨b1,h2,?_⟩;unfold dM;simp only;rw[if_neg (by simpa using hm),h2]
theorem Ej {b:XBk} {ent:Int} {code date p:Int} (hm:(gz (b.g.entities.getD ent.toNat {}) code (bA b.g p)).2≠0):dM b ent code date p=(0,0,15):=by
 unfold dM;simp only;rw[if_pos hm]
end
section
open Go Go.RowKit
open Go.Maps (Keyed)
open Go.WideMaps (KeyLaw)
theorem PX:(161:TypeId)<Tryz.prog.types.size:=of_decide_eq_true K_
theorem L6:(match Tryz.prog.underlying 161 with|some (.array _ _)|some (.struct _)=>true|_=>false)=true:=by kernel_rfl
theorem PW:KeyLaw Tryz.prog 161:=deep_law_laid lA (m:=2) (by omega) PX K_ L6
theorem mV:Keyed Tryz.prog 161:=Keyed.of_law PW
theorem Qi:Tryz.prog.underlying 9=some .string:=by kernel_rfl
theorem In:Tryz.prog.cellsOf 9=1:=by kernel_rfl
theorem yf:Tryz.prog.cellsOf 161=3:=by kernel_rfl
theorem Eh {d:Nat} {s:ByteArray} (h:s.size<=maxLen):Tryz.prog.keyLits (d+1) 9 [s]=some [.string s.data.toList]:=by
 unfold Program.keyLits;rw[Qi];simp[h]
theorem Ci {d:Nat} {s:ByteArray} {a z:Int} (hs:s.size<=maxLen) (ha:am a) (hz:am z):Tryz.prog.keyLits (d+2) 161 [s,a,z]=some [.string s.data.toList,.int .i64 a,.int .i64 z]:=by
 unfold Program.keyLits;rw[Tryz.underlying161];have h0:=Eh (d:=d) hs;have h1:=f7 (d:=d) ha;have h2:=f7 (d:=d) hz;simp[yf,mh,In,h0,h1,h2]
theorem Cj:Tryz.prog.keyType 161=true:=by kernel_rfl
theorem pw:∃fs,Tryz.prog.underlying 161=some (.struct fs):=⟨_,Tryz.underlying161⟩
theorem EJ {a b c:Value}:(Value.agg #[a,b,c]).formed Tryz.prog 161=true:=by
 obtain⟨fs,hu⟩:=pw;simp[Value.formed,hu,yf]
abbrev RK:={p:ByteArray × Int × Int // p.1.size<=maxLen/\am p.2.1/\am p.2.2}
def xZ (c:RK):Lit:=.string (keyBytes [.string c.1.1.data.toList,.int .i64 c.1.2.1,.int .i64 c.1.2.2])
def VP (c:RK):Value:=.agg #[c.1.1,c.1.2.1,c.1.2.2]
theorem yb (c:RK):keyOf Tryz.prog 161 (VP c)=some (xZ c):=by
 obtain⟨fs,hu⟩:=pw;obtain⟨d,hd⟩:=mW;unfold keyOf VP;rw[hu];simp only[Cj,EJ,Bool.and_self,if_true,hd,Value.cells];rw[Ci c.2.1 c.2.2.1 c.2.2.2];rfl
theorem L4 (x y:RK) (h:xZ x=xZ y):x=y:=by
 have h1:=yb x;have h2:=yb y;rw[<-h]at h2;have h3:=mV.inj h1 h2;have h4:=congrArg Array.toList (Value.agg.inj h3);simp only[List.cons.injEq,Value.string.injEq,Value.int.injEq,true_and,and_true]at h4;exact Subtype.ext (Prod.ext h4.1 (Prod.ext h4.2.1 h4.2.2))
theorem L5 (x:RK):WideAt.IsKeyLit (xZ x):=trivial
theorem yg:Tryz.prog.underlying 159=some (.map 161 4):=by kernel_rfl
abbrev aep (w:World) (b n:Nat) (f:RK->Bool):Prop:=fm Tryz.prog 161 4 xZ w b n f
def yr (rs:List aC) (k:Nat) (c:RK):Bool:=(rs.take k).any λx=>decide (cW x=c.1)
theorem Ih {rs:List aC} {k:Nat} (hk:k<rs.length) {c:RK} (hc:c.1=cW rs[k]) {F:RK->Bool} (hF:yr rs k=F) (d:RK):(if d=c then true else F d)=yr rs (k+1) d:=by
 unfold yr;rw[iV hk,<-hF];by_cases h:d=c
 ·rw[if_pos h,h,decide_eq_true hc.symm];simp
 ·rw[if_neg h,decide_eq_false (λe=>h (Subtype.ext (e.symm.trans hc.symm))),Bool.or_false];rfl
theorem AY {grp:ByteArray} {rs:List aC} {k:Nat} (hk:k<rs.length) (h:eO grp rs[k]=false):¬dJ grp rs:=λhv=>by
 have:=hv.1 _ (List.getElem_mem hk);rw[h]at this;cases this
theorem ace {rs:List aC} {k:Nat} (hk:k<rs.length) (h:((rs.take k).map cW).Nodup) (hn:((rs.take k).any λx=>decide (cW x=cW rs[k]))=false):((rs.take (k+1)).map cW).Nodup:=by
 rw[List.take_add_one,List.getElem?_eq_getElem hk,List.map_append];refine List.nodup_append.2 ⟨h,by simp,λx hx y hy=>?_⟩;obtain⟨r,hr,rfl⟩:=List.mem_map.1 hx;rw[List.any_eq_false]at hn;have:=hn r hr;simp only[Option.toList,List.map_cons,List.map_nil,List.mem_singleton]at hy;rw[hy];simpa using this
theorem AZ {grp:ByteArray} {rs:List aC} {k:Nat} (hk:k<rs.length) (h:((rs.take k).any λx=>decide (cW x=cW rs[k]))=true):¬dJ grp rs:=λhv=>by
 obtain⟨r,hr,he⟩:=List.any_eq_true.1 h;have he:=of_decide_eq_true he;have hn:=hv.2.1;have e:=(List.take_append_drop k rs).symm;rw[List.drop_eq_getElem_cons hk]at e;rw[e,List.map_append,List.map_cons]at hn;exact(List.nodup_append.1 hn).2.2 _ (List.mem_map.2 ⟨r,hr,rfl⟩) _ (List.mem_cons_self ..) he
theorem sK (grp:ByteArray) (rs:List aC) (A:Option Addr) (cc:Nat) (w:World) (hl:aj bN 4 w (·<w.heap.size) [.slice A rs.length cc] rs) (bP:∀r∈rs,r.currency.size<=140737488355328) (kC:grp.size<=140737488355328) (hm:rs.length<=100000):
 Calls Tryz.prog 79 #[grp,.slice A rs.length cc] w (ap w (.bool (decide (dJ grp rs)))):=by
 have Iz:=@run_makeMap Tryz.prog;obtain⟨R,hR⟩:∃b:Bool,decide (dJ grp rs)=b:=⟨_,rfl⟩;have HR:=H_ hR;rw[hR];clear hR;have HL:=H_ hl;have N2:=H_ bP;have fu:=H_ kC;obtain⟨n,hn⟩:=x_ (rs.length);have HN:=H_ hn;rw[hn]at hm |-;clear hl hn bP kC;go_enter Tryz.func79,Tryz.ntmps79;go_upto_region 2 with fail;have CO:=fm.made Tryz.prog 161 4 xZ w;have Fx:=ai w (.map #[] 0);have HS0:w.heap.size< (w.alloc (.map #[] 0)).heap.size:=by simp
 generalize Q5:w.alloc (Obj.map #[] 0)=W0 at*;clear Q5;go_wp2_with fail
 go_loopw [11] (λi wr=>∃k:Nat,k<=n/\i=.int .i64 (k:Int)/\Below w.heap.size w wr/\aep wr w.heap.size k (yr rs k)/\(∀j (hj:j<rs.length),j<k->eO grp rs[j]=true)/\((rs.take k).map cW).Nodup) (λi _=>n- (intOf i).toNat)
 case atStart=>exact⟨0,by omega,rfl,Fx,CO.eqv (λ_=>rfl),λj hj h=>by omega,by simp⟩
 case round=>
  obtain⟨k,hk,rfl,hb,fD,hall,N4⟩:=hrel;have HA:=H_ hall;have Vi:=H_ N4;have bP:=hb.size;clear hall N4;by_cases aU:k<n
  case pos=>
   have bq:(k:Int)< (n:Int):=by omega
   have gW:0<n:=by omega
   have bI:k<rs.length:=by rw[HN.o];exact aU
   obtain⟨b,o,es,dj,ed,bL,aS⟩:=aj.get HL.o k bI;subst dj;obtain⟨bE,eL,aH,aZ⟩:=io bL;rw[bE]at aS;have T2:=N2.o _ (List.getElem_mem bI);obtain⟨x,hx⟩:=x_ (rs[k]);rw[hx]at aS eL aH aZ T2;have HX:=H_ hx;obtain⟨rc,rk,rt,rv⟩:=x;have eZ:=H_ (show wr.rangeAt b (o+k*4) [rc,rk,rt,rv]from(aS.fr (Fr.ofBelow hb)).range);obtain⟨F,hF⟩:=x_ (yr rs k);rw[hF]at fD;have HF:=H_ hF;obtain⟨c0,sM⟩:∃c:RK,c=⟨(rc,rk,rt),by have h:rc.size<=140737488355328:=T2;simp only[maxLen];exact Nat.le_trans h (by decide),eL,aH⟩:=⟨_,rfl⟩;have vp:=H_ (show keyOf Tryz.prog 161 (.agg #[rc,rk,rt])=some (xZ c0) by have h:=yb c0;rw[sM]at h |-;exact h);have m8:=H_ (show c0.1=cW rs[k] by rw[sM,hx];rfl);have HRZ:=H_ T2;clear bL bE aS hx ed eL aH aZ T2 hF sM;go_upto_region 5 with(refine w_ 14 70 13 b (o+k*4) [rc,rk,rt,rv] eZ.o aT Tryz.underlying70 ?_);obtain⟨W6,mC,H6,dK,my,ewx⟩:=B_ wr (.cells #[rc,rk,rt,rv] 70);rw[mC];clear ewx;clear mC;have jP:=fD.below dK;have dd:=hb.trans (dK.mono hb.size);have sS:=H_ H6;clear H6 fD;obtain⟨v,hv⟩:=x_ (eO grp ⟨rc,rk,rt,rv⟩);have Y8:=Hp grp rc rk rt rv W6 HRZ.o;rw[hv]at Y8;have rD:=H_ Y8;have HV:=H_ (show eO grp rs[k]=v by rw[HX.o];exact hv);clear Y8 hv;go_wp2_with (refine W_ 16 70 7 (wr.heap.size) sS.o aT Tryz.underlying70 ?_);refine rD.o.mono ?_;rintro e w7 ⟨rfl,fC⟩;have qM:=jP.below fC;have QN:=fC.size;have gb:=dd.trans (fC.mono dd.size);have HH7:=k_ fC sS;clear jP;cases v with
   |false=>
    have hf:=H_ (show R=false by rw[<-HR.o];exact decide_eq_false (AY bI HV.o));go_wp2_with fail;go_ret;exact⟨hf.o.symm▸rfl,gb⟩
   |true=>
    go_wp2_with (refine W_ 21 70 7 (wr.heap.size) HH7.o aT Tryz.underlying70 ?_);refine(xS rc rk rt rv w7).mono ?_;rintro e w8 ⟨rfl,jX⟩;have iD:=qM.below jX;have QC:=jX.size;have kw:=gb.trans (jX.mono gb.size);have HH8:=H_ ((jX.block _ (Nat.lt_of_lt_of_le my QN)).trans HH7.o);clear qM;cases kr:F c0 with
    |true=>
     have hf:=H_ (show R=false by
      rw[<-HR.o];refine decide_eq_false (AZ bI ?_);rw[<-kr,<-HF.o];unfold yr;rw[m8.o])
     go_wp2_with (at_lookup;refine bO rfl _ _ 159 rfl 161 4 mV yg de (dU _) w.heap.size k F rfl iD (.agg #[rc,rk,rt]) c0 rfl vp.o ?_);go_ret;exact⟨hf.o.symm▸rfl,kw⟩
    |false=>
     have HNS:=H_ (show((rs.take k).any λx=>decide (cW x=cW rs[k]))=false by
      rw[<-kr,<-HF.o];unfold yr;rw[m8.o])
     go_wp2_with (first|(at_lookup;refine bO rfl _ _ 159 rfl 161 4 mV yg de (dU _) w.heap.size k F rfl iD (.agg #[rc,rk,rt]) c0 rfl vp.o ?_)|(refine W_ 26 70 7 (wr.heap.size) HH8.o aT Tryz.underlying70 ?_));refine(xS rc rk rt rv w8).mono ?_;rintro e w9 ⟨rfl,kT⟩;have qG:=iD.below kT;have Kk:=kw.trans (kT.mono kw.size);have Rr:=H_ Kk;clear iD;go_wp2_with (at_mapUpdate;refine dV rfl _ _ _ 159 rfl 161 4 mV yg de w.heap.size k F rfl qG (by simp only[maxLen];omega) L4 L5 (.agg #[rc,rk,rt]) c0 rfl true rfl vp.o ?_;intro wB nI hgB;replace nI:=H_ nI);go_roundw
     case rel=>
      refine⟨k+1,by omega,by go_num,bK Rr.o hgB (λq hq=>by injection hq with hq;omega) (Nat.le_refl _),nI.o.eqv (λd=>Ih bI m8.o HF.o d),λj hj m7=>?_,ace bI Vi.o HNS.o⟩;rcases Nat.lt_or_ge j k with h|h
      ·exact HA.o j hj h
      ·obtain rfl:j=k:=by omega
       exact HV.o
     case measure=>first|exact aQ aU|(simp only[intOf];omega)
  case neg=>
   have bq:¬(k:Int)< (n:Int):=by omega
   obtain⟨v,hv⟩:=x_ (cQ grp);have cI:=BK grp wr fu.o;rw[hv]at cI;have FK:=H_ cI;have HV:=H_ hv;have eY:=H_ (show(∀r∈rs,eO grp r=true)/\(rs.map cW).Nodup by
    refine⟨λr hr=>?_,?_⟩
    ·obtain⟨j,hj,rfl⟩:=List.getElem_of_mem hr;exact HA.o j hj (by have:=HN.o;omega)
    ·have:=Vi.o
     rwa[List.take_of_length_le (by have:=HN.o;omega)]at this)
   clear cI hv fD;go_wp2_with fail;refine FK.o.mono ?_;rintro e w7 ⟨rfl,fC⟩;have gb:=hb.trans (fC.mono hb.size);cases v with
   |false=>
    have hf:=H_ (show R=false by rw[<-HR.o];exact decide_eq_false (λh=>by have:=h.2.2.1;rw[HV.o]at this;cases this));go_wp2_with fail;go_ret;exact⟨hf.o.symm▸rfl,gb⟩
   |true=>
    by_cases rJ:n<=1000
    case pos=>
     have hf:=H_ (show R=true by rw[<-HR.o];exact decide_eq_true ⟨eY.o.1,eY.o.2,HV.o,by rw[HN.o];exact rJ⟩);have FS_:decide ((n:Int)<=1000)=true:=decide_eq_true (by omega);clear rJ;go_wp2_with fail;go_ret;exact⟨hf.o.symm▸rfl,gb⟩
    case neg=>
     have hf:=H_ (show R=false by rw[<-HR.o];exact decide_eq_false (λh=>rJ (by have:=h.2.2.2;rw[HN.o]at this;exact this)));have FS_:decide ((n:Int)<=1000)=false:=decide_eq_false (by omega);clear rJ;go_wp2_with fail;go_ret;exact⟨hf.o.symm▸rfl,gb⟩
end
section
open Go Go.RowKit
theorem O2 (rs:List aC) (A:Option Addr) (cc:Nat) (c:ByteArray) (kd tm:Int) (w:World) (hl:aj bN 4 w (·<w.heap.size) [.slice A rs.length cc] rs):Calls Tryz.prog 169 #[.slice A rs.length cc,c,kd,tm] w (ap w (.tuple #[((dq rs c kd tm).getD 0:Int),.bool (dq rs c kd tm).isSome])):=by
 obtain⟨r1,qI⟩:∃z,(dq rs c kd tm).getD 0=z:=⟨_,rfl⟩;obtain⟨r2,nJ⟩:∃z,(dq rs c kd tm).isSome=z:=⟨_,rfl⟩;have HS:=H_ (λ(v:Int) (h:dq rs c kd tm=some v)=>show r1=v/\r2=true by rw[<-qI,<-nJ,h];exact⟨rfl,rfl⟩);have Se:=H_ (λ(h:dq rs c kd tm=none)=>show r1=0/\r2=false by rw[<-qI,<-nJ,h];exact⟨rfl,rfl⟩);rw[qI,nJ];have HL:=H_ hl;have gr:=hl.cap;unfold maxLen at gr;obtain⟨n,hn⟩:=x_ (rs.length);have HN:=H_ hn;rw[hn]at gr |-;clear hl hn qI nJ;go_enter Tryz.func169,Tryz.ntmps169;go_wp2_with fail
 go_loopw [14] (λi wr=>∃k:Nat,k<=n/\i=.int .i64 (k:Int)/\Below w.heap.size w wr/\∀j (hj:j<rs.length),j<k->cW rs[j]≠(c,kd,tm)) (λi _=>n- (intOf i).toNat)
 case atStart=>exact⟨0,by omega,rfl,Below.refl _ _,λj hj h=>by omega⟩
 case round=>
  obtain⟨k,hk,rfl,hb,hall⟩:=hrel;have HA:=H_ hall;clear hall;have bP:=hb.size;by_cases aU:k<n
  case pos=>
   have bq:(k:Int)< (n:Int):=by omega
   have gW:0<n:=by omega
   have bI:k<rs.length:=by rw[HN.o];exact aU
   obtain⟨b,o,es,dj,ed,bL,aS⟩:=aj.get HL.o k bI;subst dj;obtain⟨bE,_⟩:=io bL;rw[bE]at aS;obtain⟨x,hx⟩:=x_ (rs[k]);rw[hx]at aS;have HX:=H_ hx;obtain⟨rc,rk,rt,rv⟩:=x;have eZ:=H_ (show wr.rangeAt b (o+k*4) [rc,rk,rt,rv]from(aS.fr (Fr.ofBelow hb)).range);have HE:=H_ (show cW rs[k]=(c,kd,tm)↔(rc=c/\rk=kd/\rt=tm) by rw[HX.o];unfold cW;simp only[Prod.mk.injEq]);obtain⟨q1,mF⟩:∃q:Bool,decide (rc=c)=q:=⟨_,rfl⟩;have ac4:(rc.toList==c.toList)=q1:=by rw[gI];exact mF
   obtain⟨q2,lc⟩:∃q:Bool,decide (rk=kd)=q:=⟨_,rfl⟩;obtain⟨q3,Dj⟩:∃q:Bool,decide (rt=tm)=q:=⟨_,rfl⟩;have ac9:(rk==kd)=q2:=by rw[<-lc];rfl
   have abH:(rt==tm)=q3:=by rw[<-Dj];rfl
   have HQ:=H_ (And.intro mF (And.intro lc Dj));clear bL bE aS hx ed mF lc Dj;go_upto_region 4 with(refine w_ 17 70 16 b (o+k*4) [rc,rk,rt,rv] eZ.o aT Tryz.underlying70 ?_);obtain⟨W6,mC,H6,dK,my,ewx⟩:=B_ wr (.cells #[rc,rk,rt,rv] 70);rw[mC];clear ewx;clear mC;have dd:=hb.trans (dK.mono hb.size);have sS:=H_ H6;clear H6;go_wp2_with (refine W_ 18 70 11 (wr.heap.size) sS.o aT Tryz.underlying70 ?_);refine(xS rc rk rt rv W6).mono ?_;rintro e w7 ⟨rfl,fC⟩;have gb:=dd.trans (fC.mono dd.size);have c3:=ab ((fC.block _ my).trans sS.o) 3;cases Ct:(q1&&(q2&&q3))with
   |true=>
    simp only[Bool.and_eq_true]at Ct;obtain⟨rfl,rfl,rfl⟩:=Ct;have HF:=H_ (HS.o rv (by
     have h:=D4 (c:=c) (k:=kd) (w:=tm) bI (HE.o.2 ⟨of_decide_eq_true HQ.o.1,of_decide_eq_true HQ.o.2.1,of_decide_eq_true HQ.o.2.2⟩) HA.o;rw[HX.o]at h;exact h))
    go_wp2_with fail;go_ret2;exact⟨by rw[HF.o.1,HF.o.2];rfl,gb⟩
   |false=>
    have eP:=H_ (show cW rs[k]≠(c,kd,tm)from λh=>by
     obtain⟨h1,h2,h3⟩:=HE.o.1 h;rw[<-HQ.o.1,<-HQ.o.2.1,<-HQ.o.2.2,decide_eq_true h1,decide_eq_true h2,decide_eq_true h3]at Ct;cases Ct)
    have C1:∀j (hj:j<rs.length),j<k+1->cW rs[j]≠(c,kd,tm):=λj hj m7=>by
     rcases Nat.lt_or_ge j k with h|h
     ·exact HA.o j hj h
     ·obtain rfl:j=k:=by omega
      exact eP.o
    have HA2:=H_ C1;have adj:q1=false\/(q1=true/\q2=false)\/(q1=true/\q2=true/\q3=false):=by revert Ct;cases q1<;>cases q2<;>cases q3<;>simp
    clear C1 Ct;rcases adj with rfl|⟨rfl,rfl⟩|⟨rfl,rfl,rfl⟩
    ·go_wp2_with fail;go_roundw
     case rel=>exact⟨k+1,by omega,by go_num,gb,HA2.o⟩
     case measure=>first|exact aQ aU|(simp only[intOf];omega)
    ·go_wp2_with fail;go_roundw
     case rel=>exact⟨k+1,by omega,by go_num,gb,HA2.o⟩
     case measure=>first|exact aQ aU|(simp only[intOf];omega)
    ·go_wp2_with fail;go_roundw
     case rel=>exact⟨k+1,by omega,by go_num,gb,HA2.o⟩
     case measure=>first|exact aQ aU|(simp only[intOf];omega)
  case neg=>
   have bq:¬(k:Int)< (n:Int):=by omega
   have HF:=H_ (Se.o (D5 (λj hj=>HA.o j hj (by have:=HN.o;omega))));go_wp2_with fail;go_ret2;exact⟨by rw[HF.o.1,HF.o.2];rfl,hb⟩
theorem Pj (s:ByteArray) (w:World) (hs:s.size<=140737488355328):Calls Tryz.prog 227 #[s] w (ap w (.bool (!cQ s))):=by
 obtain⟨v,hv⟩:=x_ (cQ s);have hc:=BK s w hs;rw[hv]at hc |-;have HC:=H_ hc;clear hc hv;go_enter Tryz.func227,Tryz.ntmps227;go_wp2_with fail;refine HC.o.mono ?_;rintro e w2 ⟨rfl,aH⟩;go_wp2_with fail;go_ret;exact⟨rfl,aH⟩
theorem Zz (s:ByteArray) (g:Nat) (w:World) (hc:w.cell? ⟨g,0,none⟩=some (.string s)) (hg:g<w.heap.size) (hs:s.size<=140737488355328):Calls Tryz.prog 231 #[.slice (some ⟨g,0,none⟩) 1 1,.func (.func 227) #[] #[]] w (ap w (.int .i64 (if cQ s=true then -1 else 0))):=by
 obtain⟨v,hv⟩:=x_ (cQ s);have HN:=H_ (λ(w2:World)=>Pj s w2 hs);rw[hv]at HN;obtain⟨R,hR⟩:∃z:Int,(if cQ s=true then -1 else 0)=z:=⟨_,rfl⟩;rw[hR];have HR1:=H_ (λ(h:v=true)=>show R= -1 by rw[<-hR,hv,if_pos h]);have C9:=H_ (λ(h:v=false)=>show R=0 by rw[<-hR,hv,h];rfl);have HC:=H_ hc;clear hv hc hs hR;go_enter Tryz.func231,Tryz.ntmps231;go_wp2_with fail
 go_loopw [8] (λi wr=>∃q:Int,i=.int .i64 q/\0<=q/\q<=1/\Below w.heap.size w wr/\(1<=q->v=true)) (λi _=>(1- intOf i).toNat)
 case atStart=>exact⟨0,rfl,by omega,by omega,Below.refl _ _,by omega⟩
 case round=>
  obtain⟨q,rfl,zG,mF,hb,hv⟩:=hrel;have HV:=H_ hv;have HHG:=H_ hg;have cI:=(hb.cell (p:=⟨g,0,none⟩) hg).trans HC.o;clear hv;by_cases aU:q<1
  case neg=>
   obtain rfl:v=true:=HV.o (by omega);obtain rfl:=HR1.o rfl;go_wp2_with fail;go_ret;exact⟨rfl,hb⟩
  case pos=>
   obtain rfl:q=0:=by omega
   go_wp2_with fail;refine(HN.o wr).mono ?_;rintro e w2 ⟨rfl,aH⟩;have aF:=hb.trans (aH.mono hb.size);cases v with
   |false=>
    obtain rfl:=C9.o rfl;go_wp2_with fail;go_ret;exact⟨rfl,aF⟩
   |true=>
    go_wp2_with fail;go_roundw
    case rel=>exact⟨1,rfl,by omega,by omega,aF,by first|trivial|exact λ_=>rfl⟩
    case measure=>simp only[intOf];omega
theorem Zi (s:ByteArray) (g:Nat) (w:World) (hc:w.cell? ⟨g,0,none⟩=some (.string s)) (hg:g<w.heap.size) (hs:s.size<=140737488355328):Calls Tryz.prog 226 #[.slice (some ⟨g,0,none⟩) 1 1,.func (.func 227) #[] #[]] w (ap w (.bool (!cQ s))):=by
 have h:=Zz s g w hc hg hs;obtain⟨v,hv⟩:=x_ (cQ s);rw[hv]at h |-;obtain⟨R,hR⟩:∃z:Int,(if v=true then -1 else 0)=z:=⟨_,rfl⟩;rw[hR]at h;have HI:=H_ h;have HR1:=H_ (λ(h:v=true)=>show R= -1 by rw[<-hR,if_pos h]);have C9:=H_ (λ(h:v=false)=>show R=0 by rw[<-hR,h];decide);clear h hv hc hg hs hR;go_enter Tryz.func226,Tryz.ntmps226;go_wp2_with fail;refine HI.o.mono ?_;rintro e w2 ⟨rfl,aH⟩;cases v with
 |false=>
  obtain rfl:=C9.o rfl;go_wp2_with fail;go_ret;exact⟨rfl,aH⟩
 |true=>
  obtain rfl:=HR1.o rfl;go_wp2_with fail;go_ret;exact⟨rfl,aH⟩
theorem aL.cellsA {w:World} {Q:Nat->Prop} {cs:List Value} {g:au} (h:aL w Q cs g):cs.toArray[0]? =some (.string g.currency)/\cs.toArray[1]? =some (.int .i64 g.calendar.year)/\cs.toArray[2]? =some (.int .i64 g.calendar.month)/\cs.toArray[3]? =some (.int .i64 g.calendar.periods)/\cs.toArray[11]? =some (.int .i64 g.roles.retained):=by
 obtain⟨Ac,cc,Ae,ce,e,_⟩:=h.lit;subst e;exact⟨rfl,rfl,rfl,rfl,rfl⟩
theorem Pz (gl:List Value) (grp cur:ByteArray) (rs:List aC) (A:Option Addr) (cc:Nat) (d:Int) (g:Nat) (w:World) (fZ:gl.toArray.size=21) (nj:gl.toArray[0]? =some (.string grp)) (hl:aj bN 4 w (·<w.heap.size) [.slice A rs.length cc] rs) (bP:∀r∈rs,r.currency.size<=140737488355328) (kC:grp.size<=140737488355328) (hm:rs.length<=100000)
 (hv:dJ grp rs) (eh:cQ cur=true) (hd:inD d) (hc:w.cell? ⟨g,0,none⟩=some (.string cur)) (RI:g<w.heap.size) (hs:cur.size<=140737488355328):Calls Tryz.prog 208 #[.agg gl.toArray,.slice A rs.length cc,d,.slice (some ⟨g,0,none⟩) 1 1] w (ap w (.int .i64 0)):=by
 have yO:=H_ fZ;have lF:=H_ nj;have HV:=H_ (λ(w2:World) (hb:Below w.heap.size w w2)=>show Calls Tryz.prog 79 #[grp,.slice A rs.length cc] w2 (ap w2 (.bool true)) by
  have h:=sK grp rs A cc w2 ((hl.fr (λh=>bN.fr h (Fr.ofBelow hb)) (Fr.ofBelow hb)).mono (λh=>bN.mono h (λq hq=>Nat.lt_of_lt_of_le hq hb.size)) (λq hq=>Nat.lt_of_lt_of_le hq hb.size)) bP kC hm
  rwa[decide_eq_true hv]at h)
 have HA:=H_ (λ(w2:World) (hb:Below w.heap.size w w2)=>show Calls Tryz.prog 226 #[.slice (some ⟨g,0,none⟩) 1 1,.func (.func 227) #[] #[]] w2 (ap w2 (.bool false)) by
  have h:=Zi cur g w2 ((hb.cell (p:=⟨g,0,none⟩) RI).trans hc) (Nat.lt_of_lt_of_le RI hb.size) hs
  rwa[eh]at h)
 have HD:=H_ (λ(w2:World)=>show Calls Tryz.prog 125 #[d] w2 (ap w2 (.bool true)) by
  have h:=nS d w2
  rwa[show decide (inD d)=true from decide_eq_true hd]at h)
 clear fZ nj hl bP kC hm hv eh hd hc RI hs;obtain⟨n,hn⟩:=x_ (rs.length);rw[hn]at HV |-;clear hn;go_enter Tryz.func208,Tryz.ntmps208;go_upto_region 1 with fail;obtain⟨W1,cS,H1,bC,dr,ewx⟩:=B_ w (.cells gl.toArray 29);rw[cS];clear ewx;clear cS;have c0:=(ab H1 0).trans lF.o;clear H1;go_wp2_with fail;refine(HV.o W1 bC).mono ?_;rintro e w2 ⟨rfl,aH⟩;have aF:=bC.trans (aH.mono bC.size);clear c0;go_wp2_with fail;refine(HA.o w2 aF).mono ?_;rintro e w3 ⟨rfl,aZ⟩;have aR:=aF.trans (aZ.mono aF.size);go_wp2_with fail;refine(HD.o w3).mono ?_;rintro e w4 ⟨rfl,bU⟩;have bD:=aR.trans (bU.mono aR.size);go_wp2_with fail;go_ret;exact⟨rfl,bD⟩
end
section
open Go Go.RowKit Go.Shelf
attribute [local go_sem] Oper.semAt_some
def spW (rs:List aC) (c:ByteArray) (a b:Int):List aC:=rs.filter (λr=>decide (inW c a b r))
theorem Qe {rs:List aC} {k:Nat} (hk:k<rs.length) (c:ByteArray) (a b:Int):spW (rs.take (k+1)) c a b=if inW c a b rs[k]then spW (rs.take k) c a b++[rs[k]]else spW (rs.take k) c a b:=by
 rw[List.take_add_one,List.getElem?_eq_getElem hk];unfold spW;rw[List.filter_append];split
 ·rename_i h;rw[show(some rs[k]).toList=[rs[k]]from rfl,List.filter_cons_of_pos (by simpa using h)];rfl
 ·rename_i h;rw[show(some rs[k]).toList=[rs[k]]from rfl,List.filter_cons_of_neg (by simpa using h)];simp
theorem Qf (rs:List aC) (k:Nat) (c:ByteArray) (a b:Int):(spW (rs.take k) c a b).length<=(spW rs c a b).length:=by
 have h:spW (rs.take k++rs.drop k) c a b=spW (rs.take k) c a b++spW (rs.drop k) c a b:=by simp only[spW,List.filter_append]
 rw[List.take_append_drop]at h;rw[h,List.length_append];omega
def oa (x:aC):Value:=.agg #[x.currency,x.kind,x.when_,x.value]
theorem aex (q1 q2 q3 q4:Bool):q1=false\/(q1=true/\q2=false)\/(q1=true/\q2=true/\q3=false)\/(q1=true/\q2=true/\q3=true/\q4=false)\/(q1=true/\q2=true/\q3=true/\q4=true):=by
 cases q1<;>cases q2<;>cases q3<;>cases q4<;>simp
theorem oU {F:Fence} {n:Nat} {P:Program} {ops:Array Oper} {rest:List Oper} {o:Oper} {a:Act} {w:World} {Q:Exit->Act->World->Prop} (qE:Region.wanted o (yielded ops a.tmps)=true) (ty:TypeId) (x:Operand) (ho:o.op=.load ty x)
 (g:Nat) (hx:a.eval x=.pointer (some ⟨g,0,none⟩)) (t:TypeId) (cs:Array Value) (fr:Nat × Nat) (d:TypeDesc) (hg:w.heap[g]? =some (.cells cs t fr))
 (hu:P.underlying ty=some d) (hd:(match d with| .struct _| .array _ _=>true|_=>false)=true) (hi:(P.info? ty).map (·.size)=some cs.size)
 (h:wpListIn F n P ops Q rest (a.put o.dst (.agg cs)) w):wpListIn F n P ops Q (o::rest) a w:=by
 refine wpListIn_step λK hK=>?_
 rw[if_pos qE];unfold Oper.wpIn;refine⟨by simp[Oper.about,ho],?_⟩;rw[Oper.semAt_plain F _ _ (by rw[ho];intro c hc';cases hc')];have eC:=run_loadVar_row w g t ty cs fr d hg hu hd hi;unfold execOp;simp only[ho,hx,Instr.loadAt,Instr.sureAddr,Sem.run_bind,Sem.run_pure,Result.andThen_ok];rw[eC];simp only[Result.andThen_ok];exact hK _ _ h
theorem JH (A:Option Addr) (n c:Nat) (cur:ByteArray) (a b:Int) (w:World):Calls Tryz.prog 206 #[.slice A n c,cur,a,b] w (λe w'=>e=.returned (.func (.func 225) #[] #[.pointer (some ⟨w.heap.size,0,none⟩),.pointer (some ⟨w.heap.size+1,0,none⟩),.pointer (some ⟨w.heap.size+2,0,none⟩),.pointer (some ⟨w.heap.size+3,0,none⟩)])/\w'=(((w.alloc (.cells #[.slice A n c] 31)).alloc (.cells #[cur] 9)).alloc (.cells #[a] 3)).alloc (.cells #[b] 3)):=by
 go_enter Tryz.func206,Tryz.ntmps206;go_wp2_with fail;go_ret;exact⟨rfl,rfl⟩
set_option maxRecDepth 100000 in
theorem Mj (F:Fence) (m:Nat) (hF:F.fn 225) (mD:F.round=none) (hn:1<=m) (l B1 B2 B3 B4:Nat) (Q:Nat->Prop) (rs:List aC) (A:Option Addr) (c:Nat) (cur:ByteArray) (ta tb:Int) (N0:Nat) (J Jx:List aC->World->Prop)
 (hY:∀pre x W,J pre W->pre.length<N0->YieldAt F (m- 1) Tryz.prog l #[oa x] W λe W'=>(e=.returned (.bool true)/\J (pre++[x]) W'/\Fr Q W W')\/(e=.returned (.bool false)/\Jx (pre++[x]) W'))
 (W:World) (hJ:AbidesFrom W.heap.size J) (hQ:∀q,Q q->q<W.heap.size) (yI:Q B1/\W.heap[B1]? =some (.cells #[.slice A rs.length c] 31 (0,0))) (yH:Q B2/\W.heap[B2]? =some (.cells #[cur] 9 (0,0))) (MS:Q B3/\W.heap[B3]? =some (.cells #[ta] 3 (0,0))) (MI:Q B4/\W.heap[B4]? =some (.cells #[tb] 3 (0,0)))
 (hl:aj bN 4 W Q [.slice A rs.length c] rs) (hN0:(spW rs cur ta tb).length<=N0) (h0:J [] W):
 CallsIn F m Tryz.prog 225 #[.func (.yield l) #[] #[],.pointer (some ⟨B1,0,none⟩),.pointer (some ⟨B2,0,none⟩),.pointer (some ⟨B3,0,none⟩),.pointer (some ⟨B4,0,none⟩)] W λe W'=>(∃v,e=.returned v)/\(J (spW rs cur ta tb) W'\/∃pre,Jx pre W'):=by
 have h1:1<=m:=hn;have gr:=hl.cap;unfold maxLen at gr;obtain⟨N,hN⟩:=x_ (rs.length);have HN:=H_ hN;have HL:=H_ hl;rw[hN]at yI gr;have bC:=H_ yI;have dz:=H_ yH;have eA:=H_ MS;have gw:=H_ MI;have HJA:=H_ hJ;have HQ:=H_ hQ;have Se:=H_ hN0;have c1:=ab yI.2 0;clear hl yI yH MS MI hN hJ hN0 hQ;refine callsIn_of_wp Tryz.func225 rfl hF ?_ mD;simp only[Tryz.ntmps225,List.size_toArray,List.length_cons,List.length_nil,Nat.reduceAdd,Nat.reduceSub,Array.replicate_succ,Array.replicate_zero,List.push_toArray,List.append_toArray,List.nil_append,List.cons_append]
 gi_wp2_with fail
 gi_loopw [10] (λi wr=>∃k:Nat,k<=N/\i=.int .i64 (k:Int)/\J (spW (rs.take k) cur ta tb) wr/\Fr Q W wr) (λi _=>N- (intOf i).toNat)
 case atStart=>exact⟨0,by omega,rfl,h0,Fr.refl _ _⟩
 case round=>
  obtain⟨k,hk,rfl,hJs,hkp⟩:=hrel;generalize wr=w3 at*;have HKP:=H_ hkp;have HJS:=H_ hJs;clear hkp hJs;by_cases aU:k<N
  case pos=>
   have bq:(k:Int)< (N:Int):=by omega
   have bI:k<rs.length:=by rw[HN.o];exact aU
   obtain⟨rb,ro,es,dj,ed,bL,aS⟩:=aj.get HL.o k bI;subst dj;obtain⟨bE,_⟩:=io bL;rw[bE]at aS;have oZ:=H_ (Qe bI cur ta tb);have Bp:=H_ (λ(h:inW cur ta tb rs[k])=>show(spW (rs.take k) cur ta tb).length<N0 by
    have h1:=oZ.o;rw[if_pos h]at h1;have h2:=congrArg List.length h1;rw[List.length_append,List.length_singleton]at h2;have:=Qf rs (k+1) cur ta tb;have:=Se.o;omega)
   obtain⟨x,hx⟩:=x_ (rs[k]);rw[hx]at aS oZ Bp;obtain⟨rc,rk,rt,rv⟩:=x;have eZ:=H_ (show w3.rangeAt rb (ro+k*4) [rc,rk,rt,rv]from(aS.fr HKP.o).range);have zX:=H_ (λ(w4:World) (hg:w3.grownBy w4 none)=>show Fr Q W w4 from HKP.o.grown hg HQ.o (λq e=>by cases e));have HJ4:=H_ (λ(w4:World) (hg:w3.grownBy w4 none)=>HJA.o _ w3 w4 none HJS.o hg (λr e=>by cases e));have HYW:=H_ (λ(w6:World) (hg:w3.grownBy w6 none) (eX:(spW (rs.take k) cur ta tb).length<N0)=>show YieldAt F (m- 1) Tryz.prog l #[.agg #[rc,rk,rt,rv]] w6 (λe W'=>(e=.returned (.bool true)/\J (spW (rs.take k) cur ta tb++[⟨rc,rk,rt,rv⟩]) W'/\Fr Q w6 W')\/(e=.returned (.bool false)/\Jx (spW (rs.take k) cur ta tb++[⟨rc,rk,rt,rv⟩]) W'))from hY _ ⟨rc,rk,rt,rv⟩ w6 (HJ4.o w6 hg) eX);obtain⟨q1,mF⟩:∃q:Bool,decide (rc=cur)=q:=⟨_,rfl⟩;have ac4:(rc.toList==cur.toList)=q1:=by rw[gI];exact mF
   obtain⟨q2,lc⟩:∃q:Bool,decide (rk=1)=q:=⟨_,rfl⟩;have ac9:(rk==1)=q2:=by rw[<-lc];rfl
   obtain⟨q3,abH⟩:∃q:Bool,decide (rt≥ta)=q:=⟨_,rfl⟩;obtain⟨q4,adY⟩:∃q:Bool,decide (rt<=tb)=q:=⟨_,rfl⟩;have lL:=H_ (show inW cur ta tb ⟨rc,rk,rt,rv⟩↔(q1=true/\q2=true/\q3=true/\q4=true) by
    rw[<-mF,<-lc,<-abH,<-adY];simp only[decide_eq_true_eq];exact Iff.rfl)
   have TN:0<N:=by omega
   clear aS bL bE hx ed mF lc;have abF:=aex q1 q2 q3 q4;rcases abF with rfl|⟨rfl,rfl⟩|⟨rfl,rfl,rfl⟩|⟨rfl,rfl,rfl,rfl⟩|⟨rfl,rfl,rfl,rfl⟩
   ·have J5:=H_ (show spW (rs.take (k+1)) cur ta tb=spW (rs.take k) cur ta tb by rw[oZ.o,if_neg (λh=>by have:=lL.o.1 h;simp at this)])
    gi_wp2_with (first|(show wpListIn _ _ _ _ _ (Oper.mk (some 13) _ _ _ _ _::_) _ _;refine ez rfl 70 (.tmp 12) rfl rb (ro+k*4) rfl [.string rc,.int .i64 rk,.int .i64 rt,.int .i64 rv] _ eZ.o Tryz.underlying70 rfl aT ?_)|(show wpListIn _ _ _ _ _ (Oper.mk none (Op.store _ (Operand.tmp 7) _) _ _ _ _::_) _ _;refine cX rfl 70 (.tmp 7) (.tmp 13) rfl rfl w3 #[.string ⟨#[]⟩,(),(),()] 70 #[rc,rk,rt,rv] rfl rfl rfl aT rfl (by simp[Value.oneCell']) ?_;intro w4 H4 iX Bo;have f0:=ab H4 0;have f1:=ab H4 1;have f2:=ab H4 2;have e2:=ab (((zX.o w4 iX).block _ dz.o.1).trans dz.o.2) 0;have e3:=ab (((zX.o w4 iX).block _ eA.o.1).trans eA.o.2) 0;have e4:=ab (((zX.o w4 iX).block _ gw.o.1).trans gw.o.2) 0)|(with_reducible refine And.intro (λf hf=>by cases hf) ?_))
    go_roundw
    case rel=>exact⟨k+1,by omega,by go_num,by rw[J5.o];exact HJ4.o _ iX,zX.o _ iX⟩
    case measure=>first|exact aQ aU|(simp only[intOf];omega)
   ·have J5:=H_ (show spW (rs.take (k+1)) cur ta tb=spW (rs.take k) cur ta tb by rw[oZ.o,if_neg (λh=>by have:=lL.o.1 h;simp at this)])
    gi_wp2_with (first|(show wpListIn _ _ _ _ _ (Oper.mk (some 13) _ _ _ _ _::_) _ _;refine ez rfl 70 (.tmp 12) rfl rb (ro+k*4) rfl [.string rc,.int .i64 rk,.int .i64 rt,.int .i64 rv] _ eZ.o Tryz.underlying70 rfl aT ?_)|(show wpListIn _ _ _ _ _ (Oper.mk none (Op.store _ (Operand.tmp 7) _) _ _ _ _::_) _ _;refine cX rfl 70 (.tmp 7) (.tmp 13) rfl rfl w3 #[.string ⟨#[]⟩,(),(),()] 70 #[rc,rk,rt,rv] rfl rfl rfl aT rfl (by simp[Value.oneCell']) ?_;intro w4 H4 iX Bo;have f0:=ab H4 0;have f1:=ab H4 1;have f2:=ab H4 2;have e2:=ab (((zX.o w4 iX).block _ dz.o.1).trans dz.o.2) 0;have e3:=ab (((zX.o w4 iX).block _ eA.o.1).trans eA.o.2) 0;have e4:=ab (((zX.o w4 iX).block _ gw.o.1).trans gw.o.2) 0)|(with_reducible refine And.intro (λf hf=>by cases hf) ?_))
    go_roundw
    case rel=>exact⟨k+1,by omega,by go_num,by rw[J5.o];exact HJ4.o _ iX,zX.o _ iX⟩
    case measure=>first|exact aQ aU|(simp only[intOf];omega)
   ·have J5:=H_ (show spW (rs.take (k+1)) cur ta tb=spW (rs.take k) cur ta tb by rw[oZ.o,if_neg (λh=>by have:=lL.o.1 h;simp at this)])
    gi_wp2_with (first|(show wpListIn _ _ _ _ _ (Oper.mk (some 13) _ _ _ _ _::_) _ _;refine ez rfl 70 (.tmp 12) rfl rb (ro+k*4) rfl [.string rc,.int .i64 rk,.int .i64 rt,.int .i64 rv] _ eZ.o Tryz.underlying70 rfl aT ?_)|(show wpListIn _ _ _ _ _ (Oper.mk none (Op.store _ (Operand.tmp 7) _) _ _ _ _::_) _ _;refine cX rfl 70 (.tmp 7) (.tmp 13) rfl rfl w3 #[.string ⟨#[]⟩,(),(),()] 70 #[rc,rk,rt,rv] rfl rfl rfl aT rfl (by simp[Value.oneCell']) ?_;intro w4 H4 iX Bo;have f0:=ab H4 0;have f1:=ab H4 1;have f2:=ab H4 2;have e2:=ab (((zX.o w4 iX).block _ dz.o.1).trans dz.o.2) 0;have e3:=ab (((zX.o w4 iX).block _ eA.o.1).trans eA.o.2) 0;have e4:=ab (((zX.o w4 iX).block _ gw.o.1).trans gw.o.2) 0)|(with_reducible refine And.intro (λf hf=>by cases hf) ?_))
    go_roundw
    case rel=>exact⟨k+1,by omega,by go_num,by rw[J5.o];exact HJ4.o _ iX,zX.o _ iX⟩
    case measure=>first|exact aQ aU|(simp only[intOf];omega)
   ·have J5:=H_ (show spW (rs.take (k+1)) cur ta tb=spW (rs.take k) cur ta tb by rw[oZ.o,if_neg (λh=>by have:=lL.o.1 h;simp at this)])
    gi_wp2_with (first|(show wpListIn _ _ _ _ _ (Oper.mk (some 13) _ _ _ _ _::_) _ _;refine ez rfl 70 (.tmp 12) rfl rb (ro+k*4) rfl [.string rc,.int .i64 rk,.int .i64 rt,.int .i64 rv] _ eZ.o Tryz.underlying70 rfl aT ?_)|(show wpListIn _ _ _ _ _ (Oper.mk none (Op.store _ (Operand.tmp 7) _) _ _ _ _::_) _ _;refine cX rfl 70 (.tmp 7) (.tmp 13) rfl rfl w3 #[.string ⟨#[]⟩,(),(),()] 70 #[rc,rk,rt,rv] rfl rfl rfl aT rfl (by simp[Value.oneCell']) ?_;intro w4 H4 iX Bo;have f0:=ab H4 0;have f1:=ab H4 1;have f2:=ab H4 2;have e2:=ab (((zX.o w4 iX).block _ dz.o.1).trans dz.o.2) 0;have e3:=ab (((zX.o w4 iX).block _ eA.o.1).trans eA.o.2) 0;have e4:=ab (((zX.o w4 iX).block _ gw.o.1).trans gw.o.2) 0)|(with_reducible refine And.intro (λf hf=>by cases hf) ?_))
    go_roundw
    case rel=>exact⟨k+1,by omega,by go_num,by rw[J5.o];exact HJ4.o _ iX,zX.o _ iX⟩
    case measure=>first|exact aQ aU|(simp only[intOf];omega)
   ·have J5:=H_ (show spW (rs.take (k+1)) cur ta tb=spW (rs.take k) cur ta tb++[⟨rc,rk,rt,rv⟩] by rw[oZ.o,if_pos (lL.o.2 ⟨rfl,rfl,rfl,rfl⟩)]);have adm:=H_ (Bp.o (lL.o.2 ⟨rfl,rfl,rfl,rfl⟩));clear lL Bp oZ
    gi_wp2_with (first|(show wpListIn _ _ _ _ _ (Oper.mk (some 13) _ _ _ _ _::_) _ _;refine ez rfl 70 (.tmp 12) rfl rb (ro+k*4) rfl [.string rc,.int .i64 rk,.int .i64 rt,.int .i64 rv] _ eZ.o Tryz.underlying70 rfl aT ?_)|(show wpListIn _ _ _ _ _ (Oper.mk none (Op.store _ (Operand.tmp 7) _) _ _ _ _::_) _ _;refine cX rfl 70 (.tmp 7) (.tmp 13) rfl rfl w3 #[.string ⟨#[]⟩,(),(),()] 70 #[rc,rk,rt,rv] rfl rfl rfl aT rfl (by simp[Value.oneCell']) ?_;intro w4 H4 iX Bo;have f0:=ab H4 0;have f1:=ab H4 1;have f2:=ab H4 2;have e2:=ab (((zX.o w4 iX).block _ dz.o.1).trans dz.o.2) 0;have e3:=ab (((zX.o w4 iX).block _ eA.o.1).trans eA.o.2) 0;have e4:=ab (((zX.o w4 iX).block _ gw.o.1).trans gw.o.2) 0;obtain⟨fn,tmps,assign,body,hyr,hR⟩:=HYW.o w4 iX adm.o)|(show wpListIn _ _ _ _ _ (Oper.mk (some 37) _ _ _ _ _::_) _ _;refine oU rfl 70 (.tmp 7) rfl w3.heap.size rfl _ _ _ _ H4 Tryz.underlying70 rfl aT ?_))
    refine hR.mono ?_;rintro e w7 (⟨rfl,hJ7,hk7⟩|⟨rfl,hJ7⟩)
    rotate_left
    ·have HJ7:=H_ hJ7;clear hJ7 hR hyr f0 f1 f2 e2 e3 e4 H4 iX Bo
     gi_wp2_with fail
     refine bodyPost_ret (results_none rfl _ _ _) rfl ?_;exact⟨⟨_,rfl⟩,.inr ⟨_,HJ7.o⟩⟩
    ·have HJ7:=H_ hJ7;have Mo:=H_ hk7;have adD:=H_ iX;clear hJ7 hk7 hR hyr f0 f1 f2 e2 e3 e4 H4 iX Bo
     gi_wp2_with fail
     go_roundw
     case rel=>exact⟨k+1,by omega,by go_num,by rw[J5.o];exact HJ7.o,(zX.o _ adD.o).trans Mo.o⟩
     case measure=>first|exact aQ aU|(simp only[intOf];omega)
  case neg=>
   have bq:¬(k:Int)< (N:Int):=by omega
   have HJ9:=H_ (show J (spW rs cur ta tb) w3 by
    have:=HJS.o
    rwa[List.take_of_length_le (by have:=HN.o;omega)]at this)
   gi_wp2_with fail
   go_end0
   exact⟨⟨_,rfl⟩,.inl HJ9.o⟩
theorem tp (F:Fence) (m:Nat) (hF:F.fn 225) (mD:F.round=none) (hn:1<=m) (B1 B2 B3 B4:Nat) (Q:Nat->Prop) (rs:List aC) (A:Option Addr) (c:Nat) (cur:ByteArray) (ta tb:Int) (N0:Nat) (w:World)
 (hQ:∀q,Q q->q<w.heap.size) (yI:Q B1/\w.heap[B1]? =some (.cells #[.slice A rs.length c] 31 (0,0))) (yH:Q B2/\w.heap[B2]? =some (.cells #[cur] 9 (0,0))) (MS:Q B3/\w.heap[B3]? =some (.cells #[ta] 3 (0,0))) (MI:Q B4/\w.heap[B4]? =some (.cells #[tb] 3 (0,0)))
 (hl:aj bN 4 w Q [.slice A rs.length c] rs) (hN0:(spW rs cur ta tb).length<=N0):
 SeqStopsK F m Tryz.prog 225 #[.pointer (some ⟨B1,0,none⟩),.pointer (some ⟨B2,0,none⟩),.pointer (some ⟨B3,0,none⟩),.pointer (some ⟨B4,0,none⟩)] (λx=>#[oa x]) (Fr Q) (λys=>ys=spW rs cur ta tb) (λ_=>True) N0 w:=λl J Jx W hW hJ hJx hY h0=>by
 have hs:=hW.size;have Z6:Fr Q w W:=(Fr.ofBelow hW).mono (λq hq=>hQ q hq);refine(Mj F m hF mD hn l B1 B2 B3 B4 Q rs A c cur ta tb N0 J Jx (λpre x W1 h1 h2=>hY pre x W1 h1 h2) W hJ (λq h=>by have:=hQ q h;omega) ⟨yI.1,(Z6.block _ yI.1).trans yI.2⟩ ⟨yH.1,(Z6.block _ yH.1).trans yH.2⟩ ⟨MS.1,(Z6.block _ MS.1).trans MS.2⟩ ⟨MI.1,(Z6.block _ MI.1).trans MI.2⟩
  (hl.fr (λh=>bN.fr h Z6) Z6) hN0 h0).mono ?_
 rintro e W' ⟨hv,h|⟨pre,h⟩⟩
 ·exact⟨hv,.inl ⟨_,rfl,h⟩⟩
 ·exact⟨hv,.inr ⟨pre,trivial,h⟩⟩
end
section
open Go Go.RowKit
def ab9:Option aC->List Value
 |none=>[.string ⟨#[]⟩,.int .i64 0,.int .i64 0,.int .i64 0,.bool false]
 |some r=>[.string r.currency,.int .i64 r.kind,.int .i64 r.when_,.int .i64 r.value,.bool true]
def vG (L:Nat) (o:Option aC) (w:World):Prop:=w.heap[L]? =some (.cells (ab9 o).toArray 245 (0,0))
theorem acj (L:Nat) (o:Option aC) (rc:ByteArray) (rk rt rv:Int) (w:World) (h:vG L o w):Calls Tryz.prog 209 #[.pointer (some ⟨L,0,none⟩),.agg #[rc,rk,rt,rv]] w (λe w'=>(∃v,e=.returned v)/\vG L (if kJ o ⟨rc,rk,rt,rv⟩=true then some ⟨rc,rk,rt,rv⟩else o) w'/\Fr (λq=>q<w.heap.size/\q≠L) w w'):=by
 have HH:=H_ h;have hLt:L<w.heap.size:=ag h;obtain⟨R,hR⟩:=x_ ((if kJ o ⟨rc,rk,rt,rv⟩=true then some ⟨rc,rk,rt,rv⟩else o));have HR:=H_ hR;rw[hR];clear h hR;go_enter Tryz.func209,Tryz.ntmps209;go_upto_region 1 with fail;obtain⟨W1,cS,H1,bC,dr,ewx⟩:=B_ w (.cells #[rc,rk,rt,rv] 70);rw[cS];clear ewx;clear cS;have kU:=H_ (show Fr (λq=>q<w.heap.size/\q≠L) w W1 from(Fr.ofBelow bC).mono (λq hq=>hq.1));have HR1:=H_ H1;have r2:=ab H1 2;have hLs:L≠w.heap.size:=by omega
 cases o with
 |none=>
  have IE:=H_ (show W1.heap[L]? =some (.cells #[.string ⟨#[]⟩,(),(),(),false] 245 (0,0))from(bC.block _ hLt).trans HH.o);have sU:=H_ (show R=some ⟨rc,rk,rt,rv⟩ by rw[<-HR.o];rfl);have l4:=ab IE.o 4;have l2:=ab IE.o 2;clear H1;go_quiet (fail);go_wp2_with (first|(show wpList _ _ _ (Oper.mk none (Op.store _ (Operand.tmp 23) _) _ _ _ _::_) _ _;go_loud (refine lC rfl 70 (.tmp 23) (.tmp 21) rfl rfl (W1.drewN nq) L 0 [rc,rk,rt,rv] [.string ⟨#[]⟩,.int .i64 0,.int .i64 0,.int .i64 0,.bool false] [.string rc,.int .i64 rk,.int .i64 rt,.int .i64 rv,.bool false] 245 rfl rfl IE.o rfl (by simp) aT (by simp[Value.oneCell']) ?_);intro W3 H3 F3;have k4:=ab H3 4;have z4:=bB H3 4;clear l2 l4 r2)|(refine W_ 21 70 3 (w.heap.size) HR1.o aT Tryz.underlying70 ?_));have IH:=H_ (show Fr (λq=>q<w.heap.size/\q≠L) w (W3.setCell ⟨L,4,none⟩ (.bool true))from((kU.o.drewN nq).trans (F3.mono (λq hq=>hq.2))).setCell (λh=>h.2 rfl) _);have Z5:=H_ (show(W3.setCell ⟨L,4,none⟩ (.bool true)).heap[L]? =some (.cells #[rc,rk,rt,rv,true] 245 (0,0)) by have h:=aG H3 4 (.bool true);simpa using h);clear H3 F3 k4 z4
  go_end0
  exact⟨⟨_,rfl⟩,by rw[sU.o];exact Z5.o,IH.o⟩
 |some s=>
  obtain⟨sc,sk,st,sv⟩:=s;have IE:=H_ (show W1.heap[L]? =some (.cells #[sc,sk,st,sv,true] 245 (0,0))from(bC.block _ hLt).trans HH.o);have l4:=ab IE.o 4;have l2:=ab IE.o 2;by_cases aU:st<rt
  case pos=>
   have sU:=H_ (show R=some ⟨rc,rk,rt,rv⟩ by rw[<-HR.o];unfold kJ;rw[if_pos (decide_eq_true aU)]);have hd:decide (rt>st)=true:=decide_eq_true aU;clear H1 aU;go_quiet (fail);go_wp2_with (first|(show wpList _ _ _ (Oper.mk none (Op.store _ (Operand.tmp 23) _) _ _ _ _::_) _ _;go_loud (refine lC rfl 70 (.tmp 23) (.tmp 21) rfl rfl (W1.drewN nq) L 0 [rc,rk,rt,rv] [.string sc,.int .i64 sk,.int .i64 st,.int .i64 sv,.bool true] [.string rc,.int .i64 rk,.int .i64 rt,.int .i64 rv,.bool true] 245 rfl rfl IE.o rfl (by simp) aT (by simp[Value.oneCell']) ?_);intro W3 H3 F3;have k4:=ab H3 4;have z4:=bB H3 4;clear l2 l4 r2)|(refine W_ 21 70 3 (w.heap.size) HR1.o aT Tryz.underlying70 ?_));have IH:=H_ (show Fr (λq=>q<w.heap.size/\q≠L) w (W3.setCell ⟨L,4,none⟩ (.bool true))from((kU.o.drewN nq).trans (F3.mono (λq hq=>hq.2))).setCell (λh=>h.2 rfl) _);have Z5:=H_ (show(W3.setCell ⟨L,4,none⟩ (.bool true)).heap[L]? =some (.cells #[rc,rk,rt,rv,true] 245 (0,0)) by have h:=aG H3 4 (.bool true);simpa using h);clear H3 F3 k4 z4
   go_end0
   exact⟨⟨_,rfl⟩,by rw[sU.o];exact Z5.o,IH.o⟩
  case neg=>
   have sU:=H_ (show R=some ⟨sc,sk,st,sv⟩ by rw[<-HR.o];unfold kJ;rw[if_neg (by simpa using aU)]);have hd:decide (rt>st)=false:=decide_eq_false (by omega);clear H1 aU;go_quiet (fail);clear l2 l4 r2;go_wp2_with fail
   go_end0
   exact⟨⟨_,rfl⟩,by rw[sU.o];exact IE.o,kU.o.drewN nq⟩
end
end Go.Proofs.YtibiddakakgakaaGreat
