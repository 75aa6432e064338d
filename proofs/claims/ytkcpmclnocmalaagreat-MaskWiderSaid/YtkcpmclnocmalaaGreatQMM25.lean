import Derived.Test.YtkcpmclnocmalaaGreatQMK3
set_option linter.unusedVariables false
namespace Go.Proofs.YtkcpmclnocmalaaGreat
open Go.RowKit Go.Front Go.Num Stab
attribute [local go_sem] XW.cell XW.frozen
theorem ye(x:Rat):x-0=x:=by rw [Rat.sub_eq_add_neg,Rat.neg_zero,Rat.add_zero]
theorem uE{a b:Rat}:cG a b=0↔a=b:=by
 unfold cG;constructor
 ·intro h;split at h
  ·cases h
  ·split at h
   ·assumption
   ·cases h
 ·rintro rfl;rw [if_neg Rat.lt_irrefl,if_pos rfl]
theorem mU{w1:World}{b:Nat}{T:TypeId}{c0 c1 c2 v0 v1 v2:Value}{F:World→Prop}(hb:w1.heap[b]?=some (.cells #[c0,c1,c2] T (0,0)))(hn:#[c0,c1,c2].toList.all dL=true)
 (H:∀ w2 w3,cT w1 b T #[v0,v1,v2] w2→Ext w2 w3→F w3) :
  F (((w1.setCell ⟨b,0,none⟩ v0).setCell ⟨b,1,none⟩ v1).setCell ⟨b,2,none⟩ v2).drew :=
 aN (v0:=v0) (v1:=v1) (v2:=v2) (F:=fun W=>F W.drew) hb hn fun w2 T2=>H w2 _ T2 (Ext.drew _)
def DvP(p q:List Rat)(S U:Nat)(s r:List Rat)(f:Rat):Prop :=
 f≠0∧Wz (1+(p.length+1-q.length)*U) f∧(∀ x ∈ s,Wz (S+(p.length+1-q.length)*(U+1)) x)∧(∀ x ∈ r,Wz (S+(p.length+1-q.length)*(U+1)) x)∧tz r=r∧r.length<q.length∧s.length≤p.length∧∀ n,f*seq p n=cv (seq s) (seq q) n+seq r n
theorem DvI.done{p q:List Rat}{S U j:Nat}{sl r:List Rat}{f:Rat}(h:DvI p q S U j sl r f)(hl:r.length<q.length):DvP p q S U sl r f:=by
 have hj:j≤p.length+1-q.length:=by have:=h.jl;omega
 have h1:j*U≤(p.length+1-q.length)*U:=nXh _ hj;have h2:j*(U+1)≤(p.length+1-q.length)*(U+1):=nXh _ hj;exact ⟨h.fne,h.fw.mono zo,fun x hx=>(h.sw x hx).mono zo,fun x hx=>(h.rz x hx).mono zo,h.tzr,hl,by have:=h.sl;omega,h.eq⟩
theorem DvP.short{p q:List Rat}{S U:Nat}(hp:∀ x ∈ p,Wz S x)(ht:tz p=p)(hl:p.length<q.length):DvP p q S U [] p 1:=by
 refine ⟨dZ,Wz.one.mono zo,fun x hx=>by simp at hx,fun x hx=>(hp x hx).mono zo,ht,hl,Nat.zero_le _,fun n=>?_⟩;have:seq ([]:List Rat)=fun _=>0:=funext fun i=>by unfold seq;simp
 rw [this,nm];grind
abbrev DT(x:SH×SH×RH):Value:=.tuple #[x.1.v,x.2.1.v,x.2.2.v]
theorem DvI.bnd{p q:List Rat}{S U j:Nat}{sl r:List Rat}{f:Rat}(h:DvI p q S U j sl r f):S+j*(U+1)≤S+(p.length+1-q.length)*(U+1)∧1+j*U≤1+S+(p.length+1-q.length)*(U+1):=by
 have hj:j≤p.length+1-q.length:=by have:=h.jl;omega
 have h1:j*U≤(p.length+1-q.length)*U:=nXh _ hj;have h2:j*(U+1)≤(p.length+1-q.length)*(U+1):=nXh _ hj;have h3:(p.length+1-q.length)*U≤(p.length+1-q.length)*(U+1):=nXg _ zo;omega
structure DvL (w wr:World) (p q:List Rat) (S U:Nat) (qo:Option Addr) (m qc Ls Lr b6 b7 b10 c:Nat) (z:RH) (P n j:Nat):Prop where
 ex:∃ (sl ros:List Rat) (f:Rat) (xf:RH),wr.heap[b7]?=some (.cells #[.bool xf.neg,.slice xf.a xf.n xf.c,.slice xf.b xf.m xf.d] 37 (0,0))∧aA wr xf f∧aH wr Ls sl∧aH wr Lr ros∧ros.length=P∧n≤P∧DvI p q S U j sl (ros.take n) f
 hx:Ext w wr
 lq:LIn wr ⟨qo,m+1,qc⟩ q 0 w.heap.size
 B6:wr.heap[b6]?=some (.cells #[.bool false,.slice none 0 0,.slice none 0 0] 37 (0,0))
 B10:wr.heap[b10]?=some (.cells #[.bool z.neg,.slice z.a z.n z.c,.slice z.b z.m z.d] 37 (0,0))
 hz:aA wr z (bL q)
set_option maxRecDepth 8000 in
set_option maxHeartbeats 8000000 in
theorem kE(pa qa:Option Addr)(P pc m qc:Nat)(p q:List Rat)(S U:Nat)(w:World)(hp:bg w ⟨pa,P,pc⟩ p)(hq:bg w ⟨qa,m+1,qc⟩ q)(hpw:∀ x ∈ p,Wz S x)(hqw:∀ x ∈ q,Wz U x)(hS:1≤S)(hU:1≤U)(htp:tz p=p)(htq:tz q=q)(hP:P≤100000)(hQ:m≤100000)(hsz:S+(P-m)*(U+1)≤30000000)(hUz:U≤30000000) :
  ar 173 [.slice pa P pc,.slice qa (m+1:Nat) qc] w DT (fun x w'=>∃ s r f,DvP p q S U s r f∧bg w' x.1 s∧bg w' x.2.1 r∧aA w' x.2.2 f):=by
 have HX:=Hi (Ext.refl w);have LP:=Hi hp.lin;have LQ:=Hi hq.lin;have HPl:Hid (p.length=P):=Hi hp.len;have HQl:Hid (q.length=m+1):=Hi hq.len;have HPW:=Hi hpw;have HQW:=Hi hqw;have HTP:=Hi htp;have H0:Hid (bL q≠0):=Hi (by
  have:=ci (q:=q) (by rw [htq];intro h;have:=HQl.out;rw [h] at this;simp at this)
  rwa [htq] at this)
 have hplc:=hp.le;have hqlc:=hq.le;have hqmx:=hq.max;have hpmx:=hp.max;simp only at hplc hqlc hqmx hpmx;clear hp hq hpw hqw htp htq;unfold ar;go_enter Tryz.func173,Tryz.ntmps173
 go_upto_region 1 with fail
 refine nmA ?_;intro w1 hE B6 hz_w1 hr_w1;refine mV3 hE ?_ HX LP LQ;clear HX LP LQ;intro HX LP LQ;have hs_w1:=hE.size;replace b_B6:=bX3 B6
 go_wp2_with fail
 refine cM (bO 1 _ dZ dZ) fun x2 w2 hE G2=>?_
 refine mV4 hE ?_ B6 HX LP LQ;clear B6 HX LP LQ;intro B6 HX LP LQ;have hs_w2:=hE.size;replace b_B6:=bX3 B6
 go_upto_region 2 with fail
 refine nmA ?_;intro w3 hE B7 hz_w3 hr_w3;refine mV5 hE ?_ G2 B6 HX LP LQ;clear G2 B6 HX LP LQ;intro G2 B6 HX LP LQ;have hs_w3:=hE.size;replace b_B6:=bX3 B6;replace b_B7:=bX3 B7;obtain ⟨b6,hb6⟩:∃ b6,b6=w.heap.size:=⟨_,rfl⟩;obtain ⟨b7,hb7⟩:∃ b7,b7=w2.heap.size:=⟨_,rfl⟩;have hbw6:w.heap.size≤b6:=zo;have hbw7:w.heap.size≤b7:=zo;have hb67:b6≠b7:=zo;rw [←hb6] at B6 ⊢;rw [←hb7] at B7 ⊢;clear hb6 hb7 b_B6 b_B7;replace b_B6:=bX3 B6;replace b_B7:=bX3 B7;have hb6s:b6<w3.heap.size:=b_B6.2.2;have hb7s:b7<w3.heap.size:=b_B7.2.2;by_cases hlt:P<m+1
 case pos =>
  have hlt2:(P:Int)<((m+1:Nat):Int):=zo
  go_upto_region 3 with fail
  go_region
  refine mU B6.out rfl ?_;intro y4 y5 T E5;replace HX:=Hi (T.ext HX.out zo);replace LP:=Hi (LP.out.put T zo);replace LQ:=Hi (LQ.out.put T zo);replace B6:=Hi (T.bx);replace G2:=Hi (G2.out.keep T.keep);replace B7:=Hi (T.rest _ _ zo B7.out);have hs_y4:=nle T.size;have hr_y4:=nle T.size.symm;clear T;replace b_B6:=bX3 B6;replace b_B7:=bX3 B7;replace HX:=Hi (HX.out.trans E5);refine mV2 E5 ?_ LP LQ;clear LP LQ;intro LP LQ;replace B6:=Hi (E5.block B6.out);replace G2:=Hi (G2.out.ext E5);replace B7:=Hi (E5.block B7.out);have hs_y5:=E5.size;clear E5;replace b_B6:=bX3 B6;replace b_B7:=bX3 B7;go_wp2;exact nXa (v:=DT (⟨none,0,0⟩,⟨pa,P,pc⟩,x2)) (by simp [results,Tryz.results173,go_sem,DT,b_B6.1]) rfl
   ⟨(⟨none,0,0⟩,⟨pa,P,pc⟩,x2),rfl,HX.out,[],p,1,DvP.short HPW.out HTP.out (by rw [HPl.out,HQl.out];exact hlt),(ct.nil 0 _).can,LP.out.can,G2.out⟩
 have hlt2:¬ (P:Int)<((m+1:Nat):Int):=zo;obtain ⟨M,hM⟩:∃ M,P=M+m:=⟨P-m,zo⟩;subst hM;rw [show M+m-m=M by omega] at hsz;have hMi:(M:Int)+m-(m+1)+1=(M:Nat):=zo
 go_wp2_with fail
 refine cM (tC M _ zo) fun x4 w4 hE G4=>?_
 refine mV6 hE ?_ HX LP LQ B6 G2 B7;clear HX LP LQ B6 G2 B7;intro HX LP LQ B6 G2 B7;have hs_w4:=hE.size;replace b_B6:=bX3 B6;replace b_B7:=bX3 B7;obtain ⟨Ls,hLs,hx4,hS4⟩:=G4.out;subst hx4;have HS:=Hi hS4;have hLsw:Ls<w4.heap.size:=hS4.lt;have hls3:w3.heap.size≤Ls:=hLs;clear hS4 G4;clear hMi
 go_wp2_with fail
 refine cM (l8 pa (M+m) pc p _ LP.out.can zo zo) fun x5 w5 hE G5=>?_
 refine mV7 hE ?_ HX LP LQ B6 G2 B7 HS;clear HX LP LQ B6 G2 B7 HS;intro HX LP LQ B6 G2 B7 HS;have hs_w5:=hE.size;replace b_B6:=bX3 B6;replace b_B7:=bX3 B7;obtain ⟨Lr,c,hLr,hc1,hc2,hx5,hR5⟩:=G5.out;subst hx5;have HR:=Hi hR5;have hLrw:w4.heap.size≤Lr:=hLr;have hLr5:Lr<w5.heap.size:=hR5.lt;clear hR5 G5;obtain ⟨b,off,r,hao,hbl,⟨hc1',hc2',hc3'⟩,hPc⟩:=LQ.out.celx (k:=m) zo;obtain ⟨rneg,ra,rn,rc,rb,rm,rd⟩:=r;simp only at hc1' hc2' hc3';have HC:Hid (aA w5 ⟨rneg,ra,rn,rc,rb,rm,rd⟩ (bL q)):=Hi (by unfold bL;rw [HQl.out];exact hPc);clear hPc;subst hao;go_wp2;refine nmA ?_;intro w6 hE B10 hz_w6 hr_w6;refine mV8 hE ?_ HX LP LQ B6 G2 B7 HS HR;clear HX LP LQ B6 G2 B7 HS HR;intro HX LP LQ B6 G2 B7 HS HR;replace HC:=mV hE HC;have hs_w6:=hE.size;replace b_B6:=bX3 B6;replace b_B7:=bX3 B7;replace b_B10:=bX3 B10;obtain ⟨b10,hb10⟩:∃ b10,b10=w5.heap.size:=⟨_,rfl⟩;have hbw10:w.heap.size≤b10:=zo;have hb610:b6≠b10:=zo;have hb710:b7≠b10:=zo;have hLsb:Ls≠b6∧Ls≠b7∧Ls≠b10:=zo;have hLrb:Lr≠b6∧Lr≠b7∧Lr≠b10∧Lr≠Ls:=zo;have hLsw2:w.heap.size≤Ls:=zo;have hLrw2:w.heap.size≤Lr:=zo;rw [←hb10] at B10 ⊢;clear hb10 b_B6 b_B7 b_B10 hc1' hc2' hc3' hbl;have HM1:M≠0:=zo;have hcmx:c≤9223372036854775807:=hc2;clear hLr5 hb6s hb7s hLsw hls3 hLrw hs_w1 hs_w2 hs_w3 hs_w4 hs_w5 hs_w6 hz_w1 hr_w1 hz_w3 hr_w3 hz_w6 hr_w6
 go_loopg [9] (M+m) (fun g v wr=>∃ (n j:Nat),j+g=M+m∧v=.slice (some ⟨Lr,0,none⟩) n c∧DvL w wr p q S U (some ⟨b,off,none⟩) m qc Ls Lr b6 b7 b10 c ⟨rneg,ra,rn,rc,rb,rm,rd⟩ (M+m) n j)
 case atStart =>
  refine ⟨M+m,0,zo,by simp,⟨_,p,1,x2,B7.out,G2.out,HS.out,HR.out,HPl.out,nXe _,?_⟩,HX.out,LQ.out,B6.out,B10.out,HC.out⟩;have h1:=DvI.start (S:=S) (U:=U) (p:=p) (q:=q) HPW.out HTP.out (by rw [HPl.out,HQl.out];omega);rw [nXm (by rw [HPl.out];exact nXe _)];rw [HPl.out,HQl.out,show M+m-(m+1)+1=M by omega] at h1;exact h1
 case round =>
  obtain ⟨n,j,hjg,rfl,⟨sl,ros,f,xf,g7,gf,gs,gr,hrl,hnP,hI⟩,gx,gq,g6,g10,gz⟩:=hrel;obtain ⟨g0,hg0⟩:∃ g0,g0=gk:=⟨_,rfl⟩;have hjn:n+j≤M+m:=by have:=hI.rl;rw [HPl.out,nXk,hrl] at this;omega
  clear HX LQ B6 B7 B10 HC HS HR G2 LP;have HX:=Hi gx;have LQ:=Hi gq;have B6:=Hi g6;have B7:=Hi g7;have B10:=Hi g10;have HC:=Hi gz;have HF:=Hi gf;have HS:=Hi gs;have HR:=Hi gr;have HI:=Hi hI;have HRL:=Hi hrl;clear gx gq g6 g7 g10 gz gf gs gr hI hrl;have HSL:Hid (sl.length=M):=Hi (by have:=HI.out.sl;rw [HPl.out,HQl.out] at this;omega);obtain ⟨fn,fa,fl,fc,fb,fm,fd⟩:=xf;replace b_B6:=bX3 B6;replace b_B7:=bX3 B7;replace b_B10:=bX3 B10;by_cases hn:n<m+1
  case pos =>
   have hn2:¬ ((m:Int)+1≤n):=zo
   go_upto_region 21 with fail
   go_region
   refine mU B6.out rfl ?_;intro y4 y5 T E5;replace HX:=Hi (T.ext HX.out zo);replace LQ:=Hi (LQ.out.put T zo);replace B6:=Hi (T.bx);replace B7:=Hi (T.rest _ _ zo B7.out);replace B10:=Hi (T.rest _ _ zo B10.out);replace HC:=Hi (HC.out.keep T.keep);replace HF:=Hi (HF.out.keep T.keep);replace HS:=Hi (HS.out.put T zo);replace HR:=Hi (HR.out.put T zo);have hs_y4:=nle T.size;have hr_y4:=nle T.size.symm;clear T;replace b_B6:=bX3 B6;replace b_B7:=bX3 B7;replace b_B10:=bX3 B10;replace HX:=Hi (HX.out.trans E5);replace LQ:=Hi (LQ.out.ext E5);replace B6:=Hi (E5.block B6.out);replace B7:=Hi (E5.block B7.out);replace B10:=Hi (E5.block B10.out);refine mV4 E5 ?_ HC HF HS HR;clear HC HF HS HR;intro HC HF HS HR;have hs_y5:=E5.size;clear E5;replace b_B6:=bX3 B6;replace b_B7:=bX3 B7;replace b_B10:=bX3 B10;go_wp2;exact nXa (v:=DT (⟨some ⟨Ls,0,none⟩,M,M⟩,⟨some ⟨Lr,0,none⟩,n,c⟩,⟨fn,fa,fl,fc,fb,fm,fd⟩)) (by simp [results,Tryz.results173,go_sem,DT,b_B6.1]) rfl
    ⟨(⟨some ⟨Ls,0,none⟩,M,M⟩,⟨some ⟨Lr,0,none⟩,n,c⟩,⟨fn,fa,fl,fc,fb,fm,fd⟩),rfl,HX.out,sl,ros.take n,f,HI.out.done (by rw [nXk,HQl.out];omega),HS.out.can HSL.out (nXe _) zo,(HR.out.can HRL.out hc1 hcmx).take hnP,HF.out⟩
  obtain ⟨t,rfl⟩:∃ t,n=t+m+1:=⟨n-(m+1),zo⟩;have HRT:Hid ((ros.take (t+m+1)).length=t+m+1):=Hi (by rw [nXk,HRL.out];omega);have hb6r:b6<wr.heap.size:=b_B6.2.2;have hb7r:b7<wr.heap.size:=b_B7.2.2;have hb10r:b10<wr.heap.size:=b_B10.2.2;have hLsr:Ls<wr.heap.size:=HS.out.lt;have hLrr:Lr<wr.heap.size:=HR.out.lt;obtain ⟨B,hB⟩:∃ B,B=S+j*(U+1):=⟨_,rfl⟩;have hBz:B≤30000000:=by have:=HI.out.bnd.1;rw [HPl.out,HQl.out,show M+m+1-(m+1)=M by omega] at this;omega
  have hBf:1+j*U≤30000001:=by have:=HI.out.bnd.2;rw [HPl.out,HQl.out,show M+m+1-(m+1)=M by omega] at this;omega
  have hB1:1≤B:=zo;have HSW:Hid (∀ x ∈ sl,Wz B x):=Hi (by rw [hB];exact HI.out.sw);have HRW:Hid (∀ x ∈ ros.take (t+m+1),Wz B x):=Hi (by rw [hB];exact HI.out.rz);have HFW:Hid (Wz (1+j*U) f):=Hi HI.out.fw;have HQWk:Hid (∀ k,k<m+1→Wz U (q.getD k 0)):=Hi (fun k hk=>HQW.out _ (bH (by rw [HQl.out];exact hk)));have HRWk:Hid (∀ k,k<t+m+1→Wz B (ros.getD k 0)):=Hi (fun k hk=>by have:=HRW.out _ (bH (i:=k) (by rw [HRT.out];exact hk));rwa [cS hk] at this);have HLQ:Hid (Wz U (bL q)):=Hi (by unfold bL;rw [HQl.out];exact HQWk.out m zo);obtain ⟨cq,hcq⟩:∃ cq,cq=ros.getD (t+m) 0 / bL q:=⟨_,rfl⟩;have HCQ:Hid (cq=bL (ros.take (t+m+1)) / bL q):=Hi (by rw [hcq];unfold bL;rw [HRT.out,Nat.add_sub_cancel,cS zo]);have HPA:Hid (Wz B ((cq.num:Int):Rat)∧Wz U (((cq.den:Nat):Int):Rat)):=Hi (by rw [hcq];exact (HRWk.out (t+m) zo).parts HLQ.out H0.out);obtain ⟨num,hnum⟩:∃ num:Rat,num=((cq.num:Int):Rat):=⟨_,rfl⟩;obtain ⟨den,hden⟩:∃ den:Rat,den=(((cq.den:Nat):Int):Rat):=⟨_,rfl⟩;rw [←hnum,←hden] at HPA;have HNUM:=Hi hnum;have HDEN:=Hi hden;have Hcq:=Hi hcq;clear hnum hden hcq hB;obtain ⟨r8,⟨f1,f2,f3⟩,hr8⟩:=aH.cells HR.out (k:=t+m) (by rw [HRL.out];omega);have hfz:=aH.frozen HR.out;have hLl:=aH.lt HR.out;obtain ⟨r8n,r8a,r8l,r8c,r8b,r8m,r8d⟩:=r8;simp only at f1 f2 f3;have HR8:=Hi hr8;clear hr8;have ht1:(t:Int)+m+1-(m+1)=(t:Nat):=zo;have ht2:(t:Int)+m+1-1=((t+m:Nat):Int):=zo;have hn2:(m:Int)+1≤(t:Int)+m+1:=zo
  go_upto_region 8 with fail
  refine bv [(12,10)] _ (by simp only [jG,mu,List.push_toArray,List.cons_append,List.nil_append];exact rfl) (by intro c a d v w h;cases d <;> exact h) 12 (fun opIx=>match opIx with
   | 7=>.spec (RH) (default) (fun s=>.tuple #[s.v,.int .i64 0]) (fun x w'=>aA w' x cq)
   | 11=>.alloc 37 #[.bool false,.slice none 0 0,.slice none 0 0]
   | _=>.quiet) (fun _=>[]) kZ kZ kZ (fun w0 he0 hz0 hc0 hf0=>?_)
  replace he0:=Hi he0;simp only [pT];refine qQ ?_;refine wps he0 (fun w1 hW hG=>?_) fun x7=>?_
  ·exact spc [RH.v ⟨r8n,r8a,r8l,r8c,r8b,r8m,r8d⟩,RH.v ⟨rneg,ra,rn,rc,rb,rm,rd⟩] Tryz.func128 ((by rw [Hcq.out];exact cx _ _ _ _ _ ((HR8.out.ext hW).raw ((HRWk.out _ zo).sz hB1) zo) ((HC.out.ext hW).raw (HLQ.out.sz hU) zo) H0.out))
  refine qZ ?_;refine aW rfl rfl (fun w=>by simp [execOp,go_sem,ptr]) (fun b12 hb12 hl12=>?_);refine qZ ?_;refine aq ?_;intro w8 hI;have hE:=he0.out.trans hI.ext;have G7:=gT (hI.facts 7);have A12:Hid (w8.heap[b12]?=some (.cells #[.bool false,.slice none 0 0,.slice none 0 0] 37 (0,0))):=hI.facts 11;rw [hz0] at hl12;clear hI he0 hz0 hc0 hf0;refine mV8 hE ?_ HX LQ B6 B7 B10 HF HS HR;clear HX LQ B6 B7 B10 HF HS HR;intro HX LQ B6 B7 B10 HF HS HR;refine mV2 hE ?_ HR8 HC;clear HR8 HC;intro HR8 HC;have hs_w8:=hE.size;replace b_B6:=bX3 B6;replace b_B7:=bX3 B7;replace b_B10:=bX3 B10;replace b_A12:=bX3 A12;simp only [pD,ptr];clear f1 f2 f3 hfz hLl ht2;clear HR8
  go_upto_region 9 with fail
  refine aN A12.out rfl ?_;intro w9 T;replace HX:=Hi (T.ext HX.out zo);replace LQ:=Hi (LQ.out.put T zo);replace B6:=Hi (T.rest _ _ zo B6.out);replace B7:=Hi (T.rest _ _ zo B7.out);replace B10:=Hi (T.rest _ _ zo B10.out);replace HC:=Hi (HC.out.keep T.keep);replace HF:=Hi (HF.out.keep T.keep);replace HS:=Hi (HS.out.put T zo);replace HR:=Hi (HR.out.put T zo);replace A12:=Hi (T.bx);replace G7:=Hi (G7.out.keep T.keep);have hs_w9:=nle T.size;have hr_w9:=nle T.size.symm;clear T;replace b_B6:=bX3 B6;replace b_B7:=bX3 B7;replace b_B10:=bX3 B10;replace b_A12:=bX3 A12
  go_wp2_with fail
  refine cM (lX x7 cq _ G7.out) fun x10 w10 hE G10=>?_
  refine mV8 hE ?_ HX LQ B6 B7 B10 HC HF HS;clear HX LQ B6 B7 B10 HC HF HS;intro HX LQ B6 B7 B10 HC HF HS;refine mV3 hE ?_ HR A12 G7;clear HR A12 G7;intro HR A12 G7;have hs_w10:=hE.size;replace b_B6:=bX3 B6;replace b_B7:=bX3 B7;replace b_B10:=bX3 B10;replace b_A12:=bX3 A12;obtain ⟨xn,xd⟩:=x10;have HN:Hid (aA w10 xn num):=Hi (by rw [HNUM.out];exact G10.out.1);have HD:Hid (aA w10 xd den):=Hi (by rw [HDEN.out];exact G10.out.2);clear G10;simp only [PT];clear G7
  go_upto_region 10 with fail
  (try clear b_A12);clear A12
  refine eX ?_;intro w11 hE B14 B15 hz_w11 hr_w11;refine mV8 hE ?_ HX LQ B6 B7 B10 HC HF HS;clear HX LQ B6 B7 B10 HC HF HS;intro HX LQ B6 B7 B10 HC HF HS;refine mV3 hE ?_ HR HN HD;clear HR HN HD;intro HR HN HD;have hs_w11:=hE.size;replace b_B6:=bX3 B6;replace b_B7:=bX3 B7;replace b_B10:=bX3 B10;replace b_B14:=bX3 B14;replace b_B15:=bX3 B15;obtain ⟨b14,hb14⟩:∃ b14,b14=w10.heap.size:=⟨_,rfl⟩;obtain ⟨b15,hb15⟩:∃ b15,b15=w10.heap.size+1:=⟨_,rfl⟩;have hb14r:wr.heap.size≤b14:=zo;have hb15r:wr.heap.size≤b15:=zo;have hb145:b14≠b15:=zo;rw [←hb15] at B15;rw [←hb14] at B14;rw [←hb15,←hb14];clear hb14 hb15 b_B14 b_B15;replace b_B6:=bX3 B6;replace b_B7:=bX3 B7;replace b_B10:=bX3 B10;replace b_B14:=bX3 B14;replace b_B15:=bX3 B15;obtain ⟨cc,hcc⟩:∃ cc,cc=cG den 1:=⟨_,rfl⟩;have Hcc:=Hi hcc;have HNW:Hid (Wz B num):=Hi HPA.out.1;have HDW:Hid (Wz U den):=Hi HPA.out.2;clear hcc;refine wpG 3 (fun opIx=>match opIx with
   | 1=>sR (((1:Int):Rat))
   | 2=>sU (.int .i64 cc)
   | _=>.quiet) (fun|2=>[1]|_=>[]) fun w0 he0 hz0 hc0 hf0=>?_
  refine wps he0 (fun w1 hW hG=>?_) fun x20=>?_
  ·exact spc [.int .i64 1] Tryz.func63 (bO 1 _ dZ dZ)
  refine qZ ?_;refine wps he0 (fun w1 hW hG=>?_) fun x21=>?_
  ·have g20:=gS (hG 1 dZ);exact spc [xd.v,x20.v] Tryz.func81 ((by rw [Hcc.out];exact bS _ _ _ _ _ ((HD.out.ext hW).raw (HDW.out.sz hU) zo) (g20.raw (Sz.int dZ) dZ)))
  refine qZ ?_;refine aq ?_;intro w12 hI;have hE:=he0.out.trans hI.ext;have G20:=gT (hI.facts 1);clear hI he0 hz0 hc0 hf0;refine mV8 hE ?_ B14 B15 HX LQ B6 B7 B10 HC;clear B14 B15 HX LQ B6 B7 B10 HC;intro B14 B15 HX LQ B6 B7 B10 HC;refine mV5 hE ?_ HF HS HR HN HD;clear HF HS HR HN HD;intro HF HS HR HN HD;have hs_w12:=hE.size;replace b_B6:=bX3 B6;replace b_B7:=bX3 B7;replace b_B10:=bX3 B10;replace b_B14:=bX3 B14;replace b_B15:=bX3 B15;simp only [pD];by_cases hcc0:cc=0
  case pos =>
   subst hcc0;have hd1:den=1:=uE.1 Hcc.out.symm;replace HS:=Hi (show aH w12 Ls (cL sl M den) by rw [hd1,mY];exact HS.out);replace HR:=Hi (show aH w12 Lr (cL ros (t+m+1) den) by rw [hd1,mY];exact HR.out);replace HF:=Hi (show aA w12 ⟨fn,fa,fl,fc,fb,fm,fd⟩ (f*den) by rw [hd1,Rat.mul_one];exact HF.out);clear hd1;clear G20
   (try simp only [SH.v])
   have htM:(t:Int)<M:=zo;obtain ⟨r14,⟨f1,f2,f3⟩,-⟩:=aH.cells HS.out (k:=t) (by rw [aF,HSL.out];omega);have hfz:=aH.frozen HS.out;have hLl:=aH.lt HS.out
   go_upto_region 15 with fail
   refine eW (k:=t) HS.out (by rw [aF,HSL.out];omega) HN.out ?_;rintro y17 ⟨cs,T⟩ TN;clear f1 f2 f3 hfz hLl;clear HD
   (try clear b_B15);clear B15
   clear HS;replace HX:=Hi (T.ext HX.out zo);replace LQ:=Hi (LQ.out.put T zo);replace B6:=Hi (T.rest _ _ zo B6.out);replace B7:=Hi (T.rest _ _ zo B7.out);replace B10:=Hi (T.rest _ _ zo B10.out);replace HC:=Hi (HC.out.keep T.keep);replace HF:=Hi (HF.out.keep T.keep);replace HR:=Hi (HR.out.put T zo);replace HN:=Hi (HN.out.keep T.keep);replace B14:=Hi (T.rest _ _ zo B14.out);have hs_y17:=nle T.size;have hr_y17:=nle T.size.symm;clear T;replace b_B6:=bX3 B6;replace b_B7:=bX3 B7;replace b_B10:=bX3 B10;replace b_B14:=bX3 B14;have HS:=Hi TN;clear TN;go_wp2
   go_loopg [86] (m+1) (fun g v wr=>∃ (k:Nat),k+g=m+1∧v=.int .i64 (k:Nat)∧Ext w wr∧LIn wr ⟨some ⟨b,off,none⟩,m+1,qc⟩ q 0 w.heap.size∧wr.heap[b6]?=some (.cells #[.bool false,.slice none 0 0,.slice none 0 0] 37 (0,0))∧wr.heap[b7]?=some (.cells #[.bool fn,.slice fa fl fc,.slice fb fm fd] 37 (0,0))∧wr.heap[b10]?=some (.cells #[.bool rneg,.slice ra rn rc,.slice rb rm rd] 37 (0,0))∧wr.heap[b14]?=some (.cells #[.bool xn.neg,.slice xn.a xn.n xn.c,.slice xn.b xn.m xn.d] 37 (0,0))∧aA wr ⟨rneg,ra,rn,rc,rb,rm,rd⟩ (bL q)∧aA wr ⟨fn,fa,fl,fc,fb,fm,fd⟩ (f*den)∧aA wr xn num∧aH wr Ls ((cL sl M den).set t num)∧aH wr Lr (gH (cL ros (t+m+1) den) t q num k))
   case atStart=>exact ⟨0,zo,rfl,HX.out,LQ.out,B6.out,B7.out,B10.out,B14.out,HC.out,HF.out,HN.out,HS.out,HR.out⟩
   case round =>
    obtain ⟨k,hk,rfl,g1,g2,g3,g4,g5,g6,g7,g8,g9,g10,g11⟩:=hrel;clear HX LQ B6 B7 B10 B14 HC HF HN HS HR;have HX:=Hi g1;have LQ:=Hi g2;have B6:=Hi g3;have B7:=Hi g4;have B10:=Hi g5;have B14:=Hi g6;have HC:=Hi g7;have HF:=Hi g8;have HN:=Hi g9;have HS:=Hi g10;have HR:=Hi g11;clear g1 g2 g3 g4 g5 g6 g7 g8 g9 g10 g11;replace b_B6:=bX3 B6;replace b_B7:=bX3 B7;replace b_B10:=bX3 B10;replace b_B14:=bX3 B14;by_cases h0:gk=0
    case neg =>
     have hin:(k:Int)<(m:Int)+1:=zo;obtain ⟨b',off',r17,hao,hbl,⟨hc1',hc2',hc3'⟩,hPc⟩:=LQ.out.celx (k:=k) zo;obtain ⟨rfl,rfl⟩:b=b'∧off=off':=by simpa using hao
     obtain ⟨qn,qa',ql,qc',qb,qm,qd⟩:=r17;simp only at hc1' hc2' hc3';have HQk:=Hi hPc;clear hPc hao
     go_upto_region 18 with fail
     clear hc1' hc2' hc3';refine nmA ?_;intro y18 hE B17 hz_y18 hr_y18;refine mV8 hE ?_ HX LQ B6 B7 B10 B14 HC HF;clear HX LQ B6 B7 B10 B14 HC HF;intro HX LQ B6 B7 B10 B14 HC HF;refine mV4 hE ?_ HN HS HR HQk;clear HN HS HR HQk;intro HN HS HR HQk;have hs_y18:=hE.size;replace b_B6:=bX3 B6;replace b_B7:=bX3 B7;replace b_B10:=bX3 B10;replace b_B14:=bX3 B14;replace b_B17:=bX3 B17;obtain ⟨r18,⟨f1,f2,f3⟩,hr18⟩:=aH.cells HR.out (k:=t+k) (by rw [aY,aF,HRL.out];omega);have hfz:=aH.frozen HR.out;have hLl:=aH.lt HR.out;obtain ⟨sn,sa,sl',sc,sb,sm',sd⟩:=r18;simp only at f1 f2 f3;have HR18:=Hi hr18;clear hr18;have HRV:Hid (Wz (B+U) ((gH (cL ros (t+m+1) den) t q num k).getD (t+k) 0)):=Hi (by
      rw [kf _ _ _ _ _ (by rw [aF,HRL.out];omega),if_neg zo,kN _ (by rw [HRL.out];omega) zo];have:=(HRWk.out (t+k) zo).mul HDW.out;rw [ye];exact this)
     have htk:(t:Int)+k<(t:Int)+m+1:=zo;refine wpG 14 (fun opIx=>match opIx with
      | 12=>sR (num*q.getD k 0)
      | 13=>sR ((gH (cL ros (t+m+1) den) t q num k).getD (t+k) 0-num*q.getD k 0)
      | _=>.quiet) (fun|13=>[12]|_=>[]) fun w0 he0 hz0 hc0 hf0=>?_
     refine wps he0 (fun w1 hW hG=>?_) fun x22=>?_
     ·exact spc [xn.v,RH.v ⟨qn,qa',ql,qc',qb,qm,qd⟩] Tryz.func108 (aK _ _ _ _ _ ((HN.out.ext hW).raw (HNW.out.sz hB1) zo) ((HQk.out.ext hW).raw ((HQWk.out k zo).sz hU) zo))
     refine qZ ?_;refine wps he0 (fun w1 hW hG=>?_) fun x23=>?_
     ·have g22:=gS (hG 12 dZ);exact spc [RH.v ⟨sn,sa,sl',sc,sb,sm',sd⟩,x22.v] Tryz.func191 (i4 _ x22 _ _ _ ((HR18.out.ext hW).raw (HRV.out.sz zo) zo) (g22.raw ((HNW.out.mul (HQWk.out k zo)).sz zo) zo))
     refine qZ ?_;refine aq ?_;intro y19 hI;have hE:=he0.out.trans hI.ext;have G22:=gT (hI.facts 12);have G23:=gT (hI.facts 13);clear hI he0 hz0 hc0 hf0;refine mV8 hE ?_ B17 HX LQ B6 B7 B10 B14 HC;clear B17 HX LQ B6 B7 B10 B14 HC;intro B17 HX LQ B6 B7 B10 B14 HC;refine mV6 hE ?_ HF HS HR HN HQk HR18;clear HF HS HR HN HQk HR18;intro HF HS HR HN HQk HR18;have hs_y19:=hE.size;replace b_B6:=bX3 B6;replace b_B7:=bX3 B7;replace b_B10:=bX3 B10;replace b_B14:=bX3 B14;replace b_B17:=bX3 B17;simp only [pD];clear f1 f2 f3 hfz hLl htk;clear HR18;clear HQk;clear G22;obtain ⟨r19,⟨f1,f2,f3⟩,-⟩:=aH.cells HR.out (k:=t+k) (by rw [aY,aF,HRL.out];omega);have hfz:=aH.frozen HR.out;have hLl:=aH.lt HR.out
     go_upto_region 19 with fail
     refine eW (k:=t+k) HR.out (by rw [aY,aF,HRL.out];omega) G23.out ?_;rintro y20 ⟨cs,T⟩ TN;clear f1 f2 f3 hfz hLl
     (try clear b_B17);clear B17
     clear G23;clear HR;replace HX:=Hi (T.ext HX.out zo);replace LQ:=Hi (LQ.out.put T zo);replace B6:=Hi (T.rest _ _ zo B6.out);replace B7:=Hi (T.rest _ _ zo B7.out);replace B10:=Hi (T.rest _ _ zo B10.out);replace B14:=Hi (T.rest _ _ zo B14.out);replace HC:=Hi (HC.out.keep T.keep);replace HF:=Hi (HF.out.keep T.keep);replace HN:=Hi (HN.out.keep T.keep);replace HS:=Hi (HS.out.put T zo);have hs_y20:=nle T.size;have hr_y20:=nle T.size.symm;clear T;replace b_B6:=bX3 B6;replace b_B7:=bX3 B7;replace b_B10:=bX3 B10;replace b_B14:=bX3 B14;have HR:=Hi TN;clear TN;go_wp2
     go_roundg (gk-1)
     case measure=>omega
     case rel=>exact ⟨k+1,zo,by go_num,HX.out,LQ.out,B6.out,B7.out,B10.out,B14.out,HC.out,HF.out,HN.out,HS.out,HR.out⟩
    subst h0;obtain rfl:k=m+1:=by omega
    have hin:¬ ((m:Int)+1<(m:Int)+1):=zo;obtain ⟨hI2,hW2⟩:=HI.out.row HQl.out (by rw [HRL.out];omega) HSL.out H0.out HQW.out HCQ.out HNUM.out HDEN.out;have HI2:=Hi hI2;have HRN:Hid (bg wr ⟨some ⟨Lr,0,none⟩,t+m+1,c⟩ ((gH (cL ros (t+m+1) den) t q num (m+1)).take (t+m+1))):=Hi ((HR.out.can (by rw [aY,aF,HRL.out]) hc1 hcmx).take hnP);have HSZ:Hid (SzL (S+j*(U+1)+U+1) ((gH (cL ros (t+m+1) den) t q num (m+1)).take (t+m+1))):=Hi (fun x hx=>(hW2 x hx).sz zo);clear hI2 hW2;have hBz2:S+j*(U+1)≤30000000:=by have:=HI.out.bnd.1;rw [HPl.out,HQl.out,show M+m+1-(m+1)=M by omega] at this;omega
    go_wp2_with fail
    refine cM (dS (some ⟨Lr,0,none⟩) (t+m+1) c _ _ (HRN.out.raw HSZ.out zo)) fun x24 w24 hE G24=>?_
    refine mV8 hE ?_ HX LQ B6 B7 B10 B14 HC HF;clear HX LQ B6 B7 B10 B14 HC HF;intro HX LQ B6 B7 B10 B14 HC HF;refine mV3 hE ?_ HN HS HR;clear HN HS HR;intro HN HS HR;have hs_w24:=hE.size;replace b_B6:=bX3 B6;replace b_B7:=bX3 B7;replace b_B10:=bX3 B10;replace b_B14:=bX3 B14;obtain ⟨q1,q2⟩:=G24.out;have HQ1:=Hi q1;clear q1 G24;go_wp2
    go_roundg (g0-1)
    case measure=>omega
    case rel =>
     refine ⟨_,j+1,zo,rfl,⟨(cL sl M den).set t num,gH (cL ros (t+m+1) den) t q num (m+1),f*den,⟨fn,fa,fl,fc,fb,fm,fd⟩,B7.out,HF.out,HS.out,HR.out,by rw [aY,aF,HRL.out],zo,?_⟩,HX.out,LQ.out,B6.out,B10.out,HC.out⟩;have h1:=HI2.out;rw [HQ1.out,List.take_take,Nat.min_eq_left zo] at h1;exact h1
  have hccb:(cc == 0)=false:=by simpa using hcc0
  clear hcc0;clear G20
  (try simp only [SH.v])
  go_wp2_with fail
  refine Calls.mono (qW Ls M M sl xd den B U _ HS.out (by rw [HSL.out];exact nXe _) HD.out (by rw [HSL.out];omega) (fun x hx=>(HSW.out x (List.mem_of_mem_take hx)).sz hB1) (HDW.out.sz hU) zo) ?_;rintro e w13 ⟨rfl,T,TN⟩;clear HS;replace HX:=Hi (T.ext HX.out zo);replace LQ:=Hi (LQ.out.mut T zo);replace B6:=Hi (T.rest _ _ zo B6.out);replace B7:=Hi (T.rest _ _ zo B7.out);replace B10:=Hi (T.rest _ _ zo B10.out);replace HC:=Hi (HC.out.keep T.keep);replace HF:=Hi (HF.out.keep T.keep);replace HR:=Hi (HR.out.mut T zo);replace HN:=Hi (HN.out.keep T.keep);replace HD:=Hi (HD.out.keep T.keep);replace B14:=Hi (T.rest _ _ zo B14.out);replace B15:=Hi (T.rest _ _ zo B15.out);have hs_w13:=T.size;clear T;replace b_B6:=bX3 B6;replace b_B7:=bX3 B7;replace b_B10:=bX3 B10;replace b_B14:=bX3 B14;replace b_B15:=bX3 B15;have HS:=Hi TN;clear TN
  go_wp2_with fail
  refine Calls.mono (qW Lr (t+m+1) c ros xd den B U _ HR.out (by rw [HRL.out];exact hnP) HD.out (by rw [HRL.out];omega) (fun x hx=>(HRW.out x hx).sz hB1) (HDW.out.sz hU) zo) ?_;rintro e w14 ⟨rfl,T,TN⟩;clear HR;replace HX:=Hi (T.ext HX.out zo);replace LQ:=Hi (LQ.out.mut T zo);replace B6:=Hi (T.rest _ _ zo B6.out);replace B7:=Hi (T.rest _ _ zo B7.out);replace B10:=Hi (T.rest _ _ zo B10.out);replace HC:=Hi (HC.out.keep T.keep);replace HF:=Hi (HF.out.keep T.keep);replace HN:=Hi (HN.out.keep T.keep);replace HD:=Hi (HD.out.keep T.keep);replace B14:=Hi (T.rest _ _ zo B14.out);replace B15:=Hi (T.rest _ _ zo B15.out);replace HS:=Hi (HS.out.mut T zo);have hs_w14:=T.size;clear T;replace b_B6:=bX3 B6;replace b_B7:=bX3 B7;replace b_B10:=bX3 B10;replace b_B14:=bX3 B14;replace b_B15:=bX3 B15;have HR:=Hi TN;clear TN
  go_wp2_with fail
  refine cM (aK ⟨fn,fa,fl,fc,fb,fm,fd⟩ xd f den _ (HF.out.raw (HFW.out.sz zo) zo) (HD.out.raw (HDW.out.sz hU) zo)) fun x15 w15 hE G15=>?_
  refine mV8 hE ?_ HX LQ B6 B7 B10 HC HF HN;clear HX LQ B6 B7 B10 HC HF HN;intro HX LQ B6 B7 B10 HC HF HN;refine mV5 hE ?_ HD B14 B15 HS HR;clear HD B14 B15 HS HR;intro HD B14 B15 HS HR;have hs_w15:=hE.size;replace b_B6:=bX3 B6;replace b_B7:=bX3 B7;replace b_B10:=bX3 B10;replace b_B14:=bX3 B14;replace b_B15:=bX3 B15;obtain ⟨gn,ga,gl,gc,gb,gm,gd⟩:=x15
  go_upto_region 14 with fail
  refine aN B7.out rfl ?_;intro w16 T;replace HX:=Hi (T.ext HX.out zo);replace LQ:=Hi (LQ.out.put T zo);replace B6:=Hi (T.rest _ _ zo B6.out);replace B7:=Hi (T.bx);replace B10:=Hi (T.rest _ _ zo B10.out);replace HC:=Hi (HC.out.keep T.keep);replace HF:=Hi (HF.out.keep T.keep);replace HN:=Hi (HN.out.keep T.keep);replace HD:=Hi (HD.out.keep T.keep);replace B14:=Hi (T.rest _ _ zo B14.out);replace B15:=Hi (T.rest _ _ zo B15.out);replace HS:=Hi (HS.out.put T zo);replace HR:=Hi (HR.out.put T zo);replace G15:=Hi (G15.out.keep T.keep);have hs_w16:=nle T.size;have hr_w16:=nle T.size.symm;clear T;replace b_B6:=bX3 B6;replace b_B7:=bX3 B7;replace b_B10:=bX3 B10;replace b_B14:=bX3 B14;replace b_B15:=bX3 B15;clear HF;have HF:=Hi G15.out;clear G15
  (try simp only [SH.v])
  have htM:(t:Int)<M:=zo;obtain ⟨r14,⟨f1,f2,f3⟩,-⟩:=aH.cells HS.out (k:=t) (by rw [aF,HSL.out];omega);have hfz:=aH.frozen HS.out;have hLl:=aH.lt HS.out
  go_upto_region 15 with fail
  refine eW (k:=t) HS.out (by rw [aF,HSL.out];omega) HN.out ?_;rintro y17 ⟨cs,T⟩ TN;clear f1 f2 f3 hfz hLl;clear HD
  (try clear b_B15);clear B15
  clear HS;replace HX:=Hi (T.ext HX.out zo);replace LQ:=Hi (LQ.out.put T zo);replace B6:=Hi (T.rest _ _ zo B6.out);replace B7:=Hi (T.rest _ _ zo B7.out);replace B10:=Hi (T.rest _ _ zo B10.out);replace HC:=Hi (HC.out.keep T.keep);replace HN:=Hi (HN.out.keep T.keep);replace B14:=Hi (T.rest _ _ zo B14.out);replace HR:=Hi (HR.out.put T zo);replace HF:=Hi (HF.out.keep T.keep);have hs_y17:=nle T.size;have hr_y17:=nle T.size.symm;clear T;replace b_B6:=bX3 B6;replace b_B7:=bX3 B7;replace b_B10:=bX3 B10;replace b_B14:=bX3 B14;have HS:=Hi TN;clear TN;go_wp2
  go_loopg [86] (m+1) (fun g v wr=>∃ (k:Nat),k+g=m+1∧v=.int .i64 (k:Nat)∧Ext w wr∧LIn wr ⟨some ⟨b,off,none⟩,m+1,qc⟩ q 0 w.heap.size∧wr.heap[b6]?=some (.cells #[.bool false,.slice none 0 0,.slice none 0 0] 37 (0,0))∧wr.heap[b7]?=some (.cells #[.bool gn,.slice ga gl gc,.slice gb gm gd] 37 (0,0))∧wr.heap[b10]?=some (.cells #[.bool rneg,.slice ra rn rc,.slice rb rm rd] 37 (0,0))∧wr.heap[b14]?=some (.cells #[.bool xn.neg,.slice xn.a xn.n xn.c,.slice xn.b xn.m xn.d] 37 (0,0))∧aA wr ⟨rneg,ra,rn,rc,rb,rm,rd⟩ (bL q)∧aA wr ⟨gn,ga,gl,gc,gb,gm,gd⟩ (f*den)∧aA wr xn num∧aH wr Ls ((cL sl M den).set t num)∧aH wr Lr (gH (cL ros (t+m+1) den) t q num k))
  case atStart=>exact ⟨0,zo,rfl,HX.out,LQ.out,B6.out,B7.out,B10.out,B14.out,HC.out,HF.out,HN.out,HS.out,HR.out⟩
  case round =>
   obtain ⟨k,hk,rfl,g1,g2,g3,g4,g5,g6,g7,g8,g9,g10,g11⟩:=hrel;clear HX LQ B6 B7 B10 B14 HC HF HN HS HR;have HX:=Hi g1;have LQ:=Hi g2;have B6:=Hi g3;have B7:=Hi g4;have B10:=Hi g5;have B14:=Hi g6;have HC:=Hi g7;have HF:=Hi g8;have HN:=Hi g9;have HS:=Hi g10;have HR:=Hi g11;clear g1 g2 g3 g4 g5 g6 g7 g8 g9 g10 g11;replace b_B6:=bX3 B6;replace b_B7:=bX3 B7;replace b_B10:=bX3 B10;replace b_B14:=bX3 B14;by_cases h0:gk=0
   case neg =>
    have hin:(k:Int)<(m:Int)+1:=zo;obtain ⟨b',off',r17,hao,hbl,⟨hc1',hc2',hc3'⟩,hPc⟩:=LQ.out.celx (k:=k) zo;obtain ⟨rfl,rfl⟩:b=b'∧off=off':=by simpa using hao
    obtain ⟨qn,qa',ql,qc',qb,qm,qd⟩:=r17;simp only at hc1' hc2' hc3';have HQk:=Hi hPc;clear hPc hao
    go_upto_region 18 with fail
    clear hc1' hc2' hc3';refine nmA ?_;intro y18 hE B17 hz_y18 hr_y18;refine mV8 hE ?_ HX LQ B6 B7 B10 B14 HC HF;clear HX LQ B6 B7 B10 B14 HC HF;intro HX LQ B6 B7 B10 B14 HC HF;refine mV4 hE ?_ HN HS HR HQk;clear HN HS HR HQk;intro HN HS HR HQk;have hs_y18:=hE.size;replace b_B6:=bX3 B6;replace b_B7:=bX3 B7;replace b_B10:=bX3 B10;replace b_B14:=bX3 B14;replace b_B17:=bX3 B17;obtain ⟨r18,⟨f1,f2,f3⟩,hr18⟩:=aH.cells HR.out (k:=t+k) (by rw [aY,aF,HRL.out];omega);have hfz:=aH.frozen HR.out;have hLl:=aH.lt HR.out;obtain ⟨sn,sa,sl',sc,sb,sm',sd⟩:=r18;simp only at f1 f2 f3;have HR18:=Hi hr18;clear hr18;have HRV:Hid (Wz (B+U) ((gH (cL ros (t+m+1) den) t q num k).getD (t+k) 0)):=Hi (by
     rw [kf _ _ _ _ _ (by rw [aF,HRL.out];omega),if_neg zo,kN _ (by rw [HRL.out];omega) zo];have:=(HRWk.out (t+k) zo).mul HDW.out;rw [ye];exact this)
    have htk:(t:Int)+k<(t:Int)+m+1:=zo;refine wpG 14 (fun opIx=>match opIx with
     | 12=>sR (num*q.getD k 0)
     | 13=>sR ((gH (cL ros (t+m+1) den) t q num k).getD (t+k) 0-num*q.getD k 0)
     | _=>.quiet) (fun|13=>[12]|_=>[]) fun w0 he0 hz0 hc0 hf0=>?_
    refine wps he0 (fun w1 hW hG=>?_) fun x22=>?_
    ·exact spc [xn.v,RH.v ⟨qn,qa',ql,qc',qb,qm,qd⟩] Tryz.func108 (aK _ _ _ _ _ ((HN.out.ext hW).raw (HNW.out.sz hB1) zo) ((HQk.out.ext hW).raw ((HQWk.out k zo).sz hU) zo))
    refine qZ ?_;refine wps he0 (fun w1 hW hG=>?_) fun x23=>?_
    ·have g22:=gS (hG 12 dZ);exact spc [RH.v ⟨sn,sa,sl',sc,sb,sm',sd⟩,x22.v] Tryz.func191 (i4 _ x22 _ _ _ ((HR18.out.ext hW).raw (HRV.out.sz zo) zo) (g22.raw ((HNW.out.mul (HQWk.out k zo)).sz zo) zo))
    refine qZ ?_;refine aq ?_;intro y19 hI;have hE:=he0.out.trans hI.ext;have G22:=gT (hI.facts 12);have G23:=gT (hI.facts 13);clear hI he0 hz0 hc0 hf0;refine mV8 hE ?_ B17 HX LQ B6 B7 B10 B14 HC;clear B17 HX LQ B6 B7 B10 B14 HC;intro B17 HX LQ B6 B7 B10 B14 HC;refine mV6 hE ?_ HF HS HR HN HQk HR18;clear HF HS HR HN HQk HR18;intro HF HS HR HN HQk HR18;have hs_y19:=hE.size;replace b_B6:=bX3 B6;replace b_B7:=bX3 B7;replace b_B10:=bX3 B10;replace b_B14:=bX3 B14;replace b_B17:=bX3 B17;simp only [pD];clear f1 f2 f3 hfz hLl htk;clear HR18;clear HQk;clear G22;obtain ⟨r19,⟨f1,f2,f3⟩,-⟩:=aH.cells HR.out (k:=t+k) (by rw [aY,aF,HRL.out];omega);have hfz:=aH.frozen HR.out;have hLl:=aH.lt HR.out
    go_upto_region 19 with fail
    refine eW (k:=t+k) HR.out (by rw [aY,aF,HRL.out];omega) G23.out ?_;rintro y20 ⟨cs,T⟩ TN;clear f1 f2 f3 hfz hLl
    (try clear b_B17);clear B17
    clear G23;clear HR;replace HX:=Hi (T.ext HX.out zo);replace LQ:=Hi (LQ.out.put T zo);replace B6:=Hi (T.rest _ _ zo B6.out);replace B7:=Hi (T.rest _ _ zo B7.out);replace B10:=Hi (T.rest _ _ zo B10.out);replace B14:=Hi (T.rest _ _ zo B14.out);replace HC:=Hi (HC.out.keep T.keep);replace HF:=Hi (HF.out.keep T.keep);replace HN:=Hi (HN.out.keep T.keep);replace HS:=Hi (HS.out.put T zo);have hs_y20:=nle T.size;have hr_y20:=nle T.size.symm;clear T;replace b_B6:=bX3 B6;replace b_B7:=bX3 B7;replace b_B10:=bX3 B10;replace b_B14:=bX3 B14;have HR:=Hi TN;clear TN;go_wp2
    go_roundg (gk-1)
    case measure=>omega
    case rel=>exact ⟨k+1,zo,by go_num,HX.out,LQ.out,B6.out,B7.out,B10.out,B14.out,HC.out,HF.out,HN.out,HS.out,HR.out⟩
   subst h0;obtain rfl:k=m+1:=by omega
   have hin:¬ ((m:Int)+1<(m:Int)+1):=zo;obtain ⟨hI2,hW2⟩:=HI.out.row HQl.out (by rw [HRL.out];omega) HSL.out H0.out HQW.out HCQ.out HNUM.out HDEN.out;have HI2:=Hi hI2;have HRN:Hid (bg wr ⟨some ⟨Lr,0,none⟩,t+m+1,c⟩ ((gH (cL ros (t+m+1) den) t q num (m+1)).take (t+m+1))):=Hi ((HR.out.can (by rw [aY,aF,HRL.out]) hc1 hcmx).take hnP);have HSZ:Hid (SzL (S+j*(U+1)+U+1) ((gH (cL ros (t+m+1) den) t q num (m+1)).take (t+m+1))):=Hi (fun x hx=>(hW2 x hx).sz zo);clear hI2 hW2;have hBz2:S+j*(U+1)≤30000000:=by have:=HI.out.bnd.1;rw [HPl.out,HQl.out,show M+m+1-(m+1)=M by omega] at this;omega
   go_wp2_with fail
   refine cM (dS (some ⟨Lr,0,none⟩) (t+m+1) c _ _ (HRN.out.raw HSZ.out zo)) fun x24 w24 hE G24=>?_
   refine mV8 hE ?_ HX LQ B6 B7 B10 B14 HC HF;clear HX LQ B6 B7 B10 B14 HC HF;intro HX LQ B6 B7 B10 B14 HC HF;refine mV3 hE ?_ HN HS HR;clear HN HS HR;intro HN HS HR;have hs_w24:=hE.size;replace b_B6:=bX3 B6;replace b_B7:=bX3 B7;replace b_B10:=bX3 B10;replace b_B14:=bX3 B14;obtain ⟨q1,q2⟩:=G24.out;have HQ1:=Hi q1;clear q1 G24;go_wp2
   go_roundg (g0-1)
   case measure=>omega
   case rel =>
    refine ⟨_,j+1,zo,rfl,⟨(cL sl M den).set t num,gH (cL ros (t+m+1) den) t q num (m+1),f*den,⟨gn,ga,gl,gc,gb,gm,gd⟩,B7.out,HF.out,HS.out,HR.out,by rw [aY,aF,HRL.out],zo,?_⟩,HX.out,LQ.out,B6.out,B10.out,HC.out⟩;have h1:=HI2.out;rw [HQ1.out,List.take_take,Nat.min_eq_left zo] at h1;exact h1
end Go.Proofs.YtkcpmclnocmalaaGreat
