import Derived.Test.YtafgmcimcbhhjaaGreatQCK3
set_option linter.unusedVariables false
namespace Go.Proofs.YtafgmcimcbhhjaaGreat
open Go.RowKit Go.Front Go.Num Stab
attribute [local go_sem] XW.cell XW.frozen
theorem ut(x:Rat):x-0=x:=by rw [Rat.sub_eq_add_neg,Rat.neg_zero,Rat.add_zero]
theorem wo{a b:Rat}:dq a b=0↔a=b:=by
 unfold dq;constructor
 ·intro h;split at h
  ·cases h
  ·split at h
   ·assumption
   ·cases h
 ·rintro rfl;rw [if_neg Rat.lt_irrefl,if_pos rfl]
theorem s8{w1:World}{b:Nat}{T:TypeId}{c0 c1 c2 v0 v1 v2:Value}{F:World→Prop}(hb:w1.heap[b]?=some (.cells #[c0,c1,c2] T (0,0)))(hn:#[c0,c1,c2].toList.all gP=true)
 (H:∀ w2 w3,gy w1 b T #[v0,v1,v2] w2→Ext w2 w3→F w3) :
  F (((w1.setCell ⟨b,0,none⟩ v0).setCell ⟨b,1,none⟩ v1).setCell ⟨b,2,none⟩ v2).drew :=
 aU (v0:=v0) (v1:=v1) (v2:=v2) (F:=fun W=>F W.drew) hb hn fun w2 T2=>H w2 _ T2 (Ext.drew _)
def DvP(p q:List Rat)(S U:Nat)(s r:List Rat)(f:Rat):Prop :=
 f≠0∧Wz (1+(p.length+1-q.length)*U) f∧(∀ x ∈ s,Wz (S+(p.length+1-q.length)*(U+1)) x)∧(∀ x ∈ r,Wz (S+(p.length+1-q.length)*(U+1)) x)∧tz r=r∧r.length<q.length∧s.length≤p.length∧∀ n,f*seq p n=cv (seq s) (seq q) n+seq r n
theorem DvI.done{p q:List Rat}{S U j:Nat}{sl r:List Rat}{f:Rat}(h:DvI p q S U j sl r f)(hl:r.length<q.length):DvP p q S U sl r f:=by
 have hj:j≤p.length+1-q.length:=by have:=h.jl;omega
 have h1:j*U≤(p.length+1-q.length)*U:=nXh _ hj;have h2:j*(U+1)≤(p.length+1-q.length)*(U+1):=nXh _ hj;exact ⟨h.fne,h.fw.mono zo,fun x hx=>(h.sw x hx).mono zo,fun x hx=>(h.rz x hx).mono zo,h.tzr,hl,by have:=h.sl;omega,h.eq⟩
theorem DvP.short{p q:List Rat}{S U:Nat}(hp:∀ x ∈ p,Wz S x)(ht:tz p=p)(hl:p.length<q.length):DvP p q S U [] p 1:=by
 refine ⟨dZ,Wz.one.mono zo,fun x hx=>by simp at hx,fun x hx=>(hp x hx).mono zo,ht,hl,Nat.zero_le _,fun n=>?_⟩;have:seq ([]:List Rat)=fun _=>0:=funext fun i=>by unfold seq;simp
 rw [this,oZ];grind
abbrev DT(x:SH×SH×RH):Value:=.tuple #[x.1.v,x.2.1.v,x.2.2.v]
theorem DvI.bnd{p q:List Rat}{S U j:Nat}{sl r:List Rat}{f:Rat}(h:DvI p q S U j sl r f):S+j*(U+1)≤S+(p.length+1-q.length)*(U+1)∧1+j*U≤1+S+(p.length+1-q.length)*(U+1):=by
 have hj:j≤p.length+1-q.length:=by have:=h.jl;omega
 have h1:j*U≤(p.length+1-q.length)*U:=nXh _ hj;have h2:j*(U+1)≤(p.length+1-q.length)*(U+1):=nXh _ hj;have h3:(p.length+1-q.length)*U≤(p.length+1-q.length)*(U+1):=nXg _ zo;omega
structure DvL (w wr:World) (p q:List Rat) (S U:Nat) (qo:Option Addr) (m qc Ls Lr b6 b7 b10 c:Nat) (z:RH) (P n j:Nat):Prop where
 ex:∃ (sl ros:List Rat) (f:Rat) (xf:RH),wr.heap[b7]?=some (.cells #[.bool xf.neg,.slice xf.a xf.n xf.c,.slice xf.b xf.m xf.d] 34 (0,0))∧aB wr xf f∧bT wr Ls sl∧bT wr Lr ros∧ros.length=P∧n≤P∧DvI p q S U j sl (ros.take n) f
 hx:Ext w wr
 lq:LIn wr ⟨qo,m+1,qc⟩ q 0 w.heap.size
 B6:wr.heap[b6]?=some (.cells #[.bool false,.slice none 0 0,.slice none 0 0] 34 (0,0))
 B10:wr.heap[b10]?=some (.cells #[.bool z.neg,.slice z.a z.n z.c,.slice z.b z.m z.d] 34 (0,0))
 hz:aB wr z (aP q)
set_option maxRecDepth 8000 in
set_option maxHeartbeats 8000000 in
theorem mt(pa qa:Option Addr)(P pc m qc:Nat)(p q:List Rat)(S U:Nat)(w:World)(hp:aD w ⟨pa,P,pc⟩ p)(hq:aD w ⟨qa,m+1,qc⟩ q)(hpw:∀ x ∈ p,Wz S x)(hqw:∀ x ∈ q,Wz U x)(hS:1≤S)(hU:1≤U)(htp:tz p=p)(htq:tz q=q)(hP:P≤100000)(hQ:m≤100000)(hsz:S+(P-m)*(U+1)≤30000000)(hUz:U≤30000000) :
  ak 195 [.slice pa P pc,.slice qa (m+1:Nat) qc] w DT (fun x w'=>∃ s r f,DvP p q S U s r f∧aD w' x.1 s∧aD w' x.2.1 r∧aB w' x.2.2 f):=by
 have HX:=Hi (Ext.refl w);have LP:=Hi hp.lin;have LQ:=Hi hq.lin;have HPl:Hid (p.length=P):=Hi hp.len;have HQl:Hid (q.length=m+1):=Hi hq.len;have HPW:=Hi hpw;have HQW:=Hi hqw;have HTP:=Hi htp;have H0:Hid (aP q≠0):=Hi (by
  have:=co (q:=q) (by rw [htq];intro h;have:=HQl.out;rw [h] at this;simp at this)
  rwa [htq] at this)
 have hplc:=hp.le;have hqlc:=hq.le;have hqmx:=hq.max;have hpmx:=hp.max;simp only at hplc hqlc hqmx hpmx;clear hp hq hpw hqw htp htq;unfold ak;go_enter Tryz.func195,Tryz.ntmps195
 go_upto_region 1 with fail
 refine nmA ?_;intro w1 hE B6 hz_w1 hr_w1;refine mV3 hE ?_ HX LP LQ;clear HX LP LQ;intro HX LP LQ
 go_wp2_with fail
 refine cM (aL 1 _ dZ dZ) fun x2 w2 hE G2=>?_
 refine mV4 hE ?_ B6 HX LP LQ;clear B6 HX LP LQ;intro B6 HX LP LQ;have hs_w2:=hE.size
 go_upto_region 2 with fail
 refine nmA ?_;intro w3 hE B7 hz_w3 hr_w3;refine mV5 hE ?_ G2 B6 HX LP LQ;clear G2 B6 HX LP LQ;intro G2 B6 HX LP LQ;obtain ⟨b6,hb6⟩:∃ b6,b6=w.heap.size:=⟨_,rfl⟩;obtain ⟨b7,hb7⟩:∃ b7,b7=w2.heap.size:=⟨_,rfl⟩;have hbw6:w.heap.size≤b6:=zo;have hbw7:w.heap.size≤b7:=zo;have hb67:b6≠b7:=zo;rw [←hb6] at B6 ⊢;rw [←hb7] at B7 ⊢;clear hb6 hb7;replace b_B6:=bX3 B6;replace b_B7:=bX3 B7;have hb6s:b6<w3.heap.size:=b_B6.2.2;have hb7s:b7<w3.heap.size:=b_B7.2.2;by_cases hlt:P<m+1
 case pos =>
  go_upto_region 3 with fail
  go_region
  refine s8 B6.out rfl ?_;intro y4 y5 T E5;replace HX:=Hi (T.ext HX.out zo);replace LP:=Hi (LP.out.put T zo);replace B6:=Hi (T.bx);replace G2:=Hi (G2.out.keep T.keep);clear T;replace HX:=Hi (HX.out.trans E5);replace LP:=Hi (LP.out.ext E5);replace B6:=Hi (E5.block B6.out);replace G2:=Hi (G2.out.ext E5);clear E5;replace b_B6:=bX3 B6;go_wp2;exact nXa (v:=DT (⟨none,0,0⟩,⟨pa,P,pc⟩,x2)) (by simp [results,Tryz.results195,go_sem,DT,b_B6.1]) rfl
   ⟨(⟨none,0,0⟩,⟨pa,P,pc⟩,x2),rfl,HX.out,[],p,1,DvP.short HPW.out HTP.out (by rw [HPl.out,HQl.out];exact hlt),(bU.nil 0 _).can,LP.out.can,G2.out⟩
 have hlt2:¬ (P:Int)<((m+1:Nat):Int):=zo;obtain ⟨M,hM⟩:∃ M,P=M+m:=⟨P-m,zo⟩;subst hM;rw [show M+m-m=M by omega] at hsz;have hMi:(M:Int)+m-(m+1)+1=(M:Nat):=zo
 go_wp2_with fail
 refine cM (pf M _ zo) fun x4 w4 hE G4=>?_
 refine mV6 hE ?_ B7 LQ HX LP B6 G2;clear B7 LQ HX LP B6 G2;intro B7 LQ HX LP B6 G2;obtain ⟨Ls,hLs,hx4,hS4⟩:=G4.out;subst hx4;have HS:=Hi hS4;have hLsw:Ls<w4.heap.size:=hS4.lt;clear hS4 G4;clear hMi
 go_wp2_with fail
 refine cM (nE pa (M+m) pc p _ LP.out.can zo zo) fun x5 w5 hE G5=>?_
 refine mV6 hE ?_ B7 LQ HX B6 G2 HS;clear B7 LQ HX B6 G2 HS;intro B7 LQ HX B6 G2 HS;have hs_w5:=hE.size;obtain ⟨Lr,c,hLr,hc1,hc2,hx5,hR5⟩:=G5.out;subst hx5;have HR:=Hi hR5;have hLr5:Lr<w5.heap.size:=hR5.lt;clear hR5 G5;obtain ⟨b,off,r,hao,hbl,⟨hc1',hc2',hc3'⟩,hPc⟩:=LQ.out.celx (k:=m) zo;obtain ⟨rneg,ra,rn,rc,rb,rm,rd⟩:=r;simp only at hc1' hc2' hc3';have HC:Hid (aB w5 ⟨rneg,ra,rn,rc,rb,rm,rd⟩ (aP q)):=Hi (by unfold aP;rw [HQl.out];exact hPc);clear hPc;subst hao;go_wp2;refine nmA ?_;intro w6 hE B10 hz_w6 hr_w6;refine mV8 hE ?_ B7 LQ HX B6 G2 HS HR HC;clear B7 LQ HX B6 G2 HS HR HC;intro B7 LQ HX B6 G2 HS HR HC;obtain ⟨b10,hb10⟩:∃ b10,b10=w5.heap.size:=⟨_,rfl⟩;have hb710:b7≠b10:=zo;have hLsb:Ls≠b6∧Ls≠b7∧Ls≠b10:=zo;have hLrb:Lr≠b6∧Lr≠b7∧Lr≠b10∧Lr≠Ls:=zo;have hLsw2:w.heap.size≤Ls:=zo;have hLrw2:w.heap.size≤Lr:=zo;rw [←hb10] at B10 ⊢;clear hb10 hc1' hc2' hc3' hbl;have HM1:M≠0:=zo;have hcmx:c≤9223372036854775807:=hc2;clear hLr5 hb6s hb7s hLsw hs_w2 hs_w5 hz_w1 hr_w1 hz_w3 hr_w3 hz_w6 hr_w6
 go_loopg [9] (M+m) (fun g v wr=>∃ (n j:Nat),j+g=M+m∧v=.slice (some ⟨Lr,0,none⟩) n c∧DvL w wr p q S U (some ⟨b,off,none⟩) m qc Ls Lr b6 b7 b10 c ⟨rneg,ra,rn,rc,rb,rm,rd⟩ (M+m) n j)
 case atStart =>
  refine ⟨M+m,0,zo,by simp,⟨_,p,1,x2,B7.out,G2.out,HS.out,HR.out,HPl.out,nXe _,?_⟩,HX.out,LQ.out,B6.out,B10.out,HC.out⟩;have h1:=DvI.start (S:=S) (U:=U) (p:=p) (q:=q) HPW.out HTP.out (by rw [HPl.out,HQl.out];omega);rw [nXm (by rw [HPl.out];exact nXe _)];rw [HPl.out,HQl.out,show M+m-(m+1)+1=M by omega] at h1;exact h1
 case round =>
  obtain ⟨n,j,hjg,rfl,⟨sl,ros,f,xf,g7,gf,gs,gr,hrl,hnP,hI⟩,gx,gq,g6,g10,gz⟩:=hrel;obtain ⟨g0,hg0⟩:∃ g0,g0=gk:=⟨_,rfl⟩;have hjn:n+j≤M+m:=by have:=hI.rl;rw [HPl.out,nXk,hrl] at this;omega
  clear HX LQ B6 B7 B10 HC HS HR G2 LP;have HX:=Hi gx;have LQ:=Hi gq;have B6:=Hi g6;have B7:=Hi g7;have B10:=Hi g10;have HC:=Hi gz;have HF:=Hi gf;have HS:=Hi gs;have HR:=Hi gr;have HI:=Hi hI;have HRL:=Hi hrl;clear gx gq g6 g7 g10 gz gf gs gr hI hrl;have HSL:Hid (sl.length=M):=Hi (by have:=HI.out.sl;rw [HPl.out,HQl.out] at this;omega);obtain ⟨fn,fa,fl,fc,fb,fm,fd⟩:=xf;replace b_B6:=bX3 B6;replace b_B7:=bX3 B7;replace b_B10:=bX3 B10;by_cases hn:n<m+1
  case pos =>
   have hn2:¬ ((m:Int)+1≤n):=zo
   go_upto_region 21 with fail
   go_region
   refine s8 B6.out rfl ?_;intro y4 y5 T E5;replace HX:=Hi (T.ext HX.out zo);replace B6:=Hi (T.bx);replace HF:=Hi (HF.out.keep T.keep);replace HS:=Hi (HS.out.put T zo);replace HR:=Hi (HR.out.put T zo);clear T;replace HX:=Hi (HX.out.trans E5);replace B6:=Hi (E5.block B6.out);refine mV3 E5 ?_ HF HS HR;clear HF HS HR;intro HF HS HR;clear E5;replace b_B6:=bX3 B6;go_wp2;exact nXa (v:=DT (⟨some ⟨Ls,0,none⟩,M,M⟩,⟨some ⟨Lr,0,none⟩,n,c⟩,⟨fn,fa,fl,fc,fb,fm,fd⟩)) (by simp [results,Tryz.results195,go_sem,DT,b_B6.1]) rfl
    ⟨(⟨some ⟨Ls,0,none⟩,M,M⟩,⟨some ⟨Lr,0,none⟩,n,c⟩,⟨fn,fa,fl,fc,fb,fm,fd⟩),rfl,HX.out,sl,ros.take n,f,HI.out.done (by rw [nXk,HQl.out];omega),HS.out.can HSL.out (nXe _) zo,(HR.out.can HRL.out hc1 hcmx).take hnP,HF.out⟩
  obtain ⟨t,rfl⟩:∃ t,n=t+m+1:=⟨n-(m+1),zo⟩;have HRT:Hid ((ros.take (t+m+1)).length=t+m+1):=Hi (by rw [nXk,HRL.out];omega);have hb6r:b6<wr.heap.size:=b_B6.2.2;have hb7r:b7<wr.heap.size:=b_B7.2.2;have hb10r:b10<wr.heap.size:=b_B10.2.2;have hLsr:Ls<wr.heap.size:=HS.out.lt;have hLrr:Lr<wr.heap.size:=HR.out.lt;obtain ⟨B,hB⟩:∃ B,B=S+j*(U+1):=⟨_,rfl⟩;have hBz:B≤30000000:=by have:=HI.out.bnd.1;rw [HPl.out,HQl.out,show M+m+1-(m+1)=M by omega] at this;omega
  have hBf:1+j*U≤30000001:=by have:=HI.out.bnd.2;rw [HPl.out,HQl.out,show M+m+1-(m+1)=M by omega] at this;omega
  have hB1:1≤B:=zo;have HSW:Hid (∀ x ∈ sl,Wz B x):=Hi (by rw [hB];exact HI.out.sw);have HRW:Hid (∀ x ∈ ros.take (t+m+1),Wz B x):=Hi (by rw [hB];exact HI.out.rz);have HFW:Hid (Wz (1+j*U) f):=Hi HI.out.fw;have HQWk:Hid (∀ k,k<m+1→Wz U (q.getD k 0)):=Hi (fun k hk=>HQW.out _ (bW (by rw [HQl.out];exact hk)));have HRWk:Hid (∀ k,k<t+m+1→Wz B (ros.getD k 0)):=Hi (fun k hk=>by have:=HRW.out _ (bW (i:=k) (by rw [HRT.out];exact hk));rwa [ci hk] at this);have HLQ:Hid (Wz U (aP q)):=Hi (by unfold aP;rw [HQl.out];exact HQWk.out m zo);obtain ⟨cq,hcq⟩:∃ cq,cq=ros.getD (t+m) 0 / aP q:=⟨_,rfl⟩;have HCQ:Hid (cq=aP (ros.take (t+m+1)) / aP q):=Hi (by rw [hcq];unfold aP;rw [HRT.out,Nat.add_sub_cancel,ci zo]);have HPA:Hid (Wz B ((cq.num:Int):Rat)∧Wz U (((cq.den:Nat):Int):Rat)):=Hi (by rw [hcq];exact (HRWk.out (t+m) zo).parts HLQ.out H0.out);obtain ⟨num,hnum⟩:∃ num:Rat,num=((cq.num:Int):Rat):=⟨_,rfl⟩;obtain ⟨den,hden⟩:∃ den:Rat,den=(((cq.den:Nat):Int):Rat):=⟨_,rfl⟩;rw [←hnum,←hden] at HPA;have HNUM:=Hi hnum;have HDEN:=Hi hden;have Hcq:=Hi hcq;clear hnum hden hcq hB;obtain ⟨r8,⟨f1,f2,f3⟩,hr8⟩:=bT.cells HR.out (k:=t+m) (by rw [HRL.out];omega);obtain ⟨r8n,r8a,r8l,r8c,r8b,r8m,r8d⟩:=r8;simp only at f1 f2 f3;have HR8:=Hi hr8;clear hr8;have ht1:(t:Int)+m+1-(m+1)=(t:Nat):=zo;have ht2:(t:Int)+m+1-1=((t+m:Nat):Int):=zo;have hn2:(m:Int)+1≤(t:Int)+m+1:=zo
  go_upto_region 8 with fail
  refine aR [(12,10)] _ (by simp only [iI,lH,List.push_toArray,List.cons_append,List.nil_append];exact rfl) (by intro c a d v w h;cases d <;> exact h) 12 (fun opIx=>match opIx with
   | 7=>.spec (RH) (default) (fun s=>.tuple #[s.v,.int .i64 0]) (fun x w'=>aB w' x cq)
   | 11=>.alloc 34 #[.bool false,.slice none 0 0,.slice none 0 0]
   | _=>.quiet) (fun _=>[]) kZ kZ kZ (fun w0 he0 hz0 hc0 hf0=>?_)
  replace he0:=Hi he0;simp only [pT];refine qQ ?_;refine wps he0 (fun w1 hW hG=>?_) fun x7=>?_
  ·exact spc [RH.v ⟨r8n,r8a,r8l,r8c,r8b,r8m,r8d⟩,RH.v ⟨rneg,ra,rn,rc,rb,rm,rd⟩] Tryz.func121 ((by rw [Hcq.out];exact cf _ _ _ _ _ ((HR8.out.ext hW).raw ((HRWk.out _ zo).sz hB1) zo) ((HC.out.ext hW).raw (HLQ.out.sz hU) zo) H0.out))
  refine qZ ?_;refine aM rfl rfl (fun w=>by simp [execOp,go_sem,ptr]) (fun b12 hb12 hl12=>?_);refine qZ ?_;refine aj ?_;intro w8 hI;have hE:=he0.out.trans hI.ext;have G7:=gT (hI.facts 7);have A12:Hid (w8.heap[b12]?=some (.cells #[.bool false,.slice none 0 0,.slice none 0 0] 34 (0,0))):=hI.facts 11;rw [hz0] at hl12;clear hI he0 hz0 hc0 hf0;refine mV8 hE ?_ LQ B7 B10 HX B6 HF HS HR;clear LQ B7 B10 HX B6 HF HS HR;intro LQ B7 B10 HX B6 HF HS HR;replace HC:=mV hE HC;have hs_w8:=hE.size;replace b_A12:=bX3 A12;simp only [pD,ptr];clear f1 f2 f3 ht2;clear HR8
  go_upto_region 9 with fail
  refine aU A12.out rfl ?_;intro w9 T;replace HX:=Hi (T.ext HX.out zo);replace LQ:=Hi (LQ.out.put T zo);replace B6:=Hi (T.rest _ _ zo B6.out);replace B7:=Hi (T.rest _ _ zo B7.out);replace B10:=Hi (T.rest _ _ zo B10.out);replace HC:=Hi (HC.out.keep T.keep);replace HF:=Hi (HF.out.keep T.keep);replace HS:=Hi (HS.out.put T zo);replace HR:=Hi (HR.out.put T zo);replace A12:=Hi (T.bx);replace G7:=Hi (G7.out.keep T.keep);have hs_w9:=nle T.size;have hr_w9:=nle T.size.symm;clear T;replace b_A12:=bX3 A12
  go_wp2_with fail
  refine cM (nB x7 cq _ G7.out) fun x10 w10 hE G10=>?_
  refine mV8 hE ?_ HX LQ B6 B7 B10 HC HF HS;clear HX LQ B6 B7 B10 HC HF HS;intro HX LQ B6 B7 B10 HC HF HS;replace HR:=mV hE HR;have hs_w10:=hE.size;obtain ⟨xn,xd⟩:=x10;have HN:Hid (aB w10 xn num):=Hi (by rw [HNUM.out];exact G10.out.1);have HD:Hid (aB w10 xd den):=Hi (by rw [HDEN.out];exact G10.out.2);clear G10;simp only [PT];clear G7
  go_upto_region 10 with fail
  (try clear b_A12);(try clear A12)
  refine kQ ?_;intro w11 hE B14 B15 hz_w11 hr_w11;refine mV8 hE ?_ HX LQ B6 B7 B10 HC HF HS;clear HX LQ B6 B7 B10 HC HF HS;intro HX LQ B6 B7 B10 HC HF HS;refine mV3 hE ?_ HR HN HD;clear HR HN HD;intro HR HN HD;obtain ⟨b14,hb14⟩:∃ b14,b14=w10.heap.size:=⟨_,rfl⟩;obtain ⟨b15,hb15⟩:∃ b15,b15=w10.heap.size+1:=⟨_,rfl⟩;have hb14r:wr.heap.size≤b14:=zo;have hb15r:wr.heap.size≤b15:=zo;have hb145:b14≠b15:=zo;rw [←hb15] at B15;rw [←hb14] at B14;rw [←hb15,←hb14];clear hb14 hb15;replace b_B15:=bX3 B15;obtain ⟨cc,hcc⟩:∃ cc,cc=dq den 1:=⟨_,rfl⟩;have Hcc:=Hi hcc;have HNW:Hid (Wz B num):=Hi HPA.out.1;have HDW:Hid (Wz U den):=Hi HPA.out.2;clear hcc;refine wpG 3 (fun opIx=>match opIx with
   | 1=>sR (((1:Int):Rat))
   | 2=>sU (.int .i64 cc)
   | _=>.quiet) (fun|2=>[1]|_=>[]) fun w0 he0 hz0 hc0 hf0=>?_
  refine wps he0 (fun w1 hW hG=>?_) fun x20=>?_
  ·exact spc [.int .i64 1] Tryz.func84 (aL 1 _ dZ dZ)
  refine qZ ?_;refine wps he0 (fun w1 hW hG=>?_) fun x21=>?_
  ·have g20:=gS (hG 1 dZ);exact spc [xd.v,x20.v] Tryz.func80 ((by rw [Hcc.out];exact eh _ _ _ _ _ ((HD.out.ext hW).raw (HDW.out.sz hU) zo) (g20.raw (Sz.int dZ) dZ)))
  refine qZ ?_;refine aj ?_;intro w12 hI;have hE:=he0.out.trans hI.ext;clear hI he0 hz0 hc0 hf0;refine mV8 hE ?_ B14 B15 HX LQ B6 B7 B10 HC;clear B14 B15 HX LQ B6 B7 B10 HC;intro B14 B15 HX LQ B6 B7 B10 HC;refine mV5 hE ?_ HF HS HR HN HD;clear HF HS HR HN HD;intro HF HS HR HN HD;replace b_B14:=bX3 B14;replace b_B15:=bX3 B15;simp only [pD];by_cases hcc0:cc=0
  case pos =>
   subst hcc0;have hd1:den=1:=wo.1 Hcc.out.symm;replace HS:=Hi (show bT w12 Ls (cV sl M den) by rw [hd1,oI];exact HS.out);replace HR:=Hi (show bT w12 Lr (cV ros (t+m+1) den) by rw [hd1,oI];exact HR.out);replace HF:=Hi (show aB w12 ⟨fn,fa,fl,fc,fb,fm,fd⟩ (f*den) by rw [hd1,Rat.mul_one];exact HF.out);clear hd1
   (try simp only [SH.v])
   have htM:(t:Int)<M:=zo;obtain ⟨r14,⟨f1,f2,f3⟩,-⟩:=bT.cells HS.out (k:=t) (by rw [aF,HSL.out];omega);have hfz:=bT.frozen HS.out
   go_upto_region 15 with fail
   refine iA (k:=t) HS.out (by rw [aF,HSL.out];omega) HN.out ?_;rintro y17 ⟨cs,T⟩ TN;clear f1 f2 f3 hfz;clear HD
   (try clear b_B15);(try clear B15)
   clear HS;replace HX:=Hi (T.ext HX.out zo);replace LQ:=Hi (LQ.out.put T zo);replace B6:=Hi (T.rest _ _ zo B6.out);replace B7:=Hi (T.rest _ _ zo B7.out);replace B10:=Hi (T.rest _ _ zo B10.out);replace HC:=Hi (HC.out.keep T.keep);replace HF:=Hi (HF.out.keep T.keep);replace HR:=Hi (HR.out.put T zo);replace HN:=Hi (HN.out.keep T.keep);replace B14:=Hi (T.rest _ _ zo B14.out);clear T;have HS:=Hi TN;clear TN;go_wp2
   go_loopg [86] (m+1) (fun g v wr=>∃ (k:Nat),k+g=m+1∧v=.int .i64 (k:Nat)∧Ext w wr∧LIn wr ⟨some ⟨b,off,none⟩,m+1,qc⟩ q 0 w.heap.size∧wr.heap[b6]?=some (.cells #[.bool false,.slice none 0 0,.slice none 0 0] 34 (0,0))∧wr.heap[b7]?=some (.cells #[.bool fn,.slice fa fl fc,.slice fb fm fd] 34 (0,0))∧wr.heap[b10]?=some (.cells #[.bool rneg,.slice ra rn rc,.slice rb rm rd] 34 (0,0))∧wr.heap[b14]?=some (.cells #[.bool xn.neg,.slice xn.a xn.n xn.c,.slice xn.b xn.m xn.d] 34 (0,0))∧aB wr ⟨rneg,ra,rn,rc,rb,rm,rd⟩ (aP q)∧aB wr ⟨fn,fa,fl,fc,fb,fm,fd⟩ (f*den)∧aB wr xn num∧bT wr Ls ((cV sl M den).set t num)∧bT wr Lr (gv (cV ros (t+m+1) den) t q num k))
   case atStart=>exact ⟨0,zo,rfl,HX.out,LQ.out,B6.out,B7.out,B10.out,B14.out,HC.out,HF.out,HN.out,HS.out,HR.out⟩
   case round =>
    obtain ⟨k,hk,rfl,g1,g2,g3,g4,g5,g6,g7,g8,g9,g10,g11⟩:=hrel;clear HX LQ B6 B7 B10 B14 HC HF HN HS HR;have HX:=Hi g1;have LQ:=Hi g2;have B6:=Hi g3;have B7:=Hi g4;have B10:=Hi g5;have B14:=Hi g6;have HC:=Hi g7;have HF:=Hi g8;have HN:=Hi g9;have HS:=Hi g10;have HR:=Hi g11;clear g1 g2 g3 g4 g5 g6 g7 g8 g9 g10 g11;by_cases h0:gk=0
    case neg =>
     have hin:(k:Int)<(m:Int)+1:=zo;obtain ⟨b',off',r17,hao,hbl,⟨hc1',hc2',hc3'⟩,hPc⟩:=LQ.out.celx (k:=k) zo;obtain ⟨rfl,rfl⟩:b=b'∧off=off':=by simpa using hao
     obtain ⟨qn,qa',ql,qc',qb,qm,qd⟩:=r17;simp only at hc1' hc2' hc3';have HQk:=Hi hPc;clear hPc hao
     go_upto_region 18 with fail
     clear hc1' hc2' hc3';refine nmA ?_;intro y18 hE B17 hz_y18 hr_y18;refine mV8 hE ?_ HX LQ B6 B7 B10 B14 HC HF;clear HX LQ B6 B7 B10 B14 HC HF;intro HX LQ B6 B7 B10 B14 HC HF;refine mV4 hE ?_ HN HS HR HQk;clear HN HS HR HQk;intro HN HS HR HQk;replace b_B14:=bX3 B14;replace b_B17:=bX3 B17;obtain ⟨r18,⟨f1,f2,f3⟩,hr18⟩:=bT.cells HR.out (k:=t+k) (by rw [aT,aF,HRL.out];omega);have hLl:=bT.lt HR.out;obtain ⟨sn,sa,sl',sc,sb,sm',sd⟩:=r18;simp only at f1 f2 f3;have HR18:=Hi hr18;clear hr18;have HRV:Hid (Wz (B+U) ((gv (cV ros (t+m+1) den) t q num k).getD (t+k) 0)):=Hi (by
      rw [ii _ _ _ _ _ (by rw [aF,HRL.out];omega),if_neg zo,mF _ (by rw [HRL.out];omega) zo];have:=(HRWk.out (t+k) zo).mul HDW.out;rw [ut];exact this)
     refine wpG 14 (fun opIx=>match opIx with
      | 12=>sR (num*q.getD k 0)
      | 13=>sR ((gv (cV ros (t+m+1) den) t q num k).getD (t+k) 0-num*q.getD k 0)
      | _=>.quiet) (fun|13=>[12]|_=>[]) fun w0 he0 hz0 hc0 hf0=>?_
     refine wps he0 (fun w1 hW hG=>?_) fun x22=>?_
     ·exact spc [xn.v,RH.v ⟨qn,qa',ql,qc',qb,qm,qd⟩] Tryz.func85 (aW _ _ _ _ _ ((HN.out.ext hW).raw (HNW.out.sz hB1) zo) ((HQk.out.ext hW).raw ((HQWk.out k zo).sz hU) zo))
     refine qZ ?_;refine wps he0 (fun w1 hW hG=>?_) fun x23=>?_
     ·have g22:=gS (hG 12 dZ);exact spc [RH.v ⟨sn,sa,sl',sc,sb,sm',sd⟩,x22.v] Tryz.func120 (dG _ x22 _ _ _ ((HR18.out.ext hW).raw (HRV.out.sz zo) zo) (g22.raw ((HNW.out.mul (HQWk.out k zo)).sz zo) zo))
     refine qZ ?_;refine aj ?_;intro y19 hI;have hE:=he0.out.trans hI.ext;have G23:=gT (hI.facts 13);clear hI he0 hz0 hc0 hf0;refine mV8 hE ?_ HX LQ B6 B7 B10 B14 HC HF;clear HX LQ B6 B7 B10 B14 HC HF;intro HX LQ B6 B7 B10 B14 HC HF;refine mV3 hE ?_ HS HR HN;clear HS HR HN;intro HS HR HN;simp only [pD];clear f1 f2 f3 hLl;clear HR18;clear HQk;obtain ⟨r19,⟨f1,f2,f3⟩,-⟩:=bT.cells HR.out (k:=t+k) (by rw [aT,aF,HRL.out];omega);have hfz:=bT.frozen HR.out
     go_upto_region 19 with fail
     refine iA (k:=t+k) HR.out (by rw [aT,aF,HRL.out];omega) G23.out ?_;rintro y20 ⟨cs,T⟩ TN;clear f1 f2 f3 hfz
     (try clear b_B17);(try clear B17)
     clear G23;clear HR;replace HX:=Hi (T.ext HX.out zo);replace LQ:=Hi (LQ.out.put T zo);replace B6:=Hi (T.rest _ _ zo B6.out);replace B7:=Hi (T.rest _ _ zo B7.out);replace B10:=Hi (T.rest _ _ zo B10.out);replace B14:=Hi (T.rest _ _ zo B14.out);replace HC:=Hi (HC.out.keep T.keep);replace HF:=Hi (HF.out.keep T.keep);replace HN:=Hi (HN.out.keep T.keep);replace HS:=Hi (HS.out.put T zo);clear T;have HR:=Hi TN;clear TN;go_wp2
     go_roundg (gk-1)
     case measure=>omega
     case rel=>exact ⟨k+1,zo,by go_num,HX.out,LQ.out,B6.out,B7.out,B10.out,B14.out,HC.out,HF.out,HN.out,HS.out,HR.out⟩
    subst h0;obtain rfl:k=m+1:=by omega
    have hin:¬ ((m:Int)+1<(m:Int)+1):=zo;obtain ⟨hI2,hW2⟩:=HI.out.row HQl.out (by rw [HRL.out];omega) HSL.out H0.out HQW.out HCQ.out HNUM.out HDEN.out;have HI2:=Hi hI2;have HRN:Hid (aD wr ⟨some ⟨Lr,0,none⟩,t+m+1,c⟩ ((gv (cV ros (t+m+1) den) t q num (m+1)).take (t+m+1))):=Hi ((HR.out.can (by rw [aT,aF,HRL.out]) hc1 hcmx).take hnP);have HSZ:Hid (SzL (S+j*(U+1)+U+1) ((gv (cV ros (t+m+1) den) t q num (m+1)).take (t+m+1))):=Hi (fun x hx=>(hW2 x hx).sz zo);clear hI2 hW2;have hBz2:S+j*(U+1)≤30000000:=by have:=HI.out.bnd.1;rw [HPl.out,HQl.out,show M+m+1-(m+1)=M by omega] at this;omega
    go_wp2_with fail
    refine cM (ek (some ⟨Lr,0,none⟩) (t+m+1) c _ _ (HRN.out.raw HSZ.out zo)) fun x24 w24 hE G24=>?_
    refine mV8 hE ?_ HX LQ B6 B7 B10 HC HF HS;clear HX LQ B6 B7 B10 HC HF HS;intro HX LQ B6 B7 B10 HC HF HS;replace HR:=mV hE HR;obtain ⟨q1,q2⟩:=G24.out;have HQ1:=Hi q1;clear q1 G24;go_wp2
    go_roundg (g0-1)
    case measure=>omega
    case rel =>
     refine ⟨_,j+1,zo,rfl,⟨(cV sl M den).set t num,gv (cV ros (t+m+1) den) t q num (m+1),f*den,⟨fn,fa,fl,fc,fb,fm,fd⟩,B7.out,HF.out,HS.out,HR.out,by rw [aT,aF,HRL.out],zo,?_⟩,HX.out,LQ.out,B6.out,B10.out,HC.out⟩;have h1:=HI2.out;rw [HQ1.out,List.take_take,Nat.min_eq_left zo] at h1;exact h1
  have hccb:(cc == 0)=false:=by simpa using hcc0
  clear hcc0
  (try simp only [SH.v])
  go_wp2_with fail
  refine Calls.mono (sZ Ls M M sl xd den B U _ HS.out (by rw [HSL.out];exact nXe _) HD.out (by rw [HSL.out];omega) (fun x hx=>(HSW.out x (List.mem_of_mem_take hx)).sz hB1) (HDW.out.sz hU) zo) ?_;rintro e w13 ⟨rfl,T,TN⟩;clear HS;replace HX:=Hi (T.ext HX.out zo);replace LQ:=Hi (LQ.out.mut T zo);replace B6:=Hi (T.rest _ _ zo B6.out);replace B7:=Hi (T.rest _ _ zo B7.out);replace B10:=Hi (T.rest _ _ zo B10.out);replace HC:=Hi (HC.out.keep T.keep);replace HF:=Hi (HF.out.keep T.keep);replace HR:=Hi (HR.out.mut T zo);replace HN:=Hi (HN.out.keep T.keep);replace HD:=Hi (HD.out.keep T.keep);replace B14:=Hi (T.rest _ _ zo B14.out);replace B15:=Hi (T.rest _ _ zo B15.out);clear T;replace b_B15:=bX3 B15;have HS:=Hi TN;clear TN
  go_wp2_with fail
  refine Calls.mono (sZ Lr (t+m+1) c ros xd den B U _ HR.out (by rw [HRL.out];exact hnP) HD.out (by rw [HRL.out];omega) (fun x hx=>(HRW.out x hx).sz hB1) (HDW.out.sz hU) zo) ?_;rintro e w14 ⟨rfl,T,TN⟩;clear HR;replace HX:=Hi (T.ext HX.out zo);replace LQ:=Hi (LQ.out.mut T zo);replace B6:=Hi (T.rest _ _ zo B6.out);replace B7:=Hi (T.rest _ _ zo B7.out);replace B10:=Hi (T.rest _ _ zo B10.out);replace HC:=Hi (HC.out.keep T.keep);replace HF:=Hi (HF.out.keep T.keep);replace HN:=Hi (HN.out.keep T.keep);replace HD:=Hi (HD.out.keep T.keep);replace B14:=Hi (T.rest _ _ zo B14.out);replace B15:=Hi (T.rest _ _ zo B15.out);replace HS:=Hi (HS.out.mut T zo);clear T;replace b_B7:=bX3 B7;replace b_B15:=bX3 B15;have HR:=Hi TN;clear TN
  go_wp2_with fail
  refine cM (aW ⟨fn,fa,fl,fc,fb,fm,fd⟩ xd f den _ (HF.out.raw (HFW.out.sz zo) zo) (HD.out.raw (HDW.out.sz hU) zo)) fun x15 w15 hE G15=>?_
  refine mV8 hE ?_ HX LQ B6 B7 B10 HC HN B14;clear HX LQ B6 B7 B10 HC HN B14;intro HX LQ B6 B7 B10 HC HN B14;refine mV2 hE ?_ HS HR;clear HS HR;intro HS HR;replace b_B7:=bX3 B7;obtain ⟨gn,ga,gl,gc,gb,gm,gd⟩:=x15
  go_upto_region 14 with fail
  refine aU B7.out rfl ?_;intro w16 T;replace HX:=Hi (T.ext HX.out zo);replace LQ:=Hi (LQ.out.put T zo);replace B6:=Hi (T.rest _ _ zo B6.out);replace B7:=Hi (T.bx);replace B10:=Hi (T.rest _ _ zo B10.out);replace HC:=Hi (HC.out.keep T.keep);replace HN:=Hi (HN.out.keep T.keep);replace B14:=Hi (T.rest _ _ zo B14.out);replace HS:=Hi (HS.out.put T zo);replace HR:=Hi (HR.out.put T zo);replace G15:=Hi (G15.out.keep T.keep);clear T;replace b_B14:=bX3 B14;clear HF;have HF:=Hi G15.out;clear G15
  (try simp only [SH.v])
  have htM:(t:Int)<M:=zo;obtain ⟨r14,⟨f1,f2,f3⟩,-⟩:=bT.cells HS.out (k:=t) (by rw [aF,HSL.out];omega);have hfz:=bT.frozen HS.out
  go_upto_region 15 with fail
  refine iA (k:=t) HS.out (by rw [aF,HSL.out];omega) HN.out ?_;rintro y17 ⟨cs,T⟩ TN;clear f1 f2 f3 hfz;clear HD
  (try clear b_B15);(try clear B15)
  clear HS;replace HX:=Hi (T.ext HX.out zo);replace LQ:=Hi (LQ.out.put T zo);replace B6:=Hi (T.rest _ _ zo B6.out);replace B7:=Hi (T.rest _ _ zo B7.out);replace B10:=Hi (T.rest _ _ zo B10.out);replace HC:=Hi (HC.out.keep T.keep);replace HN:=Hi (HN.out.keep T.keep);replace B14:=Hi (T.rest _ _ zo B14.out);replace HR:=Hi (HR.out.put T zo);replace HF:=Hi (HF.out.keep T.keep);clear T;have HS:=Hi TN;clear TN;go_wp2
  go_loopg [86] (m+1) (fun g v wr=>∃ (k:Nat),k+g=m+1∧v=.int .i64 (k:Nat)∧Ext w wr∧LIn wr ⟨some ⟨b,off,none⟩,m+1,qc⟩ q 0 w.heap.size∧wr.heap[b6]?=some (.cells #[.bool false,.slice none 0 0,.slice none 0 0] 34 (0,0))∧wr.heap[b7]?=some (.cells #[.bool gn,.slice ga gl gc,.slice gb gm gd] 34 (0,0))∧wr.heap[b10]?=some (.cells #[.bool rneg,.slice ra rn rc,.slice rb rm rd] 34 (0,0))∧wr.heap[b14]?=some (.cells #[.bool xn.neg,.slice xn.a xn.n xn.c,.slice xn.b xn.m xn.d] 34 (0,0))∧aB wr ⟨rneg,ra,rn,rc,rb,rm,rd⟩ (aP q)∧aB wr ⟨gn,ga,gl,gc,gb,gm,gd⟩ (f*den)∧aB wr xn num∧bT wr Ls ((cV sl M den).set t num)∧bT wr Lr (gv (cV ros (t+m+1) den) t q num k))
  case atStart=>exact ⟨0,zo,rfl,HX.out,LQ.out,B6.out,B7.out,B10.out,B14.out,HC.out,HF.out,HN.out,HS.out,HR.out⟩
  case round =>
   obtain ⟨k,hk,rfl,g1,g2,g3,g4,g5,g6,g7,g8,g9,g10,g11⟩:=hrel;clear HX LQ B6 B7 B10 B14 HC HF HN HS HR;have HX:=Hi g1;have LQ:=Hi g2;have B6:=Hi g3;have B7:=Hi g4;have B10:=Hi g5;have B14:=Hi g6;have HC:=Hi g7;have HF:=Hi g8;have HN:=Hi g9;have HS:=Hi g10;have HR:=Hi g11;clear g1 g2 g3 g4 g5 g6 g7 g8 g9 g10 g11;by_cases h0:gk=0
   case neg =>
    have hin:(k:Int)<(m:Int)+1:=zo;obtain ⟨b',off',r17,hao,hbl,⟨hc1',hc2',hc3'⟩,hPc⟩:=LQ.out.celx (k:=k) zo;obtain ⟨rfl,rfl⟩:b=b'∧off=off':=by simpa using hao
    obtain ⟨qn,qa',ql,qc',qb,qm,qd⟩:=r17;simp only at hc1' hc2' hc3';have HQk:=Hi hPc;clear hPc hao
    go_upto_region 18 with fail
    clear hc1' hc2' hc3';refine nmA ?_;intro y18 hE B17 hz_y18 hr_y18;refine mV8 hE ?_ HX LQ B6 B7 B10 B14 HC HF;clear HX LQ B6 B7 B10 B14 HC HF;intro HX LQ B6 B7 B10 B14 HC HF;refine mV4 hE ?_ HN HS HR HQk;clear HN HS HR HQk;intro HN HS HR HQk;replace b_B14:=bX3 B14;replace b_B17:=bX3 B17;obtain ⟨r18,⟨f1,f2,f3⟩,hr18⟩:=bT.cells HR.out (k:=t+k) (by rw [aT,aF,HRL.out];omega);have hLl:=bT.lt HR.out;obtain ⟨sn,sa,sl',sc,sb,sm',sd⟩:=r18;simp only at f1 f2 f3;have HR18:=Hi hr18;clear hr18;have HRV:Hid (Wz (B+U) ((gv (cV ros (t+m+1) den) t q num k).getD (t+k) 0)):=Hi (by
     rw [ii _ _ _ _ _ (by rw [aF,HRL.out];omega),if_neg zo,mF _ (by rw [HRL.out];omega) zo];have:=(HRWk.out (t+k) zo).mul HDW.out;rw [ut];exact this)
    refine wpG 14 (fun opIx=>match opIx with
     | 12=>sR (num*q.getD k 0)
     | 13=>sR ((gv (cV ros (t+m+1) den) t q num k).getD (t+k) 0-num*q.getD k 0)
     | _=>.quiet) (fun|13=>[12]|_=>[]) fun w0 he0 hz0 hc0 hf0=>?_
    refine wps he0 (fun w1 hW hG=>?_) fun x22=>?_
    ·exact spc [xn.v,RH.v ⟨qn,qa',ql,qc',qb,qm,qd⟩] Tryz.func85 (aW _ _ _ _ _ ((HN.out.ext hW).raw (HNW.out.sz hB1) zo) ((HQk.out.ext hW).raw ((HQWk.out k zo).sz hU) zo))
    refine qZ ?_;refine wps he0 (fun w1 hW hG=>?_) fun x23=>?_
    ·have g22:=gS (hG 12 dZ);exact spc [RH.v ⟨sn,sa,sl',sc,sb,sm',sd⟩,x22.v] Tryz.func120 (dG _ x22 _ _ _ ((HR18.out.ext hW).raw (HRV.out.sz zo) zo) (g22.raw ((HNW.out.mul (HQWk.out k zo)).sz zo) zo))
    refine qZ ?_;refine aj ?_;intro y19 hI;have hE:=he0.out.trans hI.ext;have G23:=gT (hI.facts 13);clear hI he0 hz0 hc0 hf0;refine mV8 hE ?_ HX LQ B6 B7 B10 B14 HC HF;clear HX LQ B6 B7 B10 B14 HC HF;intro HX LQ B6 B7 B10 B14 HC HF;refine mV3 hE ?_ HS HR HN;clear HS HR HN;intro HS HR HN;simp only [pD];clear f1 f2 f3 hLl;clear HR18;clear HQk;obtain ⟨r19,⟨f1,f2,f3⟩,-⟩:=bT.cells HR.out (k:=t+k) (by rw [aT,aF,HRL.out];omega);have hfz:=bT.frozen HR.out
    go_upto_region 19 with fail
    refine iA (k:=t+k) HR.out (by rw [aT,aF,HRL.out];omega) G23.out ?_;rintro y20 ⟨cs,T⟩ TN;clear f1 f2 f3 hfz
    (try clear b_B17);(try clear B17)
    clear G23;clear HR;replace HX:=Hi (T.ext HX.out zo);replace LQ:=Hi (LQ.out.put T zo);replace B6:=Hi (T.rest _ _ zo B6.out);replace B7:=Hi (T.rest _ _ zo B7.out);replace B10:=Hi (T.rest _ _ zo B10.out);replace B14:=Hi (T.rest _ _ zo B14.out);replace HC:=Hi (HC.out.keep T.keep);replace HF:=Hi (HF.out.keep T.keep);replace HN:=Hi (HN.out.keep T.keep);replace HS:=Hi (HS.out.put T zo);clear T;have HR:=Hi TN;clear TN;go_wp2
    go_roundg (gk-1)
    case measure=>omega
    case rel=>exact ⟨k+1,zo,by go_num,HX.out,LQ.out,B6.out,B7.out,B10.out,B14.out,HC.out,HF.out,HN.out,HS.out,HR.out⟩
   subst h0;obtain rfl:k=m+1:=by omega
   have hin:¬ ((m:Int)+1<(m:Int)+1):=zo;obtain ⟨hI2,hW2⟩:=HI.out.row HQl.out (by rw [HRL.out];omega) HSL.out H0.out HQW.out HCQ.out HNUM.out HDEN.out;have HI2:=Hi hI2;have HRN:Hid (aD wr ⟨some ⟨Lr,0,none⟩,t+m+1,c⟩ ((gv (cV ros (t+m+1) den) t q num (m+1)).take (t+m+1))):=Hi ((HR.out.can (by rw [aT,aF,HRL.out]) hc1 hcmx).take hnP);have HSZ:Hid (SzL (S+j*(U+1)+U+1) ((gv (cV ros (t+m+1) den) t q num (m+1)).take (t+m+1))):=Hi (fun x hx=>(hW2 x hx).sz zo);clear hI2 hW2;have hBz2:S+j*(U+1)≤30000000:=by have:=HI.out.bnd.1;rw [HPl.out,HQl.out,show M+m+1-(m+1)=M by omega] at this;omega
   go_wp2_with fail
   refine cM (ek (some ⟨Lr,0,none⟩) (t+m+1) c _ _ (HRN.out.raw HSZ.out zo)) fun x24 w24 hE G24=>?_
   refine mV8 hE ?_ HX LQ B6 B7 B10 HC HF HS;clear HX LQ B6 B7 B10 HC HF HS;intro HX LQ B6 B7 B10 HC HF HS;replace HR:=mV hE HR;obtain ⟨q1,q2⟩:=G24.out;have HQ1:=Hi q1;clear q1 G24;go_wp2
   go_roundg (g0-1)
   case measure=>omega
   case rel =>
    refine ⟨_,j+1,zo,rfl,⟨(cV sl M den).set t num,gv (cV ros (t+m+1) den) t q num (m+1),f*den,⟨gn,ga,gl,gc,gb,gm,gd⟩,B7.out,HF.out,HS.out,HR.out,by rw [aT,aF,HRL.out],zo,?_⟩,HX.out,LQ.out,B6.out,B10.out,HC.out⟩;have h1:=HI2.out;rw [HQ1.out,List.take_take,Nat.min_eq_left zo] at h1;exact h1
theorem SzL.scale{s c:Nat}{l:List Rat}{S:Rat}(h:SzL s l)(hS:Sz c S):SzL (s+c) (l.map (·*S)):=by
 intro q hq;obtain ⟨y,hy,rfl⟩:=nYg.1 hq;exact (h y hy).mul hS
theorem vA{n m:Nat}{f:Nat→Rat}(h:n≤m)(h0:∀ i,n≤i→i<m→f i=0):Stab.sm n f=Stab.sm m f:=by
 obtain ⟨d,rfl⟩:∃ d,m=n+d:=⟨m-n,zo⟩;rw [Stab.sm_split,Stab.sm_congr (n:=d) (g:=fun _=>0) (fun i hi=>h0 (n+i) zo zo),Stab.sm_zero];grind
theorem Fr.mono{S S' D:Nat}{q:Rat}(h:Fr S D q)(hS:S≤S'):Fr S' D q:=Wz.mono (q:=q*(D:Rat)) h hS
theorem Fr.add{S D:Nat}{a b:Rat}(ha:Fr S D a)(hb:Fr S D b):Fr (S+1) D (a+b):=by
 have:=Wz.add (a:=a*(D:Rat)) (b:=b*(D:Rat)) ha hb;rw [←Rat.add_mul] at this;exact this
theorem Fr.mul{S U D E:Nat}{a b:Rat}(ha:Fr S D a)(hb:Fr U E b):Fr (S+U) (D*E) (a*b):=by
 have:=Wz.mul (a:=a*(D:Rat)) (b:=b*(E:Rat)) ha hb;have e:a*b*((D*E:Nat):Rat)=a*(D:Rat)*(b*(E:Rat)):=by rw [Rat.natCast_mul];grind
 unfold Fr;rw [e];exact this
theorem Fr.one{S:Nat}{q:Rat}(h:Wz S q):Fr S 1 q:=by
 unfold Fr;rw [show q*((1:Nat):Rat)=q from Rat.mul_one q];exact h
theorem Fr.wz{S:Nat}{q:Rat}(h:Fr S 1 q):Wz S q:=by
 unfold Fr at h;rw [show q*((1:Nat):Rat)=q from Rat.mul_one q] at h;exact h
theorem Wz.nat{S n:Nat}(h:n<W32 ^ S):Wz S ((n:Nat):Rat):=by
 have:=Wz.int (S:=S) (z:=(n:Int)) (by simpa using h);exact this
theorem Fr.den{S U D E:Nat}{a:Rat}(ha:Fr S D a)(hE:E<W32 ^ U):Fr (S+U) (D*E) a:=by
 have:=Wz.mul (a:=a*(D:Rat)) (b:=(E:Rat)) ha (Wz.nat hE);have e:a*((D*E:Nat):Rat)=a*(D:Rat)*(E:Rat):=by rw [Rat.natCast_mul];grind
 unfold Fr;rw [e];exact this
theorem Fr.denl{S U D E:Nat}{a:Rat}(ha:Fr S D a)(hE:E<W32 ^ U):Fr (S+U) (E*D) a:=by rw [nYf];exact ha.den hE
theorem Ge{S:Nat}{f:Nat→Rat}:∀ n,(∀ i,i<n→Wz S (f i))→Wh (sm n f)∧(sm n f).num.natAbs+n≤n*W32 ^ S:=by
 intro n;induction n with
 | zero=>intro _;exact ⟨rfl,Nat.zero_le (0*W32 ^ S)⟩
 | succ n ih =>
  intro h;obtain ⟨h1,h2⟩:=ih (fun i hi=>h i zo);obtain ⟨h3,h4⟩:=h n zo;show Wh (sm n f+f n)∧(sm n f+f n).num.natAbs+(n+1)≤_;refine ⟨h1.add h3,?_⟩;have e:(sm n f+f n)=(((sm n f).num+(f n).num:Int):Rat):=by rw [Rat.intCast_add,←h1.eq,←h3.eq]
  rw [e,Rat.num_intCast];have:=Int.natAbs_add_le (sm n f).num (f n).num;rw [nXz];omega
theorem Wz.sm{S n:Nat}{f:Nat→Rat}(h:∀ i,i<n→Wz S (f i))(hn:n≤W32):Wz (S+1) (sm n f):=by
 obtain ⟨h1,h2⟩:=Ge n h;refine ⟨h1,?_⟩;have h3:n*W32 ^ S≤W32 ^ (S+1):=by rw [nXu,nYf];exact nXg _ hn
 rcases Nat.eq_zero_or_pos n with h0|h0
 ·subst h0;have h4:(Stab.sm 0 f).num.natAbs=0:=rfl;have:=nYn (n:=S+1) aw;omega
 ·omega
theorem Fr.sm{S D n:Nat}{f:Nat→Rat}(h:∀ i,i<n→Fr S D (f i))(hn:n≤W32):Fr (S+1) D (sm n f):=by
 have:=Wz.sm (f:=fun i=>f i*(D:Rat)) (S:=S) (n:=n) h hn;have e:Stab.sm n (fun i=>f i*(D:Rat))=Stab.sm n f*(D:Rat):=by
  rw [sm_congr (g:=fun i=>(D:Rat)*f i) (fun i _=>nYd _ _),lY,nYd]
 rw [e] at this;exact this
def FrL(S D:Nat)(l:List Rat):Prop:=∀ x ∈ l,Fr S D x
theorem FrL.mono{S S' D:Nat}{l:List Rat}(h:FrL S D l)(hS:S≤S'):FrL S' D l:=fun x hx=>(h x hx).mono hS
theorem FrL.at{S D:Nat}{l:List Rat}(h:FrL S D l)(i:Nat):Fr S D (l.getD i 0):=by
 rcases Nat.lt_or_ge i l.length with hi|hi
 ·exact h _ (fj hi)
 ·rw [bK hi];exact Fr.zero _ _
theorem FrL.of{S D:Nat}{l:List Rat}(h:∀ i,Fr S D (l.getD i 0)):FrL S D l:=fun x hx=>by
 obtain ⟨i,-,rfl⟩:=dK hx;exact h i
theorem FrL.tz{S D:Nat}{l:List Rat}(h:FrL S D l):FrL S D (tz l):=FrL.of fun i=>by rw [br];exact h.at i
theorem FrL.den{S U D E:Nat}{l:List Rat}(h:FrL S D l)(hE:E<W32 ^ U):FrL (S+U) (D*E) l:=fun x hx=>(h x hx).den hE
theorem FrL.denl{S U D E:Nat}{l:List Rat}(h:FrL S D l)(hE:E<W32 ^ U):FrL (S+U) (E*D) l:=fun x hx=>(h x hx).denl hE
theorem FrL.sz{S D:Nat}{l:List Rat}(h:FrL S D l)(hS:1≤S)(hD:0<D)(hl:D<W32 ^ S):SzL S l:=fun x hx=>(h x hx).sz hS hD hl
theorem FrL.range{S D n:Nat}{f:Nat→Rat}(h:∀ i,i<n→Fr S D (f i)):FrL S D ((List.range n).map f):=fun x hx=>by
 obtain ⟨i,hi,rfl⟩:=nYg.1 hx;exact h i (List.mem_range.1 hi)
theorem GX{S U D E:Nat}{p q:List Rat}(hp:FrL S D p)(hq:FrL U E q)(hl:p.length≤W32)(n:Nat):Fr (S+U+1) (D*E) (ap p (seq q) n):=by
 rw [ap_sum];refine Fr.sm (fun i _=>(hp.at i).mul ?_) hl;unfold shn;split
 ·exact hq.at _
 ·exact Fr.zero _ _
theorem CX{S U D E:Nat}{p q:List Rat}(hp:FrL S D p)(hq:FrL U E q)(hl:p.length≤W32):FrL (S+U+1) (D*E) (aq p q):=by
 unfold aq;exact FrL.tz (FrL.range fun i _=>GX hp.tz hq.tz (nXf (ae p) hl) i)
theorem D5{S D:Nat}{p q:List Rat}(hp:FrL S D p)(hq:FrL S D q):FrL (S+1) D (bA p q):=by
 unfold bA;exact FrL.tz (FrL.range fun i _=>(hp.at i).add (hq.at i))
theorem Hg{k i:Nat}(hk:k≤20):Wz 1 (Tf k i):=by
 have h:=(yx k).1;have hb:3 ^ k<W32 ^ 1:=nYl (nXp dZ hk) dZ;unfold Tf;rcases Nat.lt_or_ge i (chP k).1.length with hi|hi
 ·obtain ⟨h1,h2⟩:=h _ (fj hi);exact ⟨h1,nYl h2 hb⟩
 ·rw [bK hi];exact Wz.zero 1
theorem BD{S U D:Nat}{L x:Rat}(hL:Wz U L)(h:Wz S (x*(D:Rat)*L)):Fr S (D*L.num.natAbs) x:=by
 have e0:x*((D*L.num.natAbs:Nat):Rat)=x*(D:Rat)*((L.num.natAbs:Nat):Rat):=by rw [Rat.natCast_mul,nYe]
 unfold Fr;rw [e0];have e1:=hL.1.eq;have e2:((L.num.natAbs:Nat):Rat)=(((L.num.natAbs:Nat):Int):Rat):=rfl;rcases Int.natAbs_eq L.num with h1|h1
 ·rw [e2,←h1,←e1];exact h
 ·have e3:(((L.num.natAbs:Nat):Int):Rat)=-L:=by
   have:((L.num.natAbs:Nat):Int)=-L.num:=by omega
   rw [this,Rat.intCast_neg,←e1]
  rw [e2,e3,Rat.mul_neg];exact h.neg
theorem lJ{U E:Nat}{q:List Rat}(hq:FrL U E q):Wz U (aP q*(E:Rat)):=hq.at _
def ldD(q:List Rat)(E:Nat):Nat:=(aP q*(E:Rat)).num.natAbs
theorem tu{U E:Nat}{q:List Rat}(hq:FrL U E q):ldD q E<W32 ^ U:=(lJ hq).2
theorem oM{U E:Nat}{q:List Rat}(hq:FrL U E q)(h0:aP q≠0)(hE:0<E):0<ldD q E:=by
 rcases Nat.eq_zero_or_pos (ldD q E) with h|h
 ·exfalso;have h1:(aP q*(E:Rat)).num=0:=by unfold ldD at h;omega
  have h2:=(lJ hq).1.eq;rw [h1] at h2;rcases nXr.1 h2 with h3|h3
  ·exact h0 h3
  ·have:((E:Nat):Rat)=(((E:Nat):Int):Rat):=rfl;rw [this] at h3;have h4:=congrArg Rat.num h3;rw [Rat.num_intCast] at h4;have:((0:Rat)).num=0:=rfl;omega
 ·exact h
theorem sO{S U D E:Nat}{p q:List Rat}(hp:FrL S D p)(hq:FrL U E q)(h0:aP q≠0):FrL (S+U+1) (D*ldD q E) (et p q):=by
 unfold et;refine FrL.tz (FrL.range fun i _=>?_);refine BD (lJ hq) ?_;have h1:Wz (S+U) (p.getD i 0*(D:Rat)*(aP q*(E:Rat))):=Wz.mul (hp.at i) (lJ hq);have h2:Wz (S+U) (aP p*(D:Rat)*(q.getD (i-(p.length-q.length)) 0*(E:Rat))):=Wz.mul (hp.at _) (hq.at _);have h3:=dJ (a:=aP p) h0;split
 ·have e:(p.getD i 0-aP p / aP q*q.getD (i-(p.length-q.length)) 0)*(D:Rat)*(aP q*(E:Rat))=p.getD i 0*(D:Rat)*(aP q*(E:Rat))-aP p*(D:Rat)*(q.getD (i-(p.length-q.length)) 0*(E:Rat)):=by
   generalize aP p / aP q=c at *
   rw [←h3];grind
  rw [e];exact h1.sub h2
 ·have e:(p.getD i 0-0)*(D:Rat)*(aP q*(E:Rat))=p.getD i 0*(D:Rat)*(aP q*(E:Rat)):=by grind
  rw [e];exact h1.mono zo
theorem wI{S D:Nat}{p:List Rat}(hp:FrL S D p):FrL S (ldD (tz p) D) (bI p):=by
 unfold bI;split
 ·intro x hx;simp at hx
 ·next h =>
  refine FrL.tz fun x hx=>?_
  obtain ⟨y,hy,rfl⟩:=nYg.1 hx;have h1:=BD (S:=S) (D:=1) (x:=y*(((1:Int):Rat) / aP (tz p))) (lJ hp.tz) (by
   have h2:=dJ (a:=((1:Int):Rat)) (co h);have e:y*(((1:Int):Rat) / aP (tz p))*((1:Nat):Rat)*(aP (tz p)*(D:Rat))=y*(D:Rat):=by
    have h3:((1:Int):Rat)=1:=rfl;have h4:((1:Nat):Rat)=1:=rfl;rw [h4];rw [h3] at h2 ⊢;generalize 1 / aP (tz p)=c at *
    grind
   rw [e];exact hp.tz y hy)
  rwa [Nat.one_mul] at h1
theorem GV(p:List Rat)(u:Nat→Rat):ap (tz p) u=ap p u:=by rw [iH,iH,bf]
theorem eD(p q:List Rat):seq (aq p q)=ap p (seq q):=by rw [Ad,GV,bf]
theorem DD(c:Rat)(s u:Nat→Rat):cv u (fun n=>c*s n)=fun n=>c*cv u s n:=by rw [fQ,fG,fQ s]
def FrB(S:Nat)(l:List Rat):Prop:=1≤S∧∃ D,0<D∧D<W32 ^ S∧FrL S D l
theorem nT{S U:Nat}(h:S≤U):W32 ^ S≤W32 ^ U:=nXp aw h
theorem FrB.mono{S U:Nat}{l:List Rat}(h:FrB S l)(hS:S≤U):FrB U l:=by
 obtain ⟨h0,D,h1,h2,h3⟩:=h;exact ⟨zo,D,h1,nXn h2 (nT hS),h3.mono hS⟩
theorem FrB.sz{S:Nat}{l:List Rat}(h:FrB S l):SzL S l:=by
 obtain ⟨h0,D,h1,h2,h3⟩:=h;exact h3.sz h0 h1 h2
theorem FrB.tz{S:Nat}{l:List Rat}(h:FrB S l):FrB S (tz l):=by
 obtain ⟨h0,D,h1,h2,h3⟩:=h;exact ⟨h0,D,h1,h2,h3.tz⟩
theorem te{S U D E:Nat}(hD:D<W32 ^ S)(hE:E<W32 ^ U)(h:0<E):D*E<W32 ^ (S+U):=by
 rw [Nat.pow_add];exact Nat.mul_lt_mul_of_lt_of_lt hD hE
theorem FrB.mul{S U:Nat}{p q:List Rat}(hp:FrB S p)(hq:FrB U q)(hl:p.length≤1000000):FrB (S+U+1) (aq p q):=by
 obtain ⟨h0,D,h1,h2,h3⟩:=hp;obtain ⟨k0,E,k1,k2,k3⟩:=hq;exact ⟨zo,D*E,Nat.mul_pos h1 k1,nXn (te h2 k2 k1) (nT zo),CX h3 k3 (nXf hl dZ)⟩
theorem FrB.add{S U:Nat}{p q:List Rat}(hp:FrB S p)(hq:FrB U q):FrB (S+U+1) (bA p q):=by
 obtain ⟨h0,D,h1,h2,h3⟩:=hp;obtain ⟨k0,E,k1,k2,k3⟩:=hq;refine ⟨zo,D*E,Nat.mul_pos h1 k1,nXn (te h2 k2 k1) (nT zo),D5 (h3.den k2) ?_⟩;have:=k3.denl h2
 rwa [nYj U S] at this
theorem FrB.neg{S:Nat}{p:List Rat}(hp:FrB S p):FrB S (p.map (fun x=>-x)):=by
 obtain ⟨h0,D,h1,h2,h3⟩:=hp;exact ⟨h0,D,h1,h2,fun x hx=>by
  obtain ⟨y,hy,rfl⟩:=nYg.1 hx;exact (h3 y hy).neg⟩
theorem FrB.of{k n:Nat}{p:List Rat}(h:SzL k p)(hl:p.length≤n):FrB (k*(n+1)+1) p:=by
 obtain ⟨D,h1,h2,h3⟩:=BC p h;have e:=nXg k (show p.length+1≤n+1 by omega);have e2:=nXg k (show p.length≤n+1 by omega);exact ⟨zo,D,h1,nXn h2 (nT zo),FrL.mono h3 zo⟩
theorem FrB.nil:FrB 1 []:=⟨dZ,1,dZ,dZ,fun x hx=>by simp at hx⟩
end Go.Proofs.YtafgmcimcbhhjaaGreat
