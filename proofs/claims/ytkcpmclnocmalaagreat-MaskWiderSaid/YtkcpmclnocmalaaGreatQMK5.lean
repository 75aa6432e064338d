import Derived.Test.YtkcpmclnocmalaaGreatQMK4
import Derived.Test.YtkcpmclnocmalaaGreatQMM25
set_option linter.unusedVariables false
namespace Go.Proofs.YtkcpmclnocmalaaGreat
open Go.RowKit Go.Front Go.Num Stab
attribute [local go_sem] XW.cell XW.frozen
structure SvL (w wr:World) (p q:List Rat) (S U:Nat) (qo:Option Addr) (m qc Lr b10 c:Nat) (z:RH) (P n j:Nat):Prop where
 ex:∃ (sl ros:List Rat) (f:Rat),aH wr Lr ros∧ros.length=P∧n≤P∧0<f∧DvI p q S U j sl (ros.take n) f
 hx:Ext w wr
 lq:LIn wr ⟨qo,m+1,qc⟩ q 0 w.heap.size
 B10:wr.heap[b10]?=some (.cells #[.bool z.neg,.slice z.a z.n z.c,.slice z.b z.m z.d] 37 (0,0))
 hz:aA wr z (bL q)
def SrP(p q:List Rat)(S U B:Nat)(x:SH)(w:World):Prop:=∃ L n c ros s f,B≤L∧x=⟨some ⟨L,0,none⟩,n,c⟩∧aH w L ros∧n≤ros.length∧ros.length≤c∧c≤9223372036854775807∧0<f∧DvP p q S U s (ros.take n) f
theorem rP(c:Rat):0<(((c.den:Nat):Int):Rat):=by
 have:=c.den_pos
 exact_mod_cast this
set_option maxRecDepth 8000 in
set_option maxHeartbeats 8000000 in
theorem xJ(pa qa:Option Addr)(P pc m qc:Nat)(p q:List Rat)(S U:Nat)(w:World)(hp:bg w ⟨pa,P,pc⟩ p)(hq:bg w ⟨qa,m+1,qc⟩ q)(hpw:∀ x ∈ p,Wz S x)(hqw:∀ x ∈ q,Wz U x)(hS:1≤S)(hU:1≤U)(htp:tz p=p)(htq:tz q=q)(hP:P≤100000)(hmP:m<P)(hsz:S+(P-m)*(U+1)≤30000000)(hUz:U≤30000000) :
  ar 196 [.slice pa P pc,.slice qa (m+1:Nat) qc] w SH.v (fun x w'=>SrP p q S U w.heap.size x w'):=by
 have HX:=Hi (Ext.refl w);have LP:=Hi hp.lin;have LQ:=Hi hq.lin;have HPl:Hid (p.length=P):=Hi hp.len;have HQl:Hid (q.length=m+1):=Hi hq.len;have HPW:=Hi hpw;have HQW:=Hi hqw;have HTP:=Hi htp;have H0:Hid (bL q≠0):=Hi (by
  have:=ci (q:=q) (by rw [htq];intro h;have:=HQl.out;rw [h] at this;simp at this)
  rwa [htq] at this)
 have hplc:=hp.le;have hqlc:=hq.le;have hqmx:=hq.max;have hpmx:=hp.max;simp only at hplc hqlc hqmx hpmx;clear hp hq hpw hqw htp htq;obtain ⟨M,hM⟩:∃ M,P=M+m:=⟨P-m,zo⟩;subst hM;rw [show M+m-m=M by omega] at hsz;unfold ar;go_enter Tryz.func196,Tryz.ntmps196
 go_wp2_with fail
 refine cM (l8 pa (M+m) pc p _ LP.out.can zo zo) fun x5 w5 hE G5=>?_
 refine mV3 hE ?_ HX LP LQ;clear HX LP LQ;intro HX LP LQ;have hs_w5:=hE.size;obtain ⟨Lr,c,hLr,hc1,hc2,hx5,hR5⟩:=G5.out;subst hx5;have HR:=Hi hR5;have hLrw:w.heap.size≤Lr:=hLr;have hLr5:Lr<w5.heap.size:=hR5.lt;clear hR5 G5;obtain ⟨b,off,r,hao,hbl,⟨hc1',hc2',hc3'⟩,hPc⟩:=LQ.out.celx (k:=m) zo;obtain ⟨rneg,ra,rn,rc,rb,rm,rd⟩:=r;simp only at hc1' hc2' hc3';have HC:Hid (aA w5 ⟨rneg,ra,rn,rc,rb,rm,rd⟩ (bL q)):=Hi (by unfold bL;rw [HQl.out];exact hPc);clear hPc;subst hao;go_wp2;refine nmA ?_;intro w6 hE B10 hz_w6 hr_w6;refine mV5 hE ?_ HX LP LQ HR HC;clear HX LP LQ HR HC;intro HX LP LQ HR HC;have hs_w6:=hE.size;replace b_B10:=bX3 B10;obtain ⟨b10,hb10⟩:∃ b10,b10=w5.heap.size:=⟨_,rfl⟩;have hbw10:w.heap.size≤b10:=zo;have hLrb:Lr≠b10:=zo;rw [←hb10] at B10 ⊢;clear hb10 b_B10 hc1' hc2' hc3' hbl;have hcmx:c≤9223372036854775807:=hc2;clear hLr5
 go_loopg [5] (M+m) (fun g v wr=>∃ (n j:Nat),j+g=M+m∧v=.slice (some ⟨Lr,0,none⟩) n c∧SvL w wr p q S U (some ⟨b,off,none⟩) m qc Lr b10 c ⟨rneg,ra,rn,rc,rb,rm,rd⟩ (M+m) n j)
 case atStart =>
  refine ⟨M+m,0,zo,by simp,⟨List.replicate M 0,p,1,HR.out,HPl.out,nXe _,dZ,?_⟩,HX.out,LQ.out,B10.out,HC.out⟩;have h1:=DvI.start (S:=S) (U:=U) (p:=p) (q:=q) HPW.out HTP.out (by rw [HPl.out,HQl.out];omega);rw [nXm (by rw [HPl.out];exact nXe _)];rw [HPl.out,HQl.out,show M+m-(m+1)+1=M by omega] at h1;exact h1
 case round =>
  obtain ⟨n,j,hjg,rfl,⟨sl,ros,f,gr,hrl,hnP,hf0,hI⟩,gx,gq,g10,gz⟩:=hrel;obtain ⟨g0,hg0⟩:∃ g0,g0=gk:=⟨_,rfl⟩;have hjn:n+j≤M+m:=by have:=hI.rl;rw [HPl.out,nXk,hrl] at this;omega
  clear HX LQ B10 HC HR LP;have HX:=Hi gx;have LQ:=Hi gq;have B10:=Hi g10;have HC:=Hi gz;have HR:=Hi gr;have HI:=Hi hI;have HRL:=Hi hrl;have HF0:=Hi hf0;clear gx gq g10 gz gr hI hrl hf0;have HSL:Hid (sl.length=M):=Hi (by have:=HI.out.sl;rw [HPl.out,HQl.out] at this;omega);replace b_B10:=bX3 B10;by_cases hn:n<m+1
  case pos =>
   have hn2:¬ ((m:Int)+1≤n):=zo;go_wp2
   go_ret
   exact ⟨⟨some ⟨Lr,0,none⟩,n,c⟩,rfl,HX.out,Lr,n,c,ros,sl,f,hLrw,rfl,HR.out,by rw [HRL.out];exact hnP,by rw [HRL.out];exact hc1,hcmx,HF0.out,HI.out.done (by rw [nXk,HQl.out];omega)⟩
  obtain ⟨t,rfl⟩:∃ t,n=t+m+1:=⟨n-(m+1),zo⟩;have HRT:Hid ((ros.take (t+m+1)).length=t+m+1):=Hi (by rw [nXk,HRL.out];omega);have hb10r:b10<wr.heap.size:=b_B10.2.2;have hLrr:Lr<wr.heap.size:=HR.out.lt;obtain ⟨B,hB⟩:∃ B,B=S+j*(U+1):=⟨_,rfl⟩;have hBz:B≤30000000:=by have:=HI.out.bnd.1;rw [HPl.out,HQl.out,show M+m+1-(m+1)=M by omega] at this;omega
  have hB1:1≤B:=zo;have HRW:Hid (∀ x ∈ ros.take (t+m+1),Wz B x):=Hi (by rw [hB];exact HI.out.rz);have HQWk:Hid (∀ k,k<m+1→Wz U (q.getD k 0)):=Hi (fun k hk=>HQW.out _ (bH (by rw [HQl.out];exact hk)));have HRWk:Hid (∀ k,k<t+m+1→Wz B (ros.getD k 0)):=Hi (fun k hk=>by have:=HRW.out _ (bH (i:=k) (by rw [HRT.out];exact hk));rwa [cS hk] at this);have HLQ:Hid (Wz U (bL q)):=Hi (by unfold bL;rw [HQl.out];exact HQWk.out m zo);obtain ⟨cq,hcq⟩:∃ cq,cq=ros.getD (t+m) 0 / bL q:=⟨_,rfl⟩;have HCQ:Hid (cq=bL (ros.take (t+m+1)) / bL q):=Hi (by rw [hcq];unfold bL;rw [HRT.out,Nat.add_sub_cancel,cS zo]);have HPA:Hid (Wz B ((cq.num:Int):Rat)∧Wz U (((cq.den:Nat):Int):Rat)):=Hi (by rw [hcq];exact (HRWk.out (t+m) zo).parts HLQ.out H0.out);have HDP:Hid (0<(((cq.den:Nat):Int):Rat)):=Hi (rP cq);obtain ⟨num,hnum⟩:∃ num:Rat,num=((cq.num:Int):Rat):=⟨_,rfl⟩;obtain ⟨den,hden⟩:∃ den:Rat,den=(((cq.den:Nat):Int):Rat):=⟨_,rfl⟩;rw [←hnum,←hden] at HPA;rw [←hden] at HDP;have HNUM:=Hi hnum;have HDEN:=Hi hden;have Hcq:=Hi hcq;clear hnum hden hcq hB;obtain ⟨r8,⟨f1,f2,f3⟩,hr8⟩:=aH.cells HR.out (k:=t+m) (by rw [HRL.out];omega);have hfz:=aH.frozen HR.out;have hLl:=aH.lt HR.out;obtain ⟨r8n,r8a,r8l,r8c,r8b,r8m,r8d⟩:=r8;simp only at f1 f2 f3;have HR8:=Hi hr8;clear hr8;have ht1:(t:Int)+m+1-(m+1)=(t:Nat):=zo;have ht2:(t:Int)+m+1-1=((t+m:Nat):Int):=zo;have hn2:(m:Int)+1≤(t:Int)+m+1:=zo
  go_upto_region 5 with fail
  refine bv [(12,10)] _ (by simp only [jG,mu,List.push_toArray,List.cons_append,List.nil_append];exact rfl) (by intro c a d v w h;cases d <;> exact h) 12 (fun opIx=>match opIx with
   | 7=>.spec (RH) (default) (fun s=>.tuple #[s.v,.int .i64 0]) (fun x w'=>aA w' x cq)
   | 11=>.alloc 37 #[.bool false,.slice none 0 0,.slice none 0 0]
   | _=>.quiet) (fun _=>[]) kZ kZ kZ (fun w0 he0 hz0 hc0 hf0=>?_)
  replace he0:=Hi he0;simp only [pT];refine qQ ?_;refine wps he0 (fun w1 hW hG=>?_) fun x7=>?_
  ·exact spc [RH.v ⟨r8n,r8a,r8l,r8c,r8b,r8m,r8d⟩,RH.v ⟨rneg,ra,rn,rc,rb,rm,rd⟩] Tryz.func128 ((by rw [Hcq.out];exact cx _ _ _ _ _ ((HR8.out.ext hW).raw ((HRWk.out _ zo).sz hB1) zo) ((HC.out.ext hW).raw (HLQ.out.sz hU) zo) H0.out))
  refine qZ ?_;refine aW rfl rfl (fun w=>by simp [execOp,go_sem,ptr]) (fun b12 hb12 hl12=>?_);refine qZ ?_;refine aq ?_;intro w8 hI;have hE:=he0.out.trans hI.ext;have G7:=gT (hI.facts 7);have A12:Hid (w8.heap[b12]?=some (.cells #[.bool false,.slice none 0 0,.slice none 0 0] 37 (0,0))):=hI.facts 11;rw [hz0] at hl12;clear hI he0 hz0 hc0 hf0;refine mV6 hE ?_ HX LQ B10 HR HR8 HC;clear HX LQ B10 HR HR8 HC;intro HX LQ B10 HR HR8 HC;have hs_w8:=hE.size;replace b_B10:=bX3 B10;replace b_A12:=bX3 A12;simp only [pD,ptr];clear f1 f2 f3 hfz hLl ht2;clear HR8
  go_upto_region 6 with fail
  refine aN A12.out rfl ?_;intro w9 T;replace HX:=Hi (T.ext HX.out zo);replace LQ:=Hi (LQ.out.put T zo);replace B10:=Hi (T.rest _ _ zo B10.out);replace HC:=Hi (HC.out.keep T.keep);replace HR:=Hi (HR.out.put T zo);replace A12:=Hi (T.bx);replace G7:=Hi (G7.out.keep T.keep);have hs_w9:=nle T.size;have hr_w9:=nle T.size.symm;clear T;replace b_B10:=bX3 B10;replace b_A12:=bX3 A12
  go_wp2_with fail
  refine cM (jw x7 cq _ G7.out) fun x10 w10 hE G10=>?_
  refine mV7 hE ?_ HX LQ B10 HC HR A12 G7;clear HX LQ B10 HC HR A12 G7;intro HX LQ B10 HC HR A12 G7;have hs_w10:=hE.size;replace b_B10:=bX3 B10;replace b_A12:=bX3 A12;obtain ⟨xn,xd⟩:=x10;have HN:Hid (aA w10 xn num):=Hi (by rw [HNUM.out];exact G10.out.1);have HD:Hid (aA w10 xd den):=Hi (by rw [HDEN.out];exact G10.out.2);clear G10;simp only [PT];clear G7
  go_upto_region 7 with fail
  (try clear b_A12);clear A12
  refine eX ?_;intro w11 hE B14 B15 hz_w11 hr_w11;refine mV7 hE ?_ HX LQ B10 HC HR HN HD;clear HX LQ B10 HC HR HN HD;intro HX LQ B10 HC HR HN HD;have hs_w11:=hE.size;replace b_B10:=bX3 B10;replace b_B14:=bX3 B14;replace b_B15:=bX3 B15;obtain ⟨b14,hb14⟩:∃ b14,b14=w10.heap.size:=⟨_,rfl⟩;obtain ⟨b15,hb15⟩:∃ b15,b15=w10.heap.size+1:=⟨_,rfl⟩;have hb14r:wr.heap.size≤b14:=zo;have hb15r:wr.heap.size≤b15:=zo;have hb145:b14≠b15:=zo;rw [←hb15] at B15;rw [←hb14] at B14;rw [←hb15,←hb14];clear hb14 hb15 b_B14 b_B15;replace b_B10:=bX3 B10;replace b_B14:=bX3 B14;replace b_B15:=bX3 B15;obtain ⟨cc,hcc⟩:∃ cc,cc=cG den 1:=⟨_,rfl⟩;have Hcc:=Hi hcc;have HNW:Hid (Wz B num):=Hi HPA.out.1;have HDW:Hid (Wz U den):=Hi HPA.out.2;clear hcc;refine wpG 3 (fun opIx=>match opIx with
   | 1=>sR (((1:Int):Rat))
   | 2=>sU (.int .i64 cc)
   | _=>.quiet) (fun|2=>[1]|_=>[]) fun w0 he0 hz0 hc0 hf0=>?_
  refine wps he0 (fun w1 hW hG=>?_) fun x20=>?_
  ·exact spc [.int .i64 1] Tryz.func63 (bO 1 _ dZ dZ)
  refine qZ ?_;refine wps he0 (fun w1 hW hG=>?_) fun x21=>?_
  ·have g20:=gS (hG 1 dZ);exact spc [xd.v,x20.v] Tryz.func81 ((by rw [Hcc.out];exact bS _ _ _ _ _ ((HD.out.ext hW).raw (HDW.out.sz hU) zo) (g20.raw (Sz.int dZ) dZ)))
  refine qZ ?_;refine aq ?_;intro w12 hI;have hE:=he0.out.trans hI.ext;have G20:=gT (hI.facts 1);clear hI he0 hz0 hc0 hf0;refine mV8 hE ?_ B14 B15 HX LQ B10 HC HR HN;clear B14 B15 HX LQ B10 HC HR HN;intro B14 B15 HX LQ B10 HC HR HN;replace HD:=mV hE HD;have hs_w12:=hE.size;replace b_B10:=bX3 B10;replace b_B14:=bX3 B14;replace b_B15:=bX3 B15;simp only [pD];by_cases hcc0:cc=0
  case pos =>
   subst hcc0;have hd1:den=1:=uE.1 Hcc.out.symm;replace HR:=Hi (show aH w12 Lr (cL ros (t+m+1) den) by rw [hd1,mY];exact HR.out);clear hd1;clear G20
   (try simp only [SH.v])
   clear HD
   (try clear b_B15);clear B15
   go_wp2
   go_loopg [70] (m+1) (fun g v wr=>∃ (k:Nat),k+g=m+1∧v=.int .i64 (k:Nat)∧Ext w wr∧LIn wr ⟨some ⟨b,off,none⟩,m+1,qc⟩ q 0 w.heap.size∧wr.heap[b10]?=some (.cells #[.bool rneg,.slice ra rn rc,.slice rb rm rd] 37 (0,0))∧wr.heap[b14]?=some (.cells #[.bool xn.neg,.slice xn.a xn.n xn.c,.slice xn.b xn.m xn.d] 37 (0,0))∧aA wr ⟨rneg,ra,rn,rc,rb,rm,rd⟩ (bL q)∧aA wr xn num∧aH wr Lr (gH (cL ros (t+m+1) den) t q num k))
   case atStart=>exact ⟨0,zo,rfl,HX.out,LQ.out,B10.out,B14.out,HC.out,HN.out,HR.out⟩
   case round =>
    obtain ⟨k,hk,rfl,g1,g2,g5,g6,g7,g9,g11⟩:=hrel;clear HX LQ B10 B14 HC HN HR;have HX:=Hi g1;have LQ:=Hi g2;have B10:=Hi g5;have B14:=Hi g6;have HC:=Hi g7;have HN:=Hi g9;have HR:=Hi g11;clear g1 g2 g5 g6 g7 g9 g11;replace b_B10:=bX3 B10;replace b_B14:=bX3 B14;by_cases h0:gk=0
    case neg =>
     have hin:(k:Int)<(m:Int)+1:=zo;obtain ⟨b',off',r17,hao,hbl,⟨hc1',hc2',hc3'⟩,hPc⟩:=LQ.out.celx (k:=k) zo;obtain ⟨rfl,rfl⟩:b=b'∧off=off':=by simpa using hao
     obtain ⟨qn,qa',ql,qc',qb,qm,qd⟩:=r17;simp only at hc1' hc2' hc3';have HQk:=Hi hPc;clear hPc hao
     go_upto_region 16 with fail
     clear hc1' hc2' hc3';refine nmA ?_;intro y18 hE B17 hz_y18 hr_y18;refine mV8 hE ?_ HX LQ B10 B14 HC HN HR HQk;clear HX LQ B10 B14 HC HN HR HQk;intro HX LQ B10 B14 HC HN HR HQk;have hs_y18:=hE.size;replace b_B10:=bX3 B10;replace b_B14:=bX3 B14;replace b_B17:=bX3 B17;obtain ⟨r18,⟨f1,f2,f3⟩,hr18⟩:=aH.cells HR.out (k:=t+k) (by rw [aY,aF,HRL.out];omega);have hfz:=aH.frozen HR.out;have hLl:=aH.lt HR.out;obtain ⟨sn,sa,sl',sc,sb,sm',sd⟩:=r18;simp only at f1 f2 f3;have HR18:=Hi hr18;clear hr18;have HRV:Hid (Wz (B+U) ((gH (cL ros (t+m+1) den) t q num k).getD (t+k) 0)):=Hi (by
      rw [kf _ _ _ _ _ (by rw [aF,HRL.out];omega),if_neg zo,kN _ (by rw [HRL.out];omega) zo];have:=(HRWk.out (t+k) zo).mul HDW.out;rw [ye];exact this)
     have htk:(t:Int)+k<(t:Int)+m+1:=zo;refine wpG 14 (fun opIx=>match opIx with
      | 12=>sR (num*q.getD k 0)
      | 13=>sR ((gH (cL ros (t+m+1) den) t q num k).getD (t+k) 0-num*q.getD k 0)
      | _=>.quiet) (fun|13=>[12]|_=>[]) fun w0 he0 hz0 hc0 hf0=>?_
     refine wps he0 (fun w1 hW hG=>?_) fun x22=>?_
     ·exact spc [xn.v,RH.v ⟨qn,qa',ql,qc',qb,qm,qd⟩] Tryz.func108 (aK _ _ _ _ _ ((HN.out.ext hW).raw (HNW.out.sz hB1) zo) ((HQk.out.ext hW).raw ((HQWk.out k zo).sz hU) zo))
     refine qZ ?_;refine wps he0 (fun w1 hW hG=>?_) fun x23=>?_
     ·have g22:=gS (hG 12 dZ);exact spc [RH.v ⟨sn,sa,sl',sc,sb,sm',sd⟩,x22.v] Tryz.func191 (i4 _ x22 _ _ _ ((HR18.out.ext hW).raw (HRV.out.sz zo) zo) (g22.raw ((HNW.out.mul (HQWk.out k zo)).sz zo) zo))
     refine qZ ?_;refine aq ?_;intro y19 hI;have hE:=he0.out.trans hI.ext;have G22:=gT (hI.facts 12);have G23:=gT (hI.facts 13);clear hI he0 hz0 hc0 hf0;refine mV8 hE ?_ B17 HX LQ B10 B14 HC HR HN;clear B17 HX LQ B10 B14 HC HR HN;intro B17 HX LQ B10 B14 HC HR HN;refine mV2 hE ?_ HQk HR18;clear HQk HR18;intro HQk HR18;have hs_y19:=hE.size;replace b_B10:=bX3 B10;replace b_B14:=bX3 B14;replace b_B17:=bX3 B17;simp only [pD];clear f1 f2 f3 hfz hLl htk;clear HR18;clear HQk;clear G22;obtain ⟨r19,⟨f1,f2,f3⟩,-⟩:=aH.cells HR.out (k:=t+k) (by rw [aY,aF,HRL.out];omega);have hfz:=aH.frozen HR.out;have hLl:=aH.lt HR.out
     go_upto_region 17 with fail
     refine eW (k:=t+k) HR.out (by rw [aY,aF,HRL.out];omega) G23.out ?_;rintro y20 ⟨cs,T⟩ TN;clear f1 f2 f3 hfz hLl
     (try clear b_B17);clear B17
     clear G23;clear HR;replace HX:=Hi (T.ext HX.out zo);replace LQ:=Hi (LQ.out.put T zo);replace B10:=Hi (T.rest _ _ zo B10.out);replace B14:=Hi (T.rest _ _ zo B14.out);replace HC:=Hi (HC.out.keep T.keep);replace HN:=Hi (HN.out.keep T.keep);have hs_y20:=nle T.size;have hr_y20:=nle T.size.symm;clear T;replace b_B10:=bX3 B10;replace b_B14:=bX3 B14;have HR:=Hi TN;clear TN;go_wp2
     go_roundg (gk-1)
     case measure=>omega
     case rel=>exact ⟨k+1,zo,by go_num,HX.out,LQ.out,B10.out,B14.out,HC.out,HN.out,HR.out⟩
    subst h0;obtain rfl:k=m+1:=by omega
    have hin:¬ ((m:Int)+1<(m:Int)+1):=zo;obtain ⟨hI2,hW2⟩:=HI.out.row HQl.out (by rw [HRL.out];omega) HSL.out H0.out HQW.out HCQ.out HNUM.out HDEN.out;have HI2:=Hi hI2;have HRN:Hid (bg wr ⟨some ⟨Lr,0,none⟩,t+m+1,c⟩ ((gH (cL ros (t+m+1) den) t q num (m+1)).take (t+m+1))):=Hi ((HR.out.can (by rw [aY,aF,HRL.out]) hc1 hcmx).take hnP);have HSZ:Hid (SzL (S+j*(U+1)+U+1) ((gH (cL ros (t+m+1) den) t q num (m+1)).take (t+m+1))):=Hi (fun x hx=>(hW2 x hx).sz zo);clear hI2 hW2;have hBz2:S+j*(U+1)≤30000000:=by have:=HI.out.bnd.1;rw [HPl.out,HQl.out,show M+m+1-(m+1)=M by omega] at this;omega
    go_wp2_with fail
    refine cM (mH (some ⟨Lr,0,none⟩) (t+m+1) c _ _ (HRN.out.raw HSZ.out zo)) fun x24 w24 hE G24=>?_
    refine mV7 hE ?_ HX LQ B10 B14 HC HN HR;clear HX LQ B10 B14 HC HN HR;intro HX LQ B10 B14 HC HN HR;have hs_w24:=hE.size;replace b_B10:=bX3 B10;replace b_B14:=bX3 B14;obtain ⟨q1,q2⟩:=G24.out;have HQ1:=Hi q1;clear q1 G24;go_wp2
    go_roundg (g0-1)
    case measure=>omega
    case rel =>
     refine ⟨_,j+1,zo,rfl,⟨(cL sl M den).set t num,gH (cL ros (t+m+1) den) t q num (m+1),f*den,HR.out,by rw [aY,aF,HRL.out],zo,Rat.mul_pos HF0.out HDP.out,?_⟩,HX.out,LQ.out,B10.out,HC.out⟩;have h1:=HI2.out;rw [HQ1.out,List.take_take,Nat.min_eq_left zo] at h1;exact h1
  have hccb:(cc == 0)=false:=by simpa using hcc0
  clear hcc0;clear G20
  (try simp only [SH.v])
  go_wp2
  go_loopg [55] (t+m+1) (fun g v wr=>∃ (i:Nat),i+g=t+m+1∧v=.int .i64 (i:Nat)∧Ext w wr∧LIn wr ⟨some ⟨b,off,none⟩,m+1,qc⟩ q 0 w.heap.size∧wr.heap[b10]?=some (.cells #[.bool rneg,.slice ra rn rc,.slice rb rm rd] 37 (0,0))∧wr.heap[b14]?=some (.cells #[.bool xn.neg,.slice xn.a xn.n xn.c,.slice xn.b xn.m xn.d] 37 (0,0))∧wr.heap[b15]?=some (.cells #[.bool xd.neg,.slice xd.a xd.n xd.c,.slice xd.b xd.m xd.d] 37 (0,0))∧aA wr ⟨rneg,ra,rn,rc,rb,rm,rd⟩ (bL q)∧aA wr xn num∧aA wr xd den∧aH wr Lr (cL ros i den))
  case atStart=>exact ⟨0,zo,rfl,HX.out,LQ.out,B10.out,B14.out,B15.out,HC.out,HN.out,HD.out,by simpa [cL] using HR.out⟩
  case round =>
   obtain ⟨i,hi,rfl,g1,g2,g3,g4,g5,g6,g7,g8,g9⟩:=hrel;clear HX LQ B10 B14 B15 HC HN HD HR;have HX:=Hi g1;have LQ:=Hi g2;have B10:=Hi g3;have B14:=Hi g4;have B15:=Hi g5;have HC:=Hi g6;have HN:=Hi g7;have HD:=Hi g8;have HR:=Hi g9;clear g1 g2 g3 g4 g5 g6 g7 g8 g9;replace b_B10:=bX3 B10;replace b_B14:=bX3 B14;replace b_B15:=bX3 B15;by_cases h0:gk=0
   case neg =>
    have hin:(i:Int)<(t:Int)+m+1:=zo;have HL:Hid ((cL ros i den).length=ros.length):=Hi (aF _ _ _);have HV:Hid ((cL ros i den).getD i 0=ros.getD i 0):=Hi (by
     have h2:=HRL.out;unfold cL;have h1:((ros.take i).map (·*den)).length=i:=by rw [nXl,nXk];omega
     rw [nXd,List.getElem?_append_right zo,h1,Nat.sub_self,List.getElem?_drop,Nat.add_zero,←nXd])
    obtain ⟨r,⟨f1,f2,f3⟩,hrc⟩:=aH.cells HR.out (k:=i) (by rw [HL.out,HRL.out];omega);rw [HV.out] at hrc;have HRC:=Hi hrc;clear hrc;have hfz:=aH.frozen HR.out;have hLl:=aH.lt HR.out;obtain ⟨ren,rea,rel,rec',reb,rem,red⟩:=r;simp only at f1 f2 f3
    go_upto_region 11 with fail
    refine wpG 8 (fun opIx=>match opIx with
     | 7=>sR (ros.getD i 0*den)
     | _=>.quiet) (fun _=>[]) fun w0 he0 hz0 hc0 hf0=>?_
    refine wps he0 (fun w1 hW hG=>?_) fun x7=>?_
    ·exact spc [RH.v ⟨ren,rea,rel,rec',reb,rem,red⟩,xd.v] Tryz.func108 (aK _ _ _ _ _ ((HRC.out.ext hW).raw ((HRWk.out i zo).sz hB1) zo) ((HD.out.ext hW).raw (HDW.out.sz hU) zo))
    refine qZ ?_;refine aq ?_;intro w5 hI;have hE:=he0.out.trans hI.ext;have G7:=gT (hI.facts 7);clear hI he0 hz0 hc0 hf0;refine mV8 hE ?_ HX LQ B10 B14 B15 HC HN HR;clear HX LQ B10 B14 B15 HC HN HR;intro HX LQ B10 B14 B15 HC HN HR;refine mV2 hE ?_ HRC HD;clear HRC HD;intro HRC HD;have hs_w5:=hE.size;replace b_B10:=bX3 B10;replace b_B14:=bX3 B14;replace b_B15:=bX3 B15;simp only [pD];clear f1 f2 f3 hfz hLl;clear HRC;obtain ⟨r2,⟨f1,f2,f3⟩,-⟩:=aH.cells HR.out (k:=i) (by rw [HL.out,HRL.out];omega);have hfz:=aH.frozen HR.out;have hLl:=aH.lt HR.out
    go_upto_region 12 with fail
    refine eW (k:=i) HR.out (by rw [HL.out,HRL.out];omega) G7.out ?_;rintro y6 ⟨cs,T⟩ TN;rw [mW (by rw [HRL.out];omega)] at TN;clear f1 f2 f3 hfz hLl HL HV;clear G7;clear HR;replace HX:=Hi (T.ext HX.out zo);replace LQ:=Hi (LQ.out.put T zo);replace B10:=Hi (T.rest _ _ zo B10.out);replace B14:=Hi (T.rest _ _ zo B14.out);replace B15:=Hi (T.rest _ _ zo B15.out);replace HC:=Hi (HC.out.keep T.keep);replace HN:=Hi (HN.out.keep T.keep);replace HD:=Hi (HD.out.keep T.keep);have hs_y6:=nle T.size;have hr_y6:=nle T.size.symm;clear T;replace b_B10:=bX3 B10;replace b_B14:=bX3 B14;replace b_B15:=bX3 B15;have HR:=Hi TN;clear TN;go_wp2
    go_roundg (gk-1)
    case measure=>omega
    case rel=>exact ⟨i+1,zo,by go_num,HX.out,LQ.out,B10.out,B14.out,B15.out,HC.out,HN.out,HD.out,HR.out⟩
   subst h0;obtain rfl:i=t+m+1:=by omega
   have hin:¬ ((t:Int)+m+1<(t:Int)+m+1):=zo;clear HD
   (try clear b_B15);clear B15
   go_wp2
   go_loopg [70] (m+1) (fun g v wr=>∃ (k:Nat),k+g=m+1∧v=.int .i64 (k:Nat)∧Ext w wr∧LIn wr ⟨some ⟨b,off,none⟩,m+1,qc⟩ q 0 w.heap.size∧wr.heap[b10]?=some (.cells #[.bool rneg,.slice ra rn rc,.slice rb rm rd] 37 (0,0))∧wr.heap[b14]?=some (.cells #[.bool xn.neg,.slice xn.a xn.n xn.c,.slice xn.b xn.m xn.d] 37 (0,0))∧aA wr ⟨rneg,ra,rn,rc,rb,rm,rd⟩ (bL q)∧aA wr xn num∧aH wr Lr (gH (cL ros (t+m+1) den) t q num k))
   case atStart=>exact ⟨0,zo,rfl,HX.out,LQ.out,B10.out,B14.out,HC.out,HN.out,HR.out⟩
   case round =>
    obtain ⟨k,hk,rfl,g1,g2,g5,g6,g7,g9,g11⟩:=hrel;clear HX LQ B10 B14 HC HN HR;have HX:=Hi g1;have LQ:=Hi g2;have B10:=Hi g5;have B14:=Hi g6;have HC:=Hi g7;have HN:=Hi g9;have HR:=Hi g11;clear g1 g2 g5 g6 g7 g9 g11;replace b_B10:=bX3 B10;replace b_B14:=bX3 B14;by_cases h0:gk=0
    case neg =>
     have hin:(k:Int)<(m:Int)+1:=zo;obtain ⟨b',off',r17,hao,hbl,⟨hc1',hc2',hc3'⟩,hPc⟩:=LQ.out.celx (k:=k) zo;obtain ⟨rfl,rfl⟩:b=b'∧off=off':=by simpa using hao
     obtain ⟨qn,qa',ql,qc',qb,qm,qd⟩:=r17;simp only at hc1' hc2' hc3';have HQk:=Hi hPc;clear hPc hao
     go_upto_region 16 with fail
     clear hc1' hc2' hc3';refine nmA ?_;intro y18 hE B17 hz_y18 hr_y18;refine mV8 hE ?_ HX LQ B10 B14 HC HN HR HQk;clear HX LQ B10 B14 HC HN HR HQk;intro HX LQ B10 B14 HC HN HR HQk;have hs_y18:=hE.size;replace b_B10:=bX3 B10;replace b_B14:=bX3 B14;replace b_B17:=bX3 B17;obtain ⟨r18,⟨f1,f2,f3⟩,hr18⟩:=aH.cells HR.out (k:=t+k) (by rw [aY,aF,HRL.out];omega);have hfz:=aH.frozen HR.out;have hLl:=aH.lt HR.out;obtain ⟨sn,sa,sl',sc,sb,sm',sd⟩:=r18;simp only at f1 f2 f3;have HR18:=Hi hr18;clear hr18;have HRV:Hid (Wz (B+U) ((gH (cL ros (t+m+1) den) t q num k).getD (t+k) 0)):=Hi (by
      rw [kf _ _ _ _ _ (by rw [aF,HRL.out];omega),if_neg zo,kN _ (by rw [HRL.out];omega) zo];have:=(HRWk.out (t+k) zo).mul HDW.out;rw [ye];exact this)
     have htk:(t:Int)+k<(t:Int)+m+1:=zo;refine wpG 14 (fun opIx=>match opIx with
      | 12=>sR (num*q.getD k 0)
      | 13=>sR ((gH (cL ros (t+m+1) den) t q num k).getD (t+k) 0-num*q.getD k 0)
      | _=>.quiet) (fun|13=>[12]|_=>[]) fun w0 he0 hz0 hc0 hf0=>?_
     refine wps he0 (fun w1 hW hG=>?_) fun x22=>?_
     ·exact spc [xn.v,RH.v ⟨qn,qa',ql,qc',qb,qm,qd⟩] Tryz.func108 (aK _ _ _ _ _ ((HN.out.ext hW).raw (HNW.out.sz hB1) zo) ((HQk.out.ext hW).raw ((HQWk.out k zo).sz hU) zo))
     refine qZ ?_;refine wps he0 (fun w1 hW hG=>?_) fun x23=>?_
     ·have g22:=gS (hG 12 dZ);exact spc [RH.v ⟨sn,sa,sl',sc,sb,sm',sd⟩,x22.v] Tryz.func191 (i4 _ x22 _ _ _ ((HR18.out.ext hW).raw (HRV.out.sz zo) zo) (g22.raw ((HNW.out.mul (HQWk.out k zo)).sz zo) zo))
     refine qZ ?_;refine aq ?_;intro y19 hI;have hE:=he0.out.trans hI.ext;have G22:=gT (hI.facts 12);have G23:=gT (hI.facts 13);clear hI he0 hz0 hc0 hf0;refine mV8 hE ?_ B17 HX LQ B10 B14 HC HR HN;clear B17 HX LQ B10 B14 HC HR HN;intro B17 HX LQ B10 B14 HC HR HN;refine mV2 hE ?_ HQk HR18;clear HQk HR18;intro HQk HR18;have hs_y19:=hE.size;replace b_B10:=bX3 B10;replace b_B14:=bX3 B14;replace b_B17:=bX3 B17;simp only [pD];clear f1 f2 f3 hfz hLl htk;clear HR18;clear HQk;clear G22;obtain ⟨r19,⟨f1,f2,f3⟩,-⟩:=aH.cells HR.out (k:=t+k) (by rw [aY,aF,HRL.out];omega);have hfz:=aH.frozen HR.out;have hLl:=aH.lt HR.out
     go_upto_region 17 with fail
     refine eW (k:=t+k) HR.out (by rw [aY,aF,HRL.out];omega) G23.out ?_;rintro y20 ⟨cs,T⟩ TN;clear f1 f2 f3 hfz hLl
     (try clear b_B17);clear B17
     clear G23;clear HR;replace HX:=Hi (T.ext HX.out zo);replace LQ:=Hi (LQ.out.put T zo);replace B10:=Hi (T.rest _ _ zo B10.out);replace B14:=Hi (T.rest _ _ zo B14.out);replace HC:=Hi (HC.out.keep T.keep);replace HN:=Hi (HN.out.keep T.keep);have hs_y20:=nle T.size;have hr_y20:=nle T.size.symm;clear T;replace b_B10:=bX3 B10;replace b_B14:=bX3 B14;have HR:=Hi TN;clear TN;go_wp2
     go_roundg (gk-1)
     case measure=>omega
     case rel=>exact ⟨k+1,zo,by go_num,HX.out,LQ.out,B10.out,B14.out,HC.out,HN.out,HR.out⟩
    subst h0;obtain rfl:k=m+1:=by omega
    have hin:¬ ((m:Int)+1<(m:Int)+1):=zo;obtain ⟨hI2,hW2⟩:=HI.out.row HQl.out (by rw [HRL.out];omega) HSL.out H0.out HQW.out HCQ.out HNUM.out HDEN.out;have HI2:=Hi hI2;have HRN:Hid (bg wr ⟨some ⟨Lr,0,none⟩,t+m+1,c⟩ ((gH (cL ros (t+m+1) den) t q num (m+1)).take (t+m+1))):=Hi ((HR.out.can (by rw [aY,aF,HRL.out]) hc1 hcmx).take hnP);have HSZ:Hid (SzL (S+j*(U+1)+U+1) ((gH (cL ros (t+m+1) den) t q num (m+1)).take (t+m+1))):=Hi (fun x hx=>(hW2 x hx).sz zo);clear hI2 hW2;have hBz2:S+j*(U+1)≤30000000:=by have:=HI.out.bnd.1;rw [HPl.out,HQl.out,show M+m+1-(m+1)=M by omega] at this;omega
    go_wp2_with fail
    refine cM (mH (some ⟨Lr,0,none⟩) (t+m+1) c _ _ (HRN.out.raw HSZ.out zo)) fun x24 w24 hE G24=>?_
    refine mV7 hE ?_ HX LQ B10 B14 HC HN HR;clear HX LQ B10 B14 HC HN HR;intro HX LQ B10 B14 HC HN HR;have hs_w24:=hE.size;replace b_B10:=bX3 B10;replace b_B14:=bX3 B14;obtain ⟨q1,q2⟩:=G24.out;have HQ1:=Hi q1;clear q1 G24;go_wp2
    go_roundg (g0-1)
    case measure=>omega
    case rel =>
     refine ⟨_,j+1,zo,rfl,⟨(cL sl M den).set t num,gH (cL ros (t+m+1) den) t q num (m+1),f*den,HR.out,by rw [aY,aF,HRL.out],zo,Rat.mul_pos HF0.out HDP.out,?_⟩,HX.out,LQ.out,B10.out,HC.out⟩;have h1:=HI2.out;rw [HQ1.out,List.take_take,Nat.min_eq_left zo] at h1;exact h1
theorem ue{n m:Nat}{f:Nat→Rat}(h:n≤m)(h0:∀ i,n≤i→i<m→f i=0):Stab.sm n f=Stab.sm m f:=by
 obtain ⟨d,rfl⟩:∃ d,m=n+d:=⟨m-n,zo⟩;rw [Stab.sm_split,Stab.sm_congr (n:=d) (g:=fun _=>0) (fun i hi=>h0 (n+i) zo zo),Stab.sm_zero];grind
theorem Fr.mono{S S' D:Nat}{q:Rat}(h:Fr S D q)(hS:S≤S'):Fr S' D q:=Wz.mono (q:=q*(D:Rat)) h hS
theorem Fr.add{S D:Nat}{a b:Rat}(ha:Fr S D a)(hb:Fr S D b):Fr (S+1) D (a+b):=by
 have:=Wz.add (a:=a*(D:Rat)) (b:=b*(D:Rat)) ha hb;rw [←Rat.add_mul] at this;exact this
theorem Fr.mul{S U D E:Nat}{a b:Rat}(ha:Fr S D a)(hb:Fr U E b):Fr (S+U) (D*E) (a*b):=by
 have:=Wz.mul (a:=a*(D:Rat)) (b:=b*(E:Rat)) ha hb;have e:a*b*((D*E:Nat):Rat)=a*(D:Rat)*(b*(E:Rat)):=by rw [Rat.natCast_mul];grind
 unfold Fr;rw [e];exact this
theorem Fr.one{S:Nat}{q:Rat}(h:Wz S q):Fr S 1 q:=by
 unfold Fr;rw [show q*((1:Nat):Rat)=q from Rat.mul_one q];exact h
theorem Wz.nat{S n:Nat}(h:n<W32 ^ S):Wz S ((n:Nat):Rat):=by
 have:=Wz.int (S:=S) (z:=(n:Int)) (by simpa using h);exact this
theorem Fr.den{S U D E:Nat}{a:Rat}(ha:Fr S D a)(hE:E<W32 ^ U):Fr (S+U) (D*E) a:=by
 have:=Wz.mul (a:=a*(D:Rat)) (b:=(E:Rat)) ha (Wz.nat hE);have e:a*((D*E:Nat):Rat)=a*(D:Rat)*(E:Rat):=by rw [Rat.natCast_mul];grind
 unfold Fr;rw [e];exact this
theorem Fr.denl{S U D E:Nat}{a:Rat}(ha:Fr S D a)(hE:E<W32 ^ U):Fr (S+U) (E*D) a:=by rw [nYf];exact ha.den hE
theorem EJ{S:Nat}{f:Nat→Rat}:∀ n,(∀ i,i<n→Wz S (f i))→Wh (sm n f)∧(sm n f).num.natAbs+n≤n*W32 ^ S:=by
 intro n;induction n with
 | zero=>intro _;exact ⟨rfl,Nat.zero_le (0*W32 ^ S)⟩
 | succ n ih =>
  intro h;obtain ⟨h1,h2⟩:=ih (fun i hi=>h i zo);obtain ⟨h3,h4⟩:=h n zo;show Wh (sm n f+f n)∧(sm n f+f n).num.natAbs+(n+1)≤_;refine ⟨h1.add h3,?_⟩;have e:(sm n f+f n)=(((sm n f).num+(f n).num:Int):Rat):=by rw [Rat.intCast_add,←h1.eq,←h3.eq]
  rw [e,Rat.num_intCast];have:=Int.natAbs_add_le (sm n f).num (f n).num;rw [nXz];omega
theorem Wz.sm{S n:Nat}{f:Nat→Rat}(h:∀ i,i<n→Wz S (f i))(hn:n≤W32):Wz (S+1) (sm n f):=by
 obtain ⟨h1,h2⟩:=EJ n h;refine ⟨h1,?_⟩;have h3:n*W32 ^ S≤W32 ^ (S+1):=by rw [nXu,nYf];exact nXg _ hn
 rcases Nat.eq_zero_or_pos n with h0|h0
 ·subst h0;have h4:(Stab.sm 0 f).num.natAbs=0:=rfl;have:=nYn (n:=S+1) aI;omega
 ·omega
theorem Fr.sm{S D n:Nat}{f:Nat→Rat}(h:∀ i,i<n→Fr S D (f i))(hn:n≤W32):Fr (S+1) D (sm n f):=by
 have:=Wz.sm (f:=fun i=>f i*(D:Rat)) (S:=S) (n:=n) h hn;have e:Stab.sm n (fun i=>f i*(D:Rat))=Stab.sm n f*(D:Rat):=by
  rw [sm_congr (g:=fun i=>(D:Rat)*f i) (fun i _=>nYd _ _),ik,nYd]
 rw [e] at this;exact this
def FrL(S D:Nat)(l:List Rat):Prop:=∀ x ∈ l,Fr S D x
theorem FrL.mono{S S' D:Nat}{l:List Rat}(h:FrL S D l)(hS:S≤S'):FrL S' D l:=fun x hx=>(h x hx).mono hS
theorem FrL.at{S D:Nat}{l:List Rat}(h:FrL S D l)(i:Nat):Fr S D (l.getD i 0):=by
 rcases Nat.lt_or_ge i l.length with hi|hi
 ·exact h _ (k8 hi)
 ·rw [bu hi];exact Fr.zero _ _
theorem FrL.of{S D:Nat}{l:List Rat}(h:∀ i,Fr S D (l.getD i 0)):FrL S D l:=fun x hx=>by
 obtain ⟨i,-,rfl⟩:=ep hx;exact h i
theorem FrL.tz{S D:Nat}{l:List Rat}(h:FrL S D l):FrL S D (tz l):=FrL.of fun i=>by rw [bC];exact h.at i
theorem FrL.den{S U D E:Nat}{l:List Rat}(h:FrL S D l)(hE:E<W32 ^ U):FrL (S+U) (D*E) l:=fun x hx=>(h x hx).den hE
theorem FrL.denl{S U D E:Nat}{l:List Rat}(h:FrL S D l)(hE:E<W32 ^ U):FrL (S+U) (E*D) l:=fun x hx=>(h x hx).denl hE
theorem FrL.sz{S D:Nat}{l:List Rat}(h:FrL S D l)(hS:1≤S)(hD:0<D)(hl:D<W32 ^ S):SzL S l:=fun x hx=>(h x hx).sz hS hD hl
theorem FrL.range{S D n:Nat}{f:Nat→Rat}(h:∀ i,i<n→Fr S D (f i)):FrL S D ((List.range n).map f):=fun x hx=>by
 obtain ⟨i,hi,rfl⟩:=nYg.1 hx;exact h i (List.mem_range.1 hi)
theorem Fz{S U D E:Nat}{p q:List Rat}(hp:FrL S D p)(hq:FrL U E q)(hl:p.length≤W32)(n:Nat):Fr (S+U+1) (D*E) (ap p (seq q) n):=by
 rw [ap_sum];refine Fr.sm (fun i _=>(hp.at i).mul ?_) hl;unfold shn;split
 ·exact hq.at _
 ·exact Fr.zero _ _
theorem BN{S U D E:Nat}{p q:List Rat}(hp:FrL S D p)(hq:FrL U E q)(hl:p.length≤W32):FrL (S+U+1) (D*E) (aO p q):=by
 unfold aO;exact FrL.tz (FrL.range fun i _=>Fz hp.tz hq.tz (nXf (aj p) hl) i)
theorem CN{S D:Nat}{p q:List Rat}(hp:FrL S D p)(hq:FrL S D q):FrL (S+1) D (cY p q):=by
 unfold cY;exact FrL.tz (FrL.range fun i _=>(hp.at i).add (hq.at i))
theorem DQ{S U D:Nat}{L x:Rat}(hL:Wz U L)(h:Wz S (x*(D:Rat)*L)):Fr S (D*L.num.natAbs) x:=by
 have e0:x*((D*L.num.natAbs:Nat):Rat)=x*(D:Rat)*((L.num.natAbs:Nat):Rat):=by rw [Rat.natCast_mul,nYe]
 unfold Fr;rw [e0];have e1:=hL.1.eq;have e2:((L.num.natAbs:Nat):Rat)=(((L.num.natAbs:Nat):Int):Rat):=rfl;rcases Int.natAbs_eq L.num with h1|h1
 ·rw [e2,←h1,←e1];exact h
 ·have e3:(((L.num.natAbs:Nat):Int):Rat)=-L:=by
   have:((L.num.natAbs:Nat):Int)=-L.num:=by omega
   rw [this,Rat.intCast_neg,←e1]
  rw [e2,e3,Rat.mul_neg];exact h.neg
theorem oX{U E:Nat}{q:List Rat}(hq:FrL U E q):Wz U (bL q*(E:Rat)):=hq.at _
def ldD(q:List Rat)(E:Nat):Nat:=(bL q*(E:Rat)).num.natAbs
theorem AA{U E:Nat}{q:List Rat}(hq:FrL U E q):ldD q E<W32 ^ U:=(oX hq).2
theorem vj{U E:Nat}{q:List Rat}(hq:FrL U E q)(h0:bL q≠0)(hE:0<E):0<ldD q E:=by
 rcases Nat.eq_zero_or_pos (ldD q E) with h|h
 ·exfalso;have h1:(bL q*(E:Rat)).num=0:=by unfold ldD at h;omega
  have h2:=(oX hq).1.eq;rw [h1] at h2;rcases nXr.1 h2 with h3|h3
  ·exact h0 h3
  ·have:((E:Nat):Rat)=(((E:Nat):Int):Rat):=rfl;rw [this] at h3;have h4:=congrArg Rat.num h3;rw [Rat.num_intCast] at h4;have:((0:Rat)).num=0:=rfl;omega
 ·exact h
theorem uT{S D:Nat}{p:List Rat}(hp:FrL S D p):FrL S (ldD (tz p) D) (cI p):=by
 unfold cI;split
 ·intro x hx;simp at hx
 ·next h =>
  refine FrL.tz fun x hx=>?_
  obtain ⟨y,hy,rfl⟩:=nYg.1 hx;have h1:=DQ (S:=S) (D:=1) (x:=y*(((1:Int):Rat) / bL (tz p))) (oX hp.tz) (by
   have h2:=cQ (a:=((1:Int):Rat)) (ci h);have e:y*(((1:Int):Rat) / bL (tz p))*((1:Nat):Rat)*(bL (tz p)*(D:Rat))=y*(D:Rat):=by
    have h3:((1:Int):Rat)=1:=rfl;have h4:((1:Nat):Rat)=1:=rfl;rw [h4];rw [h3] at h2 ⊢;generalize 1 / bL (tz p)=c at *
    grind
   rw [e];exact hp.tz y hy)
  rwa [Nat.one_mul] at h1
theorem Fy(p:List Rat)(u:Nat→Rat):ap (tz p) u=ap p u:=by rw [iJ,iJ,bA]
theorem dY(p q:List Rat):seq (aO p q)=ap p (seq q):=by rw [yB,Fy,bA]
def FrB(S:Nat)(l:List Rat):Prop:=1≤S∧∃ D,0<D∧D<W32 ^ S∧FrL S D l
theorem sp{S U:Nat}(h:S≤U):W32 ^ S≤W32 ^ U:=nXp aI h
theorem FrB.mono{S U:Nat}{l:List Rat}(h:FrB S l)(hS:S≤U):FrB U l:=by
 obtain ⟨h0,D,h1,h2,h3⟩:=h;exact ⟨zo,D,h1,nXn h2 (sp hS),h3.mono hS⟩
theorem FrB.sz{S:Nat}{l:List Rat}(h:FrB S l):SzL S l:=by
 obtain ⟨h0,D,h1,h2,h3⟩:=h;exact h3.sz h0 h1 h2
theorem rt{S U D E:Nat}(hD:D<W32 ^ S)(hE:E<W32 ^ U)(h:0<E):D*E<W32 ^ (S+U):=by
 rw [Nat.pow_add];exact Nat.mul_lt_mul_of_lt_of_lt hD hE
theorem FrB.mul{S U:Nat}{p q:List Rat}(hp:FrB S p)(hq:FrB U q)(hl:p.length≤1000000):FrB (S+U+1) (aO p q):=by
 obtain ⟨h0,D,h1,h2,h3⟩:=hp;obtain ⟨k0,E,k1,k2,k3⟩:=hq;exact ⟨zo,D*E,Nat.mul_pos h1 k1,nXn (rt h2 k2 k1) (sp zo),BN h3 k3 (nXf hl dZ)⟩
theorem FrB.add{S U:Nat}{p q:List Rat}(hp:FrB S p)(hq:FrB U q):FrB (S+U+1) (cY p q):=by
 obtain ⟨h0,D,h1,h2,h3⟩:=hp;obtain ⟨k0,E,k1,k2,k3⟩:=hq;refine ⟨zo,D*E,Nat.mul_pos h1 k1,nXn (rt h2 k2 k1) (sp zo),CN (h3.den k2) ?_⟩;have:=k3.denl h2
 rwa [nYj U S] at this
theorem FrB.neg{S:Nat}{p:List Rat}(hp:FrB S p):FrB S (p.map (fun x=>-x)):=by
 obtain ⟨h0,D,h1,h2,h3⟩:=hp;exact ⟨h0,D,h1,h2,fun x hx=>by
  obtain ⟨y,hy,rfl⟩:=nYg.1 hx;exact (h3 y hy).neg⟩
theorem FrB.of{k n:Nat}{p:List Rat}(h:SzL k p)(hl:p.length≤n):FrB (k*(n+1)+1) p:=by
 obtain ⟨D,h1,h2,h3⟩:=AI p h;have e:=nXg k (show p.length+1≤n+1 by omega);have e2:=nXg k (show p.length≤n+1 by omega);exact ⟨zo,D,h1,nXn h2 (sp zo),FrL.mono h3 zo⟩
def evV(p:List Rat)(x:Rat):Rat:=p.foldr (fun c y=>y*x+c) 0
theorem iG(c:Rat)(p:List Rat)(x:Rat):evV (c :: p) x=evV p x*x+c:=rfl
theorem zi(p:List Rat)(x:Rat):evV p x=sm p.length (fun i=>p.getD i 0*x ^ i):=by
 induction p with
 | nil=>rfl
 | cons c p ih =>
  rw [iG,ih,List.length_cons,ek,nYd,←ik];rw [sm_congr (f:=fun i=>(c :: p).getD (i+1) 0*x ^ (i+1)) (g:=fun i=>x*(p.getD i 0*x ^ i)) (fun i _=>by rw [List.getD_cons_succ,Rat.pow_succ];grind)];rw [List.getD_cons_zero,Rat.pow_zero];grind
theorem oK{p:List Rat}{N:Nat}(h:p.length≤N)(x:Rat):evV p x=sm N (fun i=>seq p i*x ^ i):=by
 rw [zi];exact ue h (fun i h1 h2=>by rw [bu h1];grind)
theorem ji{p q:List Rat}{c:Rat}(h:∀ i,seq p i=c*seq q i)(x:Rat):evV p x=c*evV q x:=by
 rw [oK (Nat.le_max_left p.length q.length),oK (Nat.le_max_right p.length q.length),←ik];exact sm_congr (fun i _=>by rw [h];grind)
theorem DY(p:List Rat)(x:Rat):evV (tz p) x=evV p x:=by
 rw [ji (p:=tz p) (q:=p) (c:=1) (fun i=>by rw [bA];grind) x];grind
theorem vY{p:List Rat}{i:Nat}(h:i<p.length):p.drop i=p.getD i 0 :: p.drop (i+1):=by
 rw [List.drop_eq_getElem_cons h,nXd,List.getElem?_eq_getElem h];rfl
theorem vU{p:List Rat}{i:Nat}(h:i<p.length)(x:Rat):evV (p.drop i) x=evV (p.drop (i+1)) x*x+p.getD i 0:=by rw [vY h,iG]
def ehS(a:List Rat)(x:Rat)(i:Nat):Rat:=if i=0 then 0 else ((x.den:Int):Rat) ^ (i-1)*evV (a.drop (a.length-i)) x
def ehP(x:Rat)(i:Nat):Rat:=((x.den:Int):Rat) ^ (i-1)
theorem Eb(x:Rat):((x.den:Int):Rat)≠0:=fun h=>by
 have h1:=congrArg Rat.num h;rw [Rat.num_intCast] at h1;have:=x.den_nz;have h2:((0:Rat)).num=0:=rfl;omega
theorem vV{a:List Rat}{i:Nat}(x:Rat)(h:i<a.length):ehS a x i*(x.num:Rat)+a.getD (a.length-1-i) 0*ehP x (i+1)=ehS a x (i+1):=by
 have hx:x*((x.den:Int):Rat)=(x.num:Rat):=low x;have e1:=vU (p:=a) (i:=a.length-1-i) zo x;rw [show a.length-1-i+1=a.length-i by omega] at e1;unfold ehS ehP;rw [if_neg (Nat.succ_ne_zero i),Nat.add_sub_cancel,show a.length-(i+1)=a.length-1-i by omega,e1];rcases Nat.eq_zero_or_pos i with h0|h0
 ·subst h0;rw [if_pos rfl];simp only [Nat.sub_zero,Rat.pow_zero];rw [List.drop_of_length_le (nXe _)];show (0:Rat)*_+_=1*(0*x+_);grind
 ·rw [if_neg zo];obtain ⟨j,rfl⟩:∃ j,i=j+1:=⟨i-1,zo⟩;rw [Nat.add_sub_cancel,Rat.pow_succ,←hx];grind
theorem zk(x:Rat){i:Nat}(h:0<i):ehP x i*((x.den:Int):Rat)=ehP x (i+1):=by
 unfold ehP;obtain ⟨j,rfl⟩:∃ j,i=j+1:=⟨i-1,zo⟩;rw [Nat.add_sub_cancel,Nat.add_sub_cancel,Rat.pow_succ]
theorem Di{x:Rat}(h:x≠0)(n:Nat):x ^ n≠0:=by
 induction n with
 | zero=>rw [Rat.pow_zero];decide
 | succ n ih =>
  rw [Rat.pow_succ];intro h1;rcases nXr.1 h1 with h2|h2
  ·exact ih h2
  ·exact h h2
theorem D4(a:List Rat)(x:Rat):ehS a x a.length / ehP x a.length=evV a x:=by
 unfold ehS ehP;split
 ·next h =>
  rw [nXj.1 h,Rat.div_def,nYb];rfl
 ·rw [Nat.sub_self,List.drop_zero,nYd,Rat.div_def,nYe,nYk _ (Di (Eb x) _),Rat.mul_one]
theorem rh{t:Nat}{x:Rat}(h:Sz t x)(ht:1≤t):Sz t (x.num:Rat):=⟨by rw [Rat.num_intCast];exact h.1,by rw [Rat.den_intCast];exact Nat.one_lt_pow zo dZ⟩
theorem Ea{t:Nat}{x:Rat}(h:Sz t x)(ht:1≤t):Sz t ((x.den:Int):Rat):=⟨by rw [Rat.num_intCast];exact h.2,by rw [Rat.den_intCast];exact Nat.one_lt_pow zo dZ⟩
theorem vW{t i:Nat}{x:Rat}(h:Sz t x):Wz (t*i+1) (ehP x i):=by
 unfold ehP;have h1:∀ j,Wz (t*j+1) (((x.den:Int):Rat) ^ j):=by
  intro j;induction j with
  | zero=>rw [Rat.pow_zero];exact Wz.one.mono zo
  | succ j ih =>
   rw [Rat.pow_succ];refine (ih.mul (Wz.int (S:=t) (z:=(x.den:Int)) (by simpa using h.2))).mono (by rw [Nat.mul_succ];omega)
 exact (h1 (i-1)).mono (by have:=nXg t (show i-1≤i by omega);omega)
theorem D5{S t:Nat}{a:List Rat}{x:Rat}(ha:∀ y ∈ a,Wz S y)(h:Sz t x):∀ i,i≤a.length→Wz (S+t+(t+1)*i+1) (ehS a x i):=by
 intro i;induction i with
 | zero=>intro _;unfold ehS;rw [if_pos rfl];exact Wz.zero _
 | succ i ih =>
  intro hi;rw [←vV x zo];have h1:=(ih zo).mul (Wz.int (S:=t) (z:=x.num) h.1);have h2:Wz (S+(t*(i+1)+1)) (a.getD (a.length-1-i) 0*ehP x (i+1)):=(ha _ (k8 zo)).mul (vW h);have e:(t+1)*(i+1)=(t+1)*i+t+1:=by rw [Nat.mul_succ];omega
  have e2:t*(i+1)=t*i+t:=by rw [Nat.mul_succ]
  have e3:(t+1)*i=t*i+i:=nXz t i;exact ((h1.mono (S':=S+t+(t+1)*i+1+t) zo).add (h2.mono zo)).mono zo
end Go.Proofs.YtkcpmclnocmalaaGreat
