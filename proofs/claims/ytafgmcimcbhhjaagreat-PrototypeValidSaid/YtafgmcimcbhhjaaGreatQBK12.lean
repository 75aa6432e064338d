import Derived.Test.YtafgmcimcbhhjaaGreatQBK11
set_option linter.unusedVariables false
set_option maxHeartbeats 8000000
set_option maxRecDepth 8000
namespace Go.Proofs.YtafgmcimcbhhjaaGreat
open Go.RowKit Go.Front Go.Num Stab
attribute [local go_sem] XW.cell XW.frozen
structure SvL (w wr:World) (p q:List Rat) (S U:Nat) (qo:Option Addr) (m qc Lr b10 c:Nat) (z:RH) (P n j:Nat):Prop where
 ex:∃ (sl ros:List Rat) (f:Rat),bS wr Lr ros∧ros.length=P∧n≤P∧0<f∧DvI p q S U j sl (ros.take n) f
 hx:Ext w wr
 lq:LIn wr ⟨qo,m+1,qc⟩ q 0 w.heap.size
 B10:wr.heap[b10]?=some (.cells #[.bool z.neg,.slice z.a z.n z.c,.slice z.b z.m z.d] 34 (0,0))
 hz:aA wr z (aO q)
def SrP(p q:List Rat)(S U B:Nat)(x:SH)(w:World):Prop:=∃ L n c ros s f,B≤L∧x=⟨some ⟨L,0,none⟩,n,c⟩∧bS w L ros∧n≤ros.length∧ros.length≤c∧c≤9223372036854775807∧0<f∧DvP p q S U s (ros.take n) f
theorem tB(c:Rat):0<(((c.den:Nat):Int):Rat):=by
 have:=c.den_pos
 exact_mod_cast this
theorem yX(pa qa:Option Addr)(P pc m qc:Nat)(p q:List Rat)(S U:Nat)(w:World)(hp:aD w ⟨pa,P,pc⟩ p)(hq:aD w ⟨qa,m+1,qc⟩ q)(hpw:∀ x ∈ p,Wz S x)(hqw:∀ x ∈ q,Wz U x)(hS:1≤S)(hU:1≤U)(htp:tz p=p)(htq:tz q=q)(hP:P≤100000)(hmP:m<P)(hsz:S+(P-m)*(U+1)≤30000000)(hUz:U≤30000000) :
  ak 185 [.slice pa P pc,.slice qa (m+1:Nat) qc] w SH.v (fun x w'=>SrP p q S U w.heap.size x w'):=by
 have HX:=Hi (Ext.refl w);have LP:=Hi hp.lin;have LQ:=Hi hq.lin;have HPl:Hid (p.length=P):=Hi hp.len;have HQl:Hid (q.length=m+1):=Hi hq.len;have HPW:=Hi hpw;have HQW:=Hi hqw;have HTP:=Hi htp;have H0:Hid (aO q≠0):=Hi (by
  have:=co (q:=q) (by rw [htq];intro h;have:=HQl.out;rw [h] at this;simp at this)
  rwa [htq] at this)
 have hplc:=hp.le;have hqlc:=hq.le;have hqmx:=hq.max;have hpmx:=hp.max;simp only at hplc hqlc hqmx hpmx;clear hp hq hpw hqw htp htq;obtain ⟨M,hM⟩:∃ M,P=M+m:=⟨P-m,zo⟩;subst hM;rw [show M+m-m=M by omega] at hsz;unfold ak;go_enter Tryz.func185,Tryz.ntmps185
 go_wp2_with fail
 refine cM (nk pa (M+m) pc p _ LP.out.can zo zo) fun x5 w5 hE G5=>?_
 refine mV2 hE ?_ HX LQ;clear HX LQ;intro HX LQ;obtain ⟨Lr,c,hLr,hc1,hc2,hx5,hR5⟩:=G5.out;subst hx5;have HR:=Hi hR5;have hLrw:w.heap.size≤Lr:=hLr;have hLr5:Lr<w5.heap.size:=hR5.lt;clear hR5 G5;obtain ⟨b,off,r,hao,hbl,⟨hc1',hc2',hc3'⟩,hPc⟩:=LQ.out.celx (k:=m) zo;obtain ⟨rneg,ra,rn,rc,rb,rm,rd⟩:=r;simp only at hc1' hc2' hc3';have HC:Hid (aA w5 ⟨rneg,ra,rn,rc,rb,rm,rd⟩ (aO q)):=Hi (by unfold aO;rw [HQl.out];exact hPc);clear hPc;subst hao;go_wp2;refine nmA ?_;intro w6 hE B10 hz_w6 hr_w6;refine mV4 hE ?_ HX LQ HR HC;clear HX LQ HR HC;intro HX LQ HR HC;obtain ⟨b10,hb10⟩:∃ b10,b10=w5.heap.size:=⟨_,rfl⟩;have hLrb:Lr≠b10:=zo;rw [←hb10] at B10 ⊢;clear hb10 hc1' hc2' hc3' hbl;have hcmx:c≤9223372036854775807:=hc2;clear hLr5
 go_loopg [5] (M+m) (fun g v wr=>∃ (n j:Nat),j+g=M+m∧v=.slice (some ⟨Lr,0,none⟩) n c∧SvL w wr p q S U (some ⟨b,off,none⟩) m qc Lr b10 c ⟨rneg,ra,rn,rc,rb,rm,rd⟩ (M+m) n j)
 case atStart =>
  refine ⟨M+m,0,zo,by simp,⟨List.replicate M 0,p,1,HR.out,HPl.out,nXe _,dZ,?_⟩,HX.out,LQ.out,B10.out,HC.out⟩;have h1:=DvI.start (S:=S) (U:=U) (p:=p) (q:=q) HPW.out HTP.out (by rw [HPl.out,HQl.out];omega);rw [nXm (by rw [HPl.out];exact nXe _)];rw [HPl.out,HQl.out,show M+m-(m+1)+1=M by omega] at h1;exact h1
 case round =>
  obtain ⟨n,j,hjg,rfl,⟨sl,ros,f,gr,hrl,hnP,hf0,hI⟩,gx,gq,g10,gz⟩:=hrel;obtain ⟨g0,hg0⟩:∃ g0,g0=gk:=⟨_,rfl⟩;have hjn:n+j≤M+m:=by have:=hI.rl;rw [HPl.out,nXk,hrl] at this;omega
  clear HX LQ B10 HC HR LP;have HX:=Hi gx;have LQ:=Hi gq;have B10:=Hi g10;have HC:=Hi gz;have HR:=Hi gr;have HI:=Hi hI;have HRL:=Hi hrl;have HF0:=Hi hf0;clear gx gq g10 gz gr hI hrl hf0;have HSL:Hid (sl.length=M):=Hi (by have:=HI.out.sl;rw [HPl.out,HQl.out] at this;omega);replace b_B10:=bX3 B10;by_cases hn:n<m+1
  case pos =>
   have hn2:¬ ((m:Int)+1≤n):=zo;go_wp2
   go_ret
   exact ⟨⟨some ⟨Lr,0,none⟩,n,c⟩,rfl,HX.out,Lr,n,c,ros,sl,f,hLrw,rfl,HR.out,by rw [HRL.out];exact hnP,by rw [HRL.out];exact hc1,hcmx,HF0.out,HI.out.done (by rw [nXk,HQl.out];omega)⟩
  obtain ⟨t,rfl⟩:∃ t,n=t+m+1:=⟨n-(m+1),zo⟩;have HRT:Hid ((ros.take (t+m+1)).length=t+m+1):=Hi (by rw [nXk,HRL.out];omega);have hb10r:b10<wr.heap.size:=b_B10.2.2;have hLrr:Lr<wr.heap.size:=HR.out.lt;obtain ⟨B,hB⟩:∃ B,B=S+j*(U+1):=⟨_,rfl⟩;have hBz:B≤30000000:=by have:=HI.out.bnd.1;rw [HPl.out,HQl.out,show M+m+1-(m+1)=M by omega] at this;omega
  have hB1:1≤B:=zo;have HRW:Hid (∀ x ∈ ros.take (t+m+1),Wz B x):=Hi (by rw [hB];exact HI.out.rz);have HQWk:Hid (∀ k,k<m+1→Wz U (q.getD k 0)):=Hi (fun k hk=>HQW.out _ (bU (by rw [HQl.out];exact hk)));have HRWk:Hid (∀ k,k<t+m+1→Wz B (ros.getD k 0)):=Hi (fun k hk=>by have:=HRW.out _ (bU (i:=k) (by rw [HRT.out];exact hk));rwa [cg hk] at this);have HLQ:Hid (Wz U (aO q)):=Hi (by unfold aO;rw [HQl.out];exact HQWk.out m zo);obtain ⟨cq,hcq⟩:∃ cq,cq=ros.getD (t+m) 0 / aO q:=⟨_,rfl⟩;have HCQ:Hid (cq=aO (ros.take (t+m+1)) / aO q):=Hi (by rw [hcq];unfold aO;rw [HRT.out,Nat.add_sub_cancel,cg zo]);have HPA:Hid (Wz B ((cq.num:Int):Rat)∧Wz U (((cq.den:Nat):Int):Rat)):=Hi (by rw [hcq];exact (HRWk.out (t+m) zo).parts HLQ.out H0.out);have HDP:Hid (0<(((cq.den:Nat):Int):Rat)):=Hi (tB cq);obtain ⟨num,hnum⟩:∃ num:Rat,num=((cq.num:Int):Rat):=⟨_,rfl⟩;obtain ⟨den,hden⟩:∃ den:Rat,den=(((cq.den:Nat):Int):Rat):=⟨_,rfl⟩;rw [←hnum,←hden] at HPA;rw [←hden] at HDP;have HNUM:=Hi hnum;have HDEN:=Hi hden;have Hcq:=Hi hcq;clear hnum hden hcq hB;obtain ⟨r8,⟨f1,f2,f3⟩,hr8⟩:=bS.cells HR.out (k:=t+m) (by rw [HRL.out];omega);obtain ⟨r8n,r8a,r8l,r8c,r8b,r8m,r8d⟩:=r8;simp only at f1 f2 f3;have HR8:=Hi hr8;clear hr8;have ht1:(t:Int)+m+1-(m+1)=(t:Nat):=zo;have ht2:(t:Int)+m+1-1=((t+m:Nat):Int):=zo;have hn2:(m:Int)+1≤(t:Int)+m+1:=zo
  go_upto_region 5 with fail
  refine aF [(12,10)] _ (by simp only [gI,kH,List.push_toArray,List.cons_append,List.nil_append];exact rfl) (by intro c a d v w h;cases d <;> exact h) 12 (fun opIx=>match opIx with
   | 7=>.spec (RH) (default) (fun s=>.tuple #[s.v,.int .i64 0]) (fun x w'=>aA w' x cq)
   | 11=>.alloc 34 #[.bool false,.slice none 0 0,.slice none 0 0]
   | _=>.quiet) (fun _=>[]) kZ kZ kZ (fun w0 he0 hz0 hc0 hf0=>?_)
  replace he0:=Hi he0;simp only [pT];refine qQ ?_;refine wps he0 (fun w1 hW hG=>?_) fun x7=>?_
  ·exact spc [RH.v ⟨r8n,r8a,r8l,r8c,r8b,r8m,r8d⟩,RH.v ⟨rneg,ra,rn,rc,rb,rm,rd⟩] Tryz.func121 ((by rw [Hcq.out];exact bZ _ _ _ _ _ ((HR8.out.ext hW).raw ((HRWk.out _ zo).sz hB1) zo) ((HC.out.ext hW).raw (HLQ.out.sz hU) zo) H0.out))
  refine qZ ?_;refine aQ rfl rfl (fun w=>by simp [execOp,go_sem,ptr]) (fun b12 hb12 hl12=>?_);refine qZ ?_;refine aj ?_;intro w8 hI;have hE:=he0.out.trans hI.ext;have G7:=gT (hI.facts 7);have A12:Hid (w8.heap[b12]?=some (.cells #[.bool false,.slice none 0 0,.slice none 0 0] 34 (0,0))):=hI.facts 11;rw [hz0] at hl12;clear hI he0 hz0 hc0 hf0;refine mV5 hE ?_ HX LQ B10 HR HC;clear HX LQ B10 HR HC;intro HX LQ B10 HR HC;have hs_w8:=hE.size;replace b_A12:=bX3 A12;simp only [pD,ptr];clear f1 f2 f3 ht2;clear HR8
  go_upto_region 6 with fail
  refine aU A12.out rfl ?_;intro w9 T;replace HX:=Hi (T.ext HX.out zo);replace LQ:=Hi (LQ.out.put T zo);replace B10:=Hi (T.rest _ _ zo B10.out);replace HC:=Hi (HC.out.keep T.keep);replace HR:=Hi (HR.out.put T zo);replace A12:=Hi (T.bx);replace G7:=Hi (G7.out.keep T.keep);have hs_w9:=nle T.size;have hr_w9:=nle T.size.symm;clear T;replace b_A12:=bX3 A12
  go_wp2_with fail
  refine cM (ki x7 cq _ G7.out) fun x10 w10 hE G10=>?_
  refine mV5 hE ?_ HX LQ B10 HC HR;clear HX LQ B10 HC HR;intro HX LQ B10 HC HR;have hs_w10:=hE.size;obtain ⟨xn,xd⟩:=x10;have HN:Hid (aA w10 xn num):=Hi (by rw [HNUM.out];exact G10.out.1);have HD:Hid (aA w10 xd den):=Hi (by rw [HDEN.out];exact G10.out.2);clear G10;simp only [PT];clear G7
  go_upto_region 7 with fail
  (try clear b_A12);(try clear A12)
  refine kE ?_;intro w11 hE B14 B15 hz_w11 hr_w11;refine mV7 hE ?_ HX LQ B10 HC HR HN HD;clear HX LQ B10 HC HR HN HD;intro HX LQ B10 HC HR HN HD;obtain ⟨b14,hb14⟩:∃ b14,b14=w10.heap.size:=⟨_,rfl⟩;obtain ⟨b15,hb15⟩:∃ b15,b15=w10.heap.size+1:=⟨_,rfl⟩;have hb14r:wr.heap.size≤b14:=zo;have hb15r:wr.heap.size≤b15:=zo;have hb145:b14≠b15:=zo;rw [←hb15] at B15;rw [←hb14] at B14;rw [←hb15,←hb14];clear hb14 hb15;replace b_B15:=bX3 B15;obtain ⟨cc,hcc⟩:∃ cc,cc=dq den 1:=⟨_,rfl⟩;have Hcc:=Hi hcc;have HNW:Hid (Wz B num):=Hi HPA.out.1;have HDW:Hid (Wz U den):=Hi HPA.out.2;clear hcc;refine wpG 3 (fun opIx=>match opIx with
   | 1=>sR (((1:Int):Rat))
   | 2=>sU (.int .i64 cc)
   | _=>.quiet) (fun|2=>[1]|_=>[]) fun w0 he0 hz0 hc0 hf0=>?_
  refine wps he0 (fun w1 hW hG=>?_) fun x20=>?_
  ·exact spc [.int .i64 1] Tryz.func84 (aL 1 _ dZ dZ)
  refine qZ ?_;refine wps he0 (fun w1 hW hG=>?_) fun x21=>?_
  ·have g20:=gS (hG 1 dZ);exact spc [xd.v,x20.v] Tryz.func80 ((by rw [Hcc.out];exact eb _ _ _ _ _ ((HD.out.ext hW).raw (HDW.out.sz hU) zo) (g20.raw (Sz.int dZ) dZ)))
  refine qZ ?_;refine aj ?_;intro w12 hI;have hE:=he0.out.trans hI.ext;clear hI he0 hz0 hc0 hf0;refine mV8 hE ?_ B14 B15 HX LQ B10 HC HR HN;clear B14 B15 HX LQ B10 HC HR HN;intro B14 B15 HX LQ B10 HC HR HN;replace HD:=mV hE HD;simp only [pD];by_cases hcc0:cc=0
  case pos =>
   subst hcc0;have hd1:den=1:=vU.1 Hcc.out.symm;replace HR:=Hi (show bS w12 Lr (cU ros (t+m+1) den) by rw [hd1,ov];exact HR.out);clear hd1
   (try simp only [SH.v])
   clear HD
   (try clear b_B15);(try clear B15)
   go_wp2
   go_loopg [70] (m+1) (fun g v wr=>∃ (k:Nat),k+g=m+1∧v=.int .i64 (k:Nat)∧Ext w wr∧LIn wr ⟨some ⟨b,off,none⟩,m+1,qc⟩ q 0 w.heap.size∧wr.heap[b10]?=some (.cells #[.bool rneg,.slice ra rn rc,.slice rb rm rd] 34 (0,0))∧wr.heap[b14]?=some (.cells #[.bool xn.neg,.slice xn.a xn.n xn.c,.slice xn.b xn.m xn.d] 34 (0,0))∧aA wr ⟨rneg,ra,rn,rc,rb,rm,rd⟩ (aO q)∧aA wr xn num∧bS wr Lr (gt (cU ros (t+m+1) den) t q num k))
   case atStart=>exact ⟨0,zo,rfl,HX.out,LQ.out,B10.out,B14.out,HC.out,HN.out,HR.out⟩
   case round =>
    obtain ⟨k,hk,rfl,g1,g2,g5,g6,g7,g9,g11⟩:=hrel;clear HX LQ B10 B14 HC HN HR;have HX:=Hi g1;have LQ:=Hi g2;have B10:=Hi g5;have B14:=Hi g6;have HC:=Hi g7;have HN:=Hi g9;have HR:=Hi g11;clear g1 g2 g5 g6 g7 g9 g11;by_cases h0:gk=0
    case neg =>
     have hin:(k:Int)<(m:Int)+1:=zo;obtain ⟨b',off',r17,hao,hbl,⟨hc1',hc2',hc3'⟩,hPc⟩:=LQ.out.celx (k:=k) zo;obtain ⟨rfl,rfl⟩:b=b'∧off=off':=by simpa using hao
     obtain ⟨qn,qa',ql,qc',qb,qm,qd⟩:=r17;simp only at hc1' hc2' hc3';have HQk:=Hi hPc;clear hPc hao
     go_upto_region 16 with fail
     clear hc1' hc2' hc3';refine nmA ?_;intro y18 hE B17 hz_y18 hr_y18;refine mV8 hE ?_ HX LQ B10 B14 HC HN HR HQk;clear HX LQ B10 B14 HC HN HR HQk;intro HX LQ B10 B14 HC HN HR HQk;replace b_B14:=bX3 B14;replace b_B17:=bX3 B17;obtain ⟨r18,⟨f1,f2,f3⟩,hr18⟩:=bS.cells HR.out (k:=t+k) (by rw [aS,aE,HRL.out];omega);have hLl:=bS.lt HR.out;obtain ⟨sn,sa,sl',sc,sb,sm',sd⟩:=r18;simp only at f1 f2 f3;have HR18:=Hi hr18;clear hr18;have HRV:Hid (Wz (B+U) ((gt (cU ros (t+m+1) den) t q num k).getD (t+k) 0)):=Hi (by
      rw [ie _ _ _ _ _ (by rw [aE,HRL.out];omega),if_neg zo,mi _ (by rw [HRL.out];omega) zo];have:=(HRWk.out (t+k) zo).mul HDW.out;rw [t8];exact this)
     refine wpG 14 (fun opIx=>match opIx with
      | 12=>sR (num*q.getD k 0)
      | 13=>sR ((gt (cU ros (t+m+1) den) t q num k).getD (t+k) 0-num*q.getD k 0)
      | _=>.quiet) (fun|13=>[12]|_=>[]) fun w0 he0 hz0 hc0 hf0=>?_
     refine wps he0 (fun w1 hW hG=>?_) fun x22=>?_
     ·exact spc [xn.v,RH.v ⟨qn,qa',ql,qc',qb,qm,qd⟩] Tryz.func85 (aV _ _ _ _ _ ((HN.out.ext hW).raw (HNW.out.sz hB1) zo) ((HQk.out.ext hW).raw ((HQWk.out k zo).sz hU) zo))
     refine qZ ?_;refine wps he0 (fun w1 hW hG=>?_) fun x23=>?_
     ·have g22:=gS (hG 12 dZ);exact spc [RH.v ⟨sn,sa,sl',sc,sb,sm',sd⟩,x22.v] Tryz.func120 (dG _ x22 _ _ _ ((HR18.out.ext hW).raw (HRV.out.sz zo) zo) (g22.raw ((HNW.out.mul (HQWk.out k zo)).sz zo) zo))
     refine qZ ?_;refine aj ?_;intro y19 hI;have hE:=he0.out.trans hI.ext;have G23:=gT (hI.facts 13);clear hI he0 hz0 hc0 hf0;refine mV7 hE ?_ HX LQ B10 B14 HC HR HN;clear HX LQ B10 B14 HC HR HN;intro HX LQ B10 B14 HC HR HN;simp only [pD];clear f1 f2 f3 hLl;clear HR18;clear HQk;obtain ⟨r19,⟨f1,f2,f3⟩,-⟩:=bS.cells HR.out (k:=t+k) (by rw [aS,aE,HRL.out];omega);have hfz:=bS.frozen HR.out
     go_upto_region 17 with fail
     refine iz (k:=t+k) HR.out (by rw [aS,aE,HRL.out];omega) G23.out ?_;rintro y20 ⟨cs,T⟩ TN;clear f1 f2 f3 hfz
     (try clear b_B17);(try clear B17)
     clear G23;clear HR;replace HX:=Hi (T.ext HX.out zo);replace LQ:=Hi (LQ.out.put T zo);replace B10:=Hi (T.rest _ _ zo B10.out);replace B14:=Hi (T.rest _ _ zo B14.out);replace HC:=Hi (HC.out.keep T.keep);replace HN:=Hi (HN.out.keep T.keep);clear T;have HR:=Hi TN;clear TN;go_wp2
     go_roundg (gk-1)
     case measure=>omega
     case rel=>exact ⟨k+1,zo,by go_num,HX.out,LQ.out,B10.out,B14.out,HC.out,HN.out,HR.out⟩
    subst h0;obtain rfl:k=m+1:=by omega
    have hin:¬ ((m:Int)+1<(m:Int)+1):=zo;obtain ⟨hI2,hW2⟩:=HI.out.row HQl.out (by rw [HRL.out];omega) HSL.out H0.out HQW.out HCQ.out HNUM.out HDEN.out;have HI2:=Hi hI2;have HRN:Hid (aD wr ⟨some ⟨Lr,0,none⟩,t+m+1,c⟩ ((gt (cU ros (t+m+1) den) t q num (m+1)).take (t+m+1))):=Hi ((HR.out.can (by rw [aS,aE,HRL.out]) hc1 hcmx).take hnP);have HSZ:Hid (SzL (S+j*(U+1)+U+1) ((gt (cU ros (t+m+1) den) t q num (m+1)).take (t+m+1))):=Hi (fun x hx=>(hW2 x hx).sz zo);clear hI2 hW2;have hBz2:S+j*(U+1)≤30000000:=by have:=HI.out.bnd.1;rw [HPl.out,HQl.out,show M+m+1-(m+1)=M by omega] at this;omega
    go_wp2_with fail
    refine cM (nS (some ⟨Lr,0,none⟩) (t+m+1) c _ _ (HRN.out.raw HSZ.out zo)) fun x24 w24 hE G24=>?_
    refine mV5 hE ?_ HX LQ B10 HC HR;clear HX LQ B10 HC HR;intro HX LQ B10 HC HR;obtain ⟨q1,q2⟩:=G24.out;have HQ1:=Hi q1;clear q1 G24;go_wp2
    go_roundg (g0-1)
    case measure=>omega
    case rel =>
     refine ⟨_,j+1,zo,rfl,⟨(cU sl M den).set t num,gt (cU ros (t+m+1) den) t q num (m+1),f*den,HR.out,by rw [aS,aE,HRL.out],zo,Rat.mul_pos HF0.out HDP.out,?_⟩,HX.out,LQ.out,B10.out,HC.out⟩;have h1:=HI2.out;rw [HQ1.out,List.take_take,Nat.min_eq_left zo] at h1;exact h1
  have hccb:(cc == 0)=false:=by simpa using hcc0
  clear hcc0
  (try simp only [SH.v])
  go_wp2
  go_loopg [55] (t+m+1) (fun g v wr=>∃ (i:Nat),i+g=t+m+1∧v=.int .i64 (i:Nat)∧Ext w wr∧LIn wr ⟨some ⟨b,off,none⟩,m+1,qc⟩ q 0 w.heap.size∧wr.heap[b10]?=some (.cells #[.bool rneg,.slice ra rn rc,.slice rb rm rd] 34 (0,0))∧wr.heap[b14]?=some (.cells #[.bool xn.neg,.slice xn.a xn.n xn.c,.slice xn.b xn.m xn.d] 34 (0,0))∧wr.heap[b15]?=some (.cells #[.bool xd.neg,.slice xd.a xd.n xd.c,.slice xd.b xd.m xd.d] 34 (0,0))∧aA wr ⟨rneg,ra,rn,rc,rb,rm,rd⟩ (aO q)∧aA wr xn num∧aA wr xd den∧bS wr Lr (cU ros i den))
  case atStart=>exact ⟨0,zo,rfl,HX.out,LQ.out,B10.out,B14.out,B15.out,HC.out,HN.out,HD.out,by simpa [cU] using HR.out⟩
  case round =>
   obtain ⟨i,hi,rfl,g1,g2,g3,g4,g5,g6,g7,g8,g9⟩:=hrel;clear HX LQ B10 B14 B15 HC HN HD HR;have HX:=Hi g1;have LQ:=Hi g2;have B10:=Hi g3;have B14:=Hi g4;have B15:=Hi g5;have HC:=Hi g6;have HN:=Hi g7;have HD:=Hi g8;have HR:=Hi g9;clear g1 g2 g3 g4 g5 g6 g7 g8 g9;replace b_B15:=bX3 B15;by_cases h0:gk=0
   case neg =>
    have hin:(i:Int)<(t:Int)+m+1:=zo;have HL:Hid ((cU ros i den).length=ros.length):=Hi (aE _ _ _);have HV:Hid ((cU ros i den).getD i 0=ros.getD i 0):=Hi (by
     have h2:=HRL.out;unfold cU;have h1:((ros.take i).map (·*den)).length=i:=by rw [nXl,nXk];omega
     rw [nXd,List.getElem?_append_right zo,h1,Nat.sub_self,List.getElem?_drop,Nat.add_zero,←nXd])
    obtain ⟨r,⟨f1,f2,f3⟩,hrc⟩:=bS.cells HR.out (k:=i) (by rw [HL.out,HRL.out];omega);rw [HV.out] at hrc;have HRC:=Hi hrc;clear hrc;have hLl:=bS.lt HR.out;obtain ⟨ren,rea,rel,rec',reb,rem,red⟩:=r;simp only at f1 f2 f3
    go_upto_region 11 with fail
    refine wpG 8 (fun opIx=>match opIx with
     | 7=>sR (ros.getD i 0*den)
     | _=>.quiet) (fun _=>[]) fun w0 he0 hz0 hc0 hf0=>?_
    refine wps he0 (fun w1 hW hG=>?_) fun x7=>?_
    ·exact spc [RH.v ⟨ren,rea,rel,rec',reb,rem,red⟩,xd.v] Tryz.func85 (aV _ _ _ _ _ ((HRC.out.ext hW).raw ((HRWk.out i zo).sz hB1) zo) ((HD.out.ext hW).raw (HDW.out.sz hU) zo))
    refine qZ ?_;refine aj ?_;intro w5 hI;have hE:=he0.out.trans hI.ext;have G7:=gT (hI.facts 7);clear hI he0 hz0 hc0 hf0;refine mV8 hE ?_ HX LQ B10 B14 B15 HC HN HR;clear HX LQ B10 B14 B15 HC HN HR;intro HX LQ B10 B14 B15 HC HN HR;replace HD:=mV hE HD;simp only [pD];clear f1 f2 f3 hLl;clear HRC;obtain ⟨r2,⟨f1,f2,f3⟩,-⟩:=bS.cells HR.out (k:=i) (by rw [HL.out,HRL.out];omega);have hfz:=bS.frozen HR.out
    go_upto_region 12 with fail
    refine iz (k:=i) HR.out (by rw [HL.out,HRL.out];omega) G7.out ?_;rintro y6 ⟨cs,T⟩ TN;rw [oo (by rw [HRL.out];omega)] at TN;clear f1 f2 f3 hfz HL HV;clear G7;clear HR;replace HX:=Hi (T.ext HX.out zo);replace LQ:=Hi (LQ.out.put T zo);replace B10:=Hi (T.rest _ _ zo B10.out);replace B14:=Hi (T.rest _ _ zo B14.out);replace B15:=Hi (T.rest _ _ zo B15.out);replace HC:=Hi (HC.out.keep T.keep);replace HN:=Hi (HN.out.keep T.keep);replace HD:=Hi (HD.out.keep T.keep);clear T;have HR:=Hi TN;clear TN;go_wp2
    go_roundg (gk-1)
    case measure=>omega
    case rel=>exact ⟨i+1,zo,by go_num,HX.out,LQ.out,B10.out,B14.out,B15.out,HC.out,HN.out,HD.out,HR.out⟩
   subst h0;obtain rfl:i=t+m+1:=by omega
   have hin:¬ ((t:Int)+m+1<(t:Int)+m+1):=zo;clear HD
   (try clear b_B15);(try clear B15)
   go_wp2
   go_loopg [70] (m+1) (fun g v wr=>∃ (k:Nat),k+g=m+1∧v=.int .i64 (k:Nat)∧Ext w wr∧LIn wr ⟨some ⟨b,off,none⟩,m+1,qc⟩ q 0 w.heap.size∧wr.heap[b10]?=some (.cells #[.bool rneg,.slice ra rn rc,.slice rb rm rd] 34 (0,0))∧wr.heap[b14]?=some (.cells #[.bool xn.neg,.slice xn.a xn.n xn.c,.slice xn.b xn.m xn.d] 34 (0,0))∧aA wr ⟨rneg,ra,rn,rc,rb,rm,rd⟩ (aO q)∧aA wr xn num∧bS wr Lr (gt (cU ros (t+m+1) den) t q num k))
   case atStart=>exact ⟨0,zo,rfl,HX.out,LQ.out,B10.out,B14.out,HC.out,HN.out,HR.out⟩
   case round =>
    obtain ⟨k,hk,rfl,g1,g2,g5,g6,g7,g9,g11⟩:=hrel;clear HX LQ B10 B14 HC HN HR;have HX:=Hi g1;have LQ:=Hi g2;have B10:=Hi g5;have B14:=Hi g6;have HC:=Hi g7;have HN:=Hi g9;have HR:=Hi g11;clear g1 g2 g5 g6 g7 g9 g11;by_cases h0:gk=0
    case neg =>
     have hin:(k:Int)<(m:Int)+1:=zo;obtain ⟨b',off',r17,hao,hbl,⟨hc1',hc2',hc3'⟩,hPc⟩:=LQ.out.celx (k:=k) zo;obtain ⟨rfl,rfl⟩:b=b'∧off=off':=by simpa using hao
     obtain ⟨qn,qa',ql,qc',qb,qm,qd⟩:=r17;simp only at hc1' hc2' hc3';have HQk:=Hi hPc;clear hPc hao
     go_upto_region 16 with fail
     clear hc1' hc2' hc3';refine nmA ?_;intro y18 hE B17 hz_y18 hr_y18;refine mV8 hE ?_ HX LQ B10 B14 HC HN HR HQk;clear HX LQ B10 B14 HC HN HR HQk;intro HX LQ B10 B14 HC HN HR HQk;replace b_B14:=bX3 B14;replace b_B17:=bX3 B17;obtain ⟨r18,⟨f1,f2,f3⟩,hr18⟩:=bS.cells HR.out (k:=t+k) (by rw [aS,aE,HRL.out];omega);have hLl:=bS.lt HR.out;obtain ⟨sn,sa,sl',sc,sb,sm',sd⟩:=r18;simp only at f1 f2 f3;have HR18:=Hi hr18;clear hr18;have HRV:Hid (Wz (B+U) ((gt (cU ros (t+m+1) den) t q num k).getD (t+k) 0)):=Hi (by
      rw [ie _ _ _ _ _ (by rw [aE,HRL.out];omega),if_neg zo,mi _ (by rw [HRL.out];omega) zo];have:=(HRWk.out (t+k) zo).mul HDW.out;rw [t8];exact this)
     refine wpG 14 (fun opIx=>match opIx with
      | 12=>sR (num*q.getD k 0)
      | 13=>sR ((gt (cU ros (t+m+1) den) t q num k).getD (t+k) 0-num*q.getD k 0)
      | _=>.quiet) (fun|13=>[12]|_=>[]) fun w0 he0 hz0 hc0 hf0=>?_
     refine wps he0 (fun w1 hW hG=>?_) fun x22=>?_
     ·exact spc [xn.v,RH.v ⟨qn,qa',ql,qc',qb,qm,qd⟩] Tryz.func85 (aV _ _ _ _ _ ((HN.out.ext hW).raw (HNW.out.sz hB1) zo) ((HQk.out.ext hW).raw ((HQWk.out k zo).sz hU) zo))
     refine qZ ?_;refine wps he0 (fun w1 hW hG=>?_) fun x23=>?_
     ·have g22:=gS (hG 12 dZ);exact spc [RH.v ⟨sn,sa,sl',sc,sb,sm',sd⟩,x22.v] Tryz.func120 (dG _ x22 _ _ _ ((HR18.out.ext hW).raw (HRV.out.sz zo) zo) (g22.raw ((HNW.out.mul (HQWk.out k zo)).sz zo) zo))
     refine qZ ?_;refine aj ?_;intro y19 hI;have hE:=he0.out.trans hI.ext;have G23:=gT (hI.facts 13);clear hI he0 hz0 hc0 hf0;refine mV7 hE ?_ HX LQ B10 B14 HC HR HN;clear HX LQ B10 B14 HC HR HN;intro HX LQ B10 B14 HC HR HN;simp only [pD];clear f1 f2 f3 hLl;clear HR18;clear HQk;obtain ⟨r19,⟨f1,f2,f3⟩,-⟩:=bS.cells HR.out (k:=t+k) (by rw [aS,aE,HRL.out];omega);have hfz:=bS.frozen HR.out
     go_upto_region 17 with fail
     refine iz (k:=t+k) HR.out (by rw [aS,aE,HRL.out];omega) G23.out ?_;rintro y20 ⟨cs,T⟩ TN;clear f1 f2 f3 hfz
     (try clear b_B17);(try clear B17)
     clear G23;clear HR;replace HX:=Hi (T.ext HX.out zo);replace LQ:=Hi (LQ.out.put T zo);replace B10:=Hi (T.rest _ _ zo B10.out);replace B14:=Hi (T.rest _ _ zo B14.out);replace HC:=Hi (HC.out.keep T.keep);replace HN:=Hi (HN.out.keep T.keep);clear T;have HR:=Hi TN;clear TN;go_wp2
     go_roundg (gk-1)
     case measure=>omega
     case rel=>exact ⟨k+1,zo,by go_num,HX.out,LQ.out,B10.out,B14.out,HC.out,HN.out,HR.out⟩
    subst h0;obtain rfl:k=m+1:=by omega
    have hin:¬ ((m:Int)+1<(m:Int)+1):=zo;obtain ⟨hI2,hW2⟩:=HI.out.row HQl.out (by rw [HRL.out];omega) HSL.out H0.out HQW.out HCQ.out HNUM.out HDEN.out;have HI2:=Hi hI2;have HRN:Hid (aD wr ⟨some ⟨Lr,0,none⟩,t+m+1,c⟩ ((gt (cU ros (t+m+1) den) t q num (m+1)).take (t+m+1))):=Hi ((HR.out.can (by rw [aS,aE,HRL.out]) hc1 hcmx).take hnP);have HSZ:Hid (SzL (S+j*(U+1)+U+1) ((gt (cU ros (t+m+1) den) t q num (m+1)).take (t+m+1))):=Hi (fun x hx=>(hW2 x hx).sz zo);clear hI2 hW2;have hBz2:S+j*(U+1)≤30000000:=by have:=HI.out.bnd.1;rw [HPl.out,HQl.out,show M+m+1-(m+1)=M by omega] at this;omega
    go_wp2_with fail
    refine cM (nS (some ⟨Lr,0,none⟩) (t+m+1) c _ _ (HRN.out.raw HSZ.out zo)) fun x24 w24 hE G24=>?_
    refine mV5 hE ?_ HX LQ B10 HC HR;clear HX LQ B10 HC HR;intro HX LQ B10 HC HR;obtain ⟨q1,q2⟩:=G24.out;have HQ1:=Hi q1;clear q1 G24;go_wp2
    go_roundg (g0-1)
    case measure=>omega
    case rel =>
     refine ⟨_,j+1,zo,rfl,⟨(cU sl M den).set t num,gt (cU ros (t+m+1) den) t q num (m+1),f*den,HR.out,by rw [aS,aE,HRL.out],zo,Rat.mul_pos HF0.out HDP.out,?_⟩,HX.out,LQ.out,B10.out,HC.out⟩;have h1:=HI2.out;rw [HQ1.out,List.take_take,Nat.min_eq_left zo] at h1;exact h1
theorem iF(q:Rat):dq q 0=Sg.sg q:=by
 unfold dq Sg.sg;rfl
theorem Dx{a b:Rat}(hb:0<b):dq a 0=dq (a / b) 0:=by
 have h1:a=a / b*b:=(dJ (fun h=>by rw [h] at hb;exact absurd hb Rat.lt_irrefl)).symm;unfold dq;by_cases hz:a=0
 ·subst hz;rw [show (0:Rat) / b=0 by rw [Rat.div_def,nYb]]
 ·have hz2:a / b≠0:=fun h=>hz (by rw [h1,h,nYb])
  rw [if_neg hz,if_neg hz2];by_cases hn:a<0
  ·rw [if_pos hn,if_pos];by_cases h:a / b<0
   ·exact h
   ·have h0:0<a / b:=by grind
    have:=Rat.mul_pos h0 hb;rw [←h1] at this;grind
  ·rw [if_neg hn,if_neg];intro h;have h2:0 < -(a / b):=by grind
   have:=Rat.mul_pos h2 hb;have h3:-(a / b)*b=-a:=by rw [Rat.neg_mul,←h1]
   rw [h3] at this;exact hn (by grind)
theorem Dg(x:Rat)(i:Nat):0<ehP x i:=by
 unfold ehP;exact Rat.pow_pos (tB x)
theorem lF(ao:Option Addr)(n c:Nat)(a:List Rat)(t:RH)(x:Rat)(S T:Nat)(w:World)(h:aD w ⟨ao,n,c⟩ a)(ht:aA w t x)(hn:n≤1000)(hwa:∀ y ∈ a,Wz S y)(hx:Sz T x)(hT:1≤T)(hS:1≤S)(hS3:S≤30000000)(hT3:T≤1000) :
  ak 79 [.slice ao n c,t.v] w (fun _:Unit=>.int .i64 (Sg.sg (evV a x))) (fun _ _=>True):=by
 have LA:=Hi h.lin;have HT:=Hi ht;have HX:=Hi (Ext.refl w);have WA:=Hi hwa;have ZX:=Hi hx;have HPl:=Hi h.len;simp only at HPl;obtain ⟨tn,ta,tl,tc,tb,tm,td⟩:=t;clear h ht hwa hx;obtain ⟨P,hP⟩:∃ P,P=n:=⟨_,rfl⟩;rw [←hP] at LA HPl hn ⊢;clear hP;have ZA:Hid (SzL S a):=Hi (fun y hy=>(WA.out y hy).sz hS);have hP1:=LA.out.can.le;have hP2:=LA.out.can.max;simp only at hP1 hP2;unfold ak;go_enter Tryz.func79,Tryz.ntmps79
 go_upto_region 1 with fail
 refine nmA ?_;intro w1 hE B3 hz_w1 hr_w1;refine mV3 hE ?_ LA HT HX;clear LA HT HX;intro LA HT HX;replace b_B3:=bX3 B3
 go_wp2_with fail
 refine cM (ki ⟨tn,ta,tl,tc,tb,tm,td⟩ x _ HT.out) fun x6 w6 hE G6=>?_
 refine mV2 hE ?_ LA HX;clear LA HX;intro LA HX;obtain ⟨xn,xd⟩:=x6;have HN:=Hi G6.out.1;have HD:=Hi G6.out.2;clear G6;simp only [PT] at *
 go_upto_region 2 with fail
 refine kE ?_;intro w7 hE B7 B8 hz_w7 hr_w7;refine mV4 hE ?_ LA HX HN HD;clear LA HX HN HD;intro LA HX HN HD;obtain ⟨b7,hb7⟩:∃ b7,b7=w6.heap.size:=⟨_,rfl⟩;obtain ⟨b8,hb8⟩:∃ b8,b8=w6.heap.size+1:=⟨_,rfl⟩;have hb7w:b7<w7.heap.size:=zo;rw [←hb8] at B8 ⊢;rw [←hb7] at B7 ⊢;clear hb7 hb8;have LA7:=LA;have HN7:=HN;have HD7:=HD;have B77:=B7;have B87:=B8;have HX0:=HX;have HX7:=Hi (Ext.refl w7);clear LA;clear HN;clear HD;clear HT
 (try clear b_B3);(try clear B3)
 (try clear b_B7);(try clear B7)
 (try clear b_B8);(try clear B8)
 clear HX
 go_wp2_with fail
 refine cM (aL 0 _ dZ dZ) fun x8 w8 hE G8=>?_
 replace HX7:=hE.tr HX7;have hs_w8:=hE.size
 go_wp2_with fail
 refine cM (aL 1 _ dZ dZ) fun x9 w9 hE G9=>?_
 refine mV2 hE ?_ G8 HX7;clear G8 HX7;intro G8 HX7;have hs_w9:=hE.size
 go_upto_region 3 with fail
 refine kE ?_;intro w10 hE B9 B10 hz_w10 hr_w10;refine mV3 hE ?_ G9 G8 HX7;clear G9 G8 HX7;intro G9 G8 HX7;have HS0:Hid (aA w10 x8 (ehS a x 0)):=Hi (by unfold ehS;rw [if_pos rfl];exact G8.out);have HP0:Hid (aA w10 x9 (ehP x 0)):=Hi (by unfold ehP;rw [Nat.zero_sub,Rat.pow_zero];exact G9.out);obtain ⟨b9,hb9⟩:∃ b9,b9=w9.heap.size:=⟨_,rfl⟩;obtain ⟨b10,hb10⟩:∃ b10,b10=w9.heap.size+1:=⟨_,rfl⟩;have hw9:w7.heap.size≤b9:=zo;have hw10:w7.heap.size≤b10:=zo;have h910:b9≠b10:=zo;rw [←hb10] at B10 ⊢;rw [←hb9] at B9 ⊢;clear hb9 hb10;go_wp2
 go_loopg [19] P (fun g v wr=>∃ (i:Nat) (u y:RH),i+g=P∧v=.int .i64 (i:Nat)∧Ext w7 wr∧wr.heap[b9]?=some (.cells #[.bool u.neg,.slice u.a u.n u.c,.slice u.b u.m u.d] 34 (0,0))∧wr.heap[b10]?=some (.cells #[.bool y.neg,.slice y.a y.n y.c,.slice y.b y.m y.d] 34 (0,0))∧aA wr u (ehS a x i)∧aA wr y (ehP x i))
 case atStart=>exact ⟨0,x8,x9,zo,rfl,HX7.out,B9.out,B10.out,HS0.out,HP0.out⟩
 case round =>
  obtain ⟨i,⟨un,ua,ul,uc,ub,um,ud⟩,⟨yn,ya,yl,yc,yb,ym,yd⟩,hi,rfl,g1,g2,g3,g4,g5⟩:=hrel;clear HX7 B9 B10 HS0 HP0 G8 G9;have HX7:=Hi g1;have B9:=Hi g2;have B10:=Hi g3;have HU:=Hi g4;have HY:=Hi g5;clear g1 g2 g3 g4 g5;have hTi:T*i≤1000*1000:=nXy hT3 zo;have hTi2:(T+1)*i=T*i+i:=nXz T i;have hTi3:T*(i+1)=T*i+T:=Nat.mul_succ T i;have ZU:Hid (Sz 32000000 (ehS a x i)):=Hi (((Fq WA.out ZX.out i (by rw [HPl.out];omega)).mono zo).sz dZ);have ZY:Hid (Sz 2000000 (ehP x i)):=Hi (((xF ZX.out).mono zo).sz dZ);replace b_B9:=bX3 B9;by_cases h0:gk=0
  case pos =>
   subst h0;obtain rfl:i=P:=by omega
   have hin:¬ (i:Int)<i:=zo;have HXw:=Hi (HX0.out.trans HX7.out);have HE:Hid (dq (ehS a x i) 0=Sg.sg (evV a x)):=Hi (by have:=Fp a x;rw [HPl.out] at this;rw [Dx (Dg x i),this,iF])
   go_wp2_with fail
   refine cM (cW ⟨un,ua,ul,uc,ub,um,ud⟩ (ehS a x i) _ (HU.out.raw ZU.out zo)) fun x20 w20 hE _=>?_
   replace HXw:=hE.tr HXw;rw [HE.out];go_wp2
   go_ret
   exact ⟨(),rfl,HXw.out,trivial⟩
  have hin:(i:Int)<P:=zo;have B7:=Hi (HX7.out.block B77.out);have B8:=Hi (HX7.out.block B87.out);replace b_B9:=bX3 B9;replace b_B10:=bX3 B10;replace b_B7:=bX3 B7;replace b_B8:=bX3 B8;obtain ⟨k,hk⟩:∃ k,k=P-1-i:=⟨_,rfl⟩;have hkP:k<P:=zo;have hki:(P:Int)-1-i=k:=by omega
  have HST:Hid (ehS a x i*(x.num:Rat)+a.getD k 0*ehP x (i+1)=ehS a x (i+1)):=Hi (by rw [hk,←HPl.out];exact xE x (by rw [HPl.out];omega));have ZY1:Hid (Sz 2003000 (ehP x (i+1))):=Hi (((xF ZX.out).mono zo).sz dZ);have ZK:Hid (Sz S (a.getD k 0)):=Hi (ZA.out.at (by rw [HPl.out];exact hkP));clear hk;by_cases hi0:i=0
  case pos =>
   subst hi0;have hk0:(P:Int)-1=k:=by omega
   clear hki;have HY1:Hid (aA wr ⟨yn,ya,yl,yc,yb,ym,yd⟩ (ehP x (0+1))):=HY;clear HY;obtain ⟨ba,oa,r,hao,hbl,⟨hc1,hc2,hc3⟩,hPc⟩:=(LA7.out.ext HX7.out).celx (k:=k) hkP;obtain ⟨rneg,ra,rn,rc,rb,rm,rd⟩:=r;simp only at hc1 hc2 hc3;have HC:=Hi hPc;clear hPc;subst hao
   go_upto_region 8 with fail
   refine wpG 14 (fun opIx=>match opIx with
    | 2=>sR (ehS a x 0*(x.num:Rat))
    | 12=>sR (a.getD k 0*ehP x (0+1))
    | 13=>sR (ehS a x 0*(x.num:Rat)+a.getD k 0*ehP x (0+1))
    | _=>.quiet) (fun|13=>[2,12]|_=>[]) fun w0 he0 hz0 hc0 hf0=>?_
   refine wps he0 (fun w1 hW hG=>?_) fun x30=>?_
   ·exact spc [RH.v ⟨un,ua,ul,uc,ub,um,ud⟩,xn.v] Tryz.func85 (aV _ xn _ _ _ ((HU.out.ext hW).raw ZU.out zo) (((HN7.out.ext HX7.out).ext hW).raw (sO ZX.out hT) zo))
   refine qZ ?_;refine wps he0 (fun w1 hW hG=>?_) fun x31=>?_
   ·exact spc [RH.v ⟨rneg,ra,rn,rc,rb,rm,rd⟩,RH.v ⟨yn,ya,yl,yc,yb,ym,yd⟩] Tryz.func85 (aV _ _ _ _ _ ((HC.out.ext hW).raw ZK.out zo) ((HY1.out.ext hW).raw ZY1.out zo))
   refine qZ ?_;refine wps he0 (fun w1 hW hG=>?_) fun x32=>?_
   ·have g30:=gS (hG 2 dZ);have g31:=gS (hG 12 dZ);exact spc [x30.v,x31.v] Tryz.func118 (df x30 x31 _ _ _ (g30.raw (ZU.out.mul (sO ZX.out hT)) zo) (g31.raw (ZK.out.mul ZY1.out) zo))
   refine qZ ?_;refine aj ?_;intro w14 hI;have hE:=he0.out.trans hI.ext;have G32:=gT (hI.facts 13);clear hI he0 hz0 hc0 hf0;refine mV4 hE ?_ B9 B10 HX7 HY1;clear B9 B10 HX7 HY1;intro B9 B10 HX7 HY1;replace b_B9:=bX3 B9;simp only [pD];clear hc1 hc2 hc3;rw [HST.out] at G32
   go_upto_region 9 with fail
   refine aU B9.out rfl ?_;intro w15 T;replace HX7:=Hi (T.ext HX7.out zo);replace B9:=Hi (T.bx);replace B10:=Hi (T.rest _ _ zo B10.out);replace HY1:=Hi (HY1.out.keep T.keep);replace G32:=Hi (G32.out.keep T.keep);clear T;go_wp2
   go_roundg (gk-1)
   case measure=>omega
   case rel=>exact ⟨0+1,x32,⟨yn,ya,yl,yc,yb,ym,yd⟩,zo,by go_num,HX7.out,B9.out,B10.out,G32.out,HY1.out⟩
  have hi0':(0:Int)<i:=zo
  go_wp2_with fail
  refine cM (aV ⟨yn,ya,yl,yc,yb,ym,yd⟩ xd (ehP x i) ((x.den:Int):Rat) _ (HY.out.raw ZY.out zo) ((HD7.out.ext HX7.out).raw (Fz ZX.out hT) zo)) fun x11 w11 hE G11=>?_
  refine mV5 hE ?_ B7 HU HX7 B9 B10;clear B7 HU HX7 B9 B10;intro B7 HU HX7 B9 B10;replace b_B10:=bX3 B10
  go_upto_region 8 with fail
  refine aU B10.out rfl ?_;intro w12 T;replace HX7:=Hi (T.ext HX7.out zo);replace HU:=Hi (HU.out.keep T.keep);replace B9:=Hi (T.rest _ _ zo B9.out);replace B10:=Hi (T.bx);replace B7:=Hi (T.rest _ _ zo B7.out);replace G11:=Hi (G11.out.keep T.keep);clear T;replace b_B9:=bX3 B9;replace b_B10:=bX3 B10;replace b_B7:=bX3 B7;have HY1:Hid (aA w12 x11 (ehP x (i+1))):=Hi (by rw [←Ax x zo];exact G11.out);obtain ⟨zn,za,zl,zc,zb,zm,zd⟩:=x11;clear HY;clear G11;obtain ⟨ba,oa,r,hao,hbl,⟨hc1,hc2,hc3⟩,hPc⟩:=(LA7.out.ext HX7.out).celx (k:=k) hkP;obtain ⟨rneg,ra,rn,rc,rb,rm,rd⟩:=r;simp only at hc1 hc2 hc3;have HC:=Hi hPc;clear hPc;subst hao
  go_upto_region 8 with fail
  refine wpG 14 (fun opIx=>match opIx with
   | 2=>sR (ehS a x i*(x.num:Rat))
   | 12=>sR (a.getD k 0*ehP x (i+1))
   | 13=>sR (ehS a x i*(x.num:Rat)+a.getD k 0*ehP x (i+1))
   | _=>.quiet) (fun|13=>[2,12]|_=>[]) fun w0 he0 hz0 hc0 hf0=>?_
  refine wps he0 (fun w1 hW hG=>?_) fun x30=>?_
  ·exact spc [RH.v ⟨un,ua,ul,uc,ub,um,ud⟩,xn.v] Tryz.func85 (aV _ xn _ _ _ ((HU.out.ext hW).raw ZU.out zo) (((HN7.out.ext HX7.out).ext hW).raw (sO ZX.out hT) zo))
  refine qZ ?_;refine wps he0 (fun w1 hW hG=>?_) fun x31=>?_
  ·exact spc [RH.v ⟨rneg,ra,rn,rc,rb,rm,rd⟩,RH.v ⟨zn,za,zl,zc,zb,zm,zd⟩] Tryz.func85 (aV _ _ _ _ _ ((HC.out.ext hW).raw ZK.out zo) ((HY1.out.ext hW).raw ZY1.out zo))
  refine qZ ?_;refine wps he0 (fun w1 hW hG=>?_) fun x32=>?_
  ·have g30:=gS (hG 2 dZ);have g31:=gS (hG 12 dZ);exact spc [x30.v,x31.v] Tryz.func118 (df x30 x31 _ _ _ (g30.raw (ZU.out.mul (sO ZX.out hT)) zo) (g31.raw (ZK.out.mul ZY1.out) zo))
  refine qZ ?_;refine aj ?_;intro w14 hI;have hE:=he0.out.trans hI.ext;have G32:=gT (hI.facts 13);clear hI he0 hz0 hc0 hf0;refine mV4 hE ?_ B9 B10 HX7 HY1;clear B9 B10 HX7 HY1;intro B9 B10 HX7 HY1;replace b_B9:=bX3 B9;simp only [pD];clear hc1 hc2 hc3;rw [HST.out] at G32
  go_upto_region 9 with fail
  refine aU B9.out rfl ?_;intro w15 T;replace HX7:=Hi (T.ext HX7.out zo);replace B9:=Hi (T.bx);replace B10:=Hi (T.rest _ _ zo B10.out);replace HY1:=Hi (HY1.out.keep T.keep);replace G32:=Hi (G32.out.keep T.keep);clear T;go_wp2
  go_roundg (gk-1)
  case measure=>omega
  case rel=>exact ⟨i+1,x32,⟨zn,za,zl,zc,zb,zm,zd⟩,zo,by go_num,HX7.out,B9.out,B10.out,G32.out,HY1.out⟩
open Sg
abbrev rM(l:List Rat)(i:Nat):Rat:=l.getD (i+1) 0*(((i+1:Nat):Int):Rat)
theorem tA(l:List Rat){m:Nat}(h:l.length=m+1):tz ((List.range m).map (rM l))=tz (derL l):=by
 apply uN;intro i;have h2:=seq_derL l i;unfold seq at h2;rw [h2];by_cases hi:i<m
 ·rw [nXd,nXw,List.getElem?_range hi];show l.getD (i+1) 0*(((i+1:Nat):Int):Rat)=_;rw [Rat.intCast_natCast,nYd]
 ·rw [nXd,List.getElem?_eq_none (by simp;omega)];rw [nXd,List.getElem?_eq_none zo];show (0:Rat)=_*(0:Rat);rw [nYc]
theorem sN(ao:Option Addr)(n cap:Nat)(l:List Rat)(w:World)(h:ct w ⟨ao,n,cap⟩ l)(hn:n≤1000000)(hz:SzL 16777216 l) :
  ak 139 [.slice ao n cap] w SH.v (fun s w'=>bW w.heap.size w' s (tz (derL l))):=by
 obtain ⟨i0,hi0,hz0,hz1,hz2⟩:=info_parts jk;have H:=Hi h;have HX:=Hi (Ext.refl w);have hle:=h.le;have hmx:=h.max;have Hlen:=Hi h.len;simp only at hle hmx Hlen;have HZ:=Hi hz;clear h hz;unfold ak;go_enter Tryz.func139,Tryz.ntmps139;by_cases h0:n=0
 ·subst h0;have HV:Hid (tz (derL l)=[]):=Hi (by rw [nXj.1 Hlen.out];rfl);go_wp2
  go_ret
  exact ⟨⟨none,0,0⟩,rfl,HX.out,by rw [HV.out];exact bW.nil _ _⟩
 obtain ⟨m,rfl⟩:∃ m,n=m+1:=⟨n-1,zo⟩;clear h0;have hz0':((m:Int)+1 == 0)=false:=by rw [nXs];omega
 go_upto_region 4 with (refine aB rfl (.tmp 10) (.tmp 10) 24 rfl 34 i0 (RH.v default) 3 Tryz.underlying24 hi0 hz0 hz1 _ _ m rfl rfl zo zo (by rw [hz2];omega) zo ?_;intro w2 hnew hE)
 have KB:=Hi (RBk.make rfl hnew);clear hnew;replace HX:=hE.tr HX;obtain ⟨L,hL⟩:∃ L,L=w.heap.size:=⟨_,rfl⟩;have hLw:w.heap.size≤L:=zo;rw [←hL] at KB ⊢;clear hL;go_wp2
 go_loopg [14] m (fun g v wr=>∃ (i:Nat) (rs:List RH),i+g=m∧v=.int .i64 (i:Nat)∧Ext w wr∧RBk wr L rs #[]∧rs.length=m∧iZ wr rs ((List.range i).map (rM l)))
 case atStart=>exact ⟨0,_,zo,rfl,HX.out,KB.out,by simp,fun j hj=>by simp at hj⟩
 case round =>
  obtain ⟨i,rs,hi,rfl,g1,g4,g5,g6⟩:=hrel;clear HX KB;have HX:=Hi g1;have KB:=Hi g4;have HRl:=Hi g5;have PC:=Hi g6;clear g1 g4 g5 g6;have HTl:Hid (((List.range i).map (rM l)).length=i):=Hi (by simp);by_cases h0:gk=0
  ·subst h0;obtain rfl:i=m:=by omega
   have hin:¬ (i:Int)<i:=zo;obtain ⟨ts,hts⟩:∃ ts,ts=(List.range i).map (rM l):=⟨_,rfl⟩;have HV:Hid (tz ts=tz (derL l)):=Hi (by rw [hts];exact tA l Hlen.out);have HSz:Hid (SzL 33554432 ts):=Hi (by
    intro q hq;rw [hts] at hq;obtain ⟨k,hk,rfl⟩:=nYg.1 hq;have hk:=List.mem_range.1 hk;have h1:Sz 16777216 (l.getD (k+1) 0):=HZ.out.at (by rw [Hlen.out];omega);exact (h1.mul (Sz.int (z:=((k+1:Nat):Int)) (by rw [nYi];show _<4294967296;omega))).mono dZ)
   rw [←hts] at PC HTl;clear hts;have LL:Hid (bW w.heap.size wr ⟨some ⟨L,0,none⟩,i,i⟩ ts):=Hi (iZ.list PC.out KB.out HRl.out HTl.out hLw zo);clear KB;clear PC
   go_wp2_with fail
   refine cM (eh (some ⟨L,0,none⟩) i i ts _ (LL.out.can.raw HSz.out dZ)) fun x1 w1 hE G1=>?_
   refine mV2 hE ?_ HX LL;clear HX LL;intro HX LL;obtain ⟨q1,q2⟩:=G1.out;have HQ1:=Hi q1;have HQ2:=Hi q2;clear q1 q2 G1;go_wp2
   go_ret
   refine ⟨⟨some ⟨L,0,none⟩,(tz ts).length,i⟩,rfl,HX.out,?_⟩;have:=LIn.take LL.out HQ2.out;rw [←HQ1.out] at this;rw [←HV.out];exact this
  ·have hin:(i:Int)<m:=zo;obtain ⟨b,off,r,hao,hbl,⟨hc1,hc2,hc3⟩,hP⟩:=(H.out.ext HX.out).cells' (k:=i+1) zo;obtain ⟨rneg,ra,rn,rc,rb,rm,rd⟩:=r;simp only at hc1 hc2 hc3;subst hao;have RP:=Hi hP;clear hP;have HMp:Hid ((List.range i).map (rM l)++[l.getD (i+1) 0*(((i+1:Nat):Int):Rat)]=(List.range (i+1)).map (rM l)):=Hi (bD (rM l) i).symm
   go_upto_region 7 with fail
   refine wpG 11 (fun opIx=>match opIx with
    | 9=>sR ((((i+1:Nat):Int):Rat))
    | 10=>sR (l.getD (i+1) 0*(((i+1:Nat):Int):Rat))
    | _=>.quiet) (fun|10=>[9]|_=>[]) fun w0 he0 hz0 hc0 hf0=>?_
   refine wps he0 (fun w1 hW hG=>?_) fun x9=>?_
   ·exact spc [.int .i64 ((i+1:Nat):Int)] Tryz.func84 (aL ((i+1:Nat):Int) _ zo zo)
   refine qZ ?_;refine wps he0 (fun w1 hW hG=>?_) fun x10=>?_
   ·have g9:=gS (hG 9 dZ);exact spc [RH.v ⟨rneg,ra,rn,rc,rb,rm,rd⟩,x9.v] Tryz.func85 (aV _ _ _ _ _ (RP.out.ext hW) (g9.raw (Sz.int (by rw [nYi];show _<4294967296;omega)) dZ))
   refine qZ ?_;refine aj ?_;intro w5 hI;have hE:=he0.out.trans hI.ext;have G10:=gT (hI.facts 10);clear hI he0 hz0 hc0 hf0;refine mV3 hE ?_ KB PC HX;clear KB PC HX;intro KB PC HX
   try clear f_KB l_KB
   have f_KB:=ah KB.out;have l_KB:=(nXb.1 KB.out).1;simp only [pD];obtain ⟨f1,f2,f3⟩:=RBk.at (re:=#[]) KB.out (k:=i) (by rw [HRl.out];omega)
   go_upto_region 8 with fail
   refine dQ (k:=i) KB.out rfl (by rw [HRl.out];omega) ?_;intro y6 T;clear f1 f2 f3 hc1 hc2 hc3;replace HX:=Hi (T.ext HX.out zo);replace PC:=Hi (PC.out.keep T.keep);replace KB:=Hi (T.bx);replace G10:=Hi (G10.out.keep T.keep);clear T;replace PC:=Hi (PC.out.snoc (x:=x10) (i:=i) HTl.out (by rw [HRl.out];omega) G10.out);rw [HMp.out] at PC;go_wp2
   go_roundg (gk-1)
   case measure=>omega
   case rel=>exact ⟨i+1,_,zo,by go_num,HX.out,KB.out,by rw [nXo];exact HRl.out,PC.out⟩
end Go.Proofs.YtafgmcimcbhhjaaGreat
