import Derived.Test.YtafgmcimcbhhjaaGreatQJK9
set_option linter.unusedVariables false
set_option maxHeartbeats 8000000
set_option maxRecDepth 8000
namespace Go.Proofs.YtafgmcimcbhhjaaGreat
open Go.RowKit Go.Front Go.Num Stab
attribute [local go_sem] XW.cell XW.frozen
structure SvL (w wr:World) (p q:List Rat) (S U:Nat) (qo:Option Addr) (m qc Lr b10 c:Nat) (z:RH) (P n j:Nat):Prop where
 ex:∃ (sl ros:List Rat) (f:Rat),bs wr Lr ros∧ros.length=P∧n≤P∧0<f∧DvI p q S U j sl (ros.take n) f
 hx:Ext w wr
 lq:LIn wr ⟨qo,m+1,qc⟩ q 0 w.heap.size
 B10:wr.heap[b10]?=some (.cells #[.bool z.neg,.slice z.a z.n z.c,.slice z.b z.m z.d] 34 (0,0))
 hz:aB wr z (aJ q)
def SrP(p q:List Rat)(S U B:Nat)(x:SH)(w:World):Prop:=∃ L n c ros s f,B≤L∧x=⟨some ⟨L,0,none⟩,n,c⟩∧bs w L ros∧n≤ros.length∧ros.length≤c∧c≤9223372036854775807∧0<f∧DvP p q S U s (ros.take n) f
theorem rh(c:Rat):0<(((c.den:Nat):Int):Rat):=by
 have:=c.den_pos
 exact_mod_cast this
theorem vX(pa qa:Option Addr)(P pc m qc:Nat)(p q:List Rat)(S U:Nat)(w:World)(hp:bw w ⟨pa,P,pc⟩ p)(hq:bw w ⟨qa,m+1,qc⟩ q)(hpw:∀ x ∈ p,Wz S x)(hqw:∀ x ∈ q,Wz U x)(hS:1≤S)(hU:1≤U)(htp:tz p=p)(htq:tz q=q)(hP:P≤100000)(hmP:m<P)(hsz:S+(P-m)*(U+1)≤30000000)(hUz:U≤30000000) :
  au 185 [.slice pa P pc,.slice qa (m+1:Nat) qc] w SH.v (fun x w'=>SrP p q S U w.heap.size x w'):=by
 have HX:=Hi (Ext.refl w);have LP:=Hi hp.lin;have LQ:=Hi hq.lin;have HPl:Hid (p.length=P):=Hi hp.len;have HQl:Hid (q.length=m+1):=Hi hq.len;have HPW:=Hi hpw;have HQW:=Hi hqw;have HTP:=Hi htp;have H0:Hid (aJ q≠0):=Hi (by
  have:=bT (q:=q) (by rw [htq];intro h;have:=HQl.out;rw [h] at this;simp at this)
  rwa [htq] at this)
 have hplc:=hp.le;have hqlc:=hq.le;have hqmx:=hq.max;have hpmx:=hp.max;simp only at hplc hqlc hqmx hpmx;clear hp hq hpw hqw htp htq;obtain ⟨M,hM⟩:∃ M,P=M+m:=⟨P-m,zo⟩;subst hM;rw [show M+m-m=M by omega] at hsz;unfold au;go_enter Tryz.func185,Tryz.ntmps185
 go_wp2_with fail
 refine cM (lV pa (M+m) pc p _ LP.out.can zo zo) fun x5 w5 hE G5=>?_
 refine mV3 hE ?_ HX LP LQ;clear HX LP LQ;intro HX LP LQ;have hs_w5:=hE.size;obtain ⟨Lr,c,hLr,hc1,hc2,hx5,hR5⟩:=G5.out;subst hx5;have HR:=Hi hR5;have hLrw:w.heap.size≤Lr:=hLr;have hLr5:Lr<w5.heap.size:=hR5.lt;clear hR5 G5;obtain ⟨b,off,r,hao,hbl,⟨hc1',hc2',hc3'⟩,hPc⟩:=LQ.out.celx (k:=m) zo;obtain ⟨rneg,ra,rn,rc,rb,rm,rd⟩:=r;simp only at hc1' hc2' hc3';have HC:Hid (aB w5 ⟨rneg,ra,rn,rc,rb,rm,rd⟩ (aJ q)):=Hi (by unfold aJ;rw [HQl.out];exact hPc);clear hPc;subst hao;go_wp2;refine nmA ?_;intro w6 hE B10 hz_w6 hr_w6;refine mV5 hE ?_ HX LP LQ HR HC;clear HX LP LQ HR HC;intro HX LP LQ HR HC;have hs_w6:=hE.size;replace b_B10:=bX3 B10;obtain ⟨b10,hb10⟩:∃ b10,b10=w5.heap.size:=⟨_,rfl⟩;have hbw10:w.heap.size≤b10:=zo;have hLrb:Lr≠b10:=zo;rw [←hb10] at B10 ⊢;clear hb10 b_B10 hc1' hc2' hc3' hbl;have hcmx:c≤9223372036854775807:=hc2;clear hLr5
 go_loopg [5] (M+m) (fun g v wr=>∃ (n j:Nat),j+g=M+m∧v=.slice (some ⟨Lr,0,none⟩) n c∧SvL w wr p q S U (some ⟨b,off,none⟩) m qc Lr b10 c ⟨rneg,ra,rn,rc,rb,rm,rd⟩ (M+m) n j)
 case atStart =>
  refine ⟨M+m,0,zo,by simp,⟨List.replicate M 0,p,1,HR.out,HPl.out,nXe _,dZ,?_⟩,HX.out,LQ.out,B10.out,HC.out⟩;have h1:=DvI.start (S:=S) (U:=U) (p:=p) (q:=q) HPW.out HTP.out (by rw [HPl.out,HQl.out];omega);rw [nXm (by rw [HPl.out];exact nXe _)];rw [HPl.out,HQl.out,show M+m-(m+1)+1=M by omega] at h1;exact h1
 case round =>
  obtain ⟨n,j,hjg,rfl,⟨sl,ros,f,gr,hrl,hnP,hf0,hI⟩,gx,gq,g10,gz⟩:=hrel;obtain ⟨g0,hg0⟩:∃ g0,g0=gk:=⟨_,rfl⟩;have hjn:n+j≤M+m:=by have:=hI.rl;rw [HPl.out,nXk,hrl] at this;omega
  clear HX LQ B10 HC HR LP;have HX:=Hi gx;have LQ:=Hi gq;have B10:=Hi g10;have HC:=Hi gz;have HR:=Hi gr;have HI:=Hi hI;have HRL:=Hi hrl;have HF0:=Hi hf0;clear gx gq g10 gz gr hI hrl hf0;have HSL:Hid (sl.length=M):=Hi (by have:=HI.out.sl;rw [HPl.out,HQl.out] at this;omega);replace b_B10:=bX3 B10;by_cases hn:n<m+1
  case pos =>
   have hn2:¬ ((m:Int)+1≤n):=zo;go_wp2
   go_ret
   exact ⟨⟨some ⟨Lr,0,none⟩,n,c⟩,rfl,HX.out,Lr,n,c,ros,sl,f,hLrw,rfl,HR.out,by rw [HRL.out];exact hnP,by rw [HRL.out];exact hc1,hcmx,HF0.out,HI.out.done (by rw [nXk,HQl.out];omega)⟩
  obtain ⟨t,rfl⟩:∃ t,n=t+m+1:=⟨n-(m+1),zo⟩;have HRT:Hid ((ros.take (t+m+1)).length=t+m+1):=Hi (by rw [nXk,HRL.out];omega);have hb10r:b10<wr.heap.size:=b_B10.2.2;have hLrr:Lr<wr.heap.size:=HR.out.lt;obtain ⟨B,hB⟩:∃ B,B=S+j*(U+1):=⟨_,rfl⟩;have hBz:B≤30000000:=by have:=HI.out.bnd.1;rw [HPl.out,HQl.out,show M+m+1-(m+1)=M by omega] at this;omega
  have hB1:1≤B:=zo;have HRW:Hid (∀ x ∈ ros.take (t+m+1),Wz B x):=Hi (by rw [hB];exact HI.out.rz);have HQWk:Hid (∀ k,k<m+1→Wz U (q.getD k 0)):=Hi (fun k hk=>HQW.out _ (bK (by rw [HQl.out];exact hk)));have HRWk:Hid (∀ k,k<t+m+1→Wz B (ros.getD k 0)):=Hi (fun k hk=>by have:=HRW.out _ (bK (i:=k) (by rw [HRT.out];exact hk));rwa [bU hk] at this);have HLQ:Hid (Wz U (aJ q)):=Hi (by unfold aJ;rw [HQl.out];exact HQWk.out m zo);obtain ⟨cq,hcq⟩:∃ cq,cq=ros.getD (t+m) 0 / aJ q:=⟨_,rfl⟩;have HCQ:Hid (cq=aJ (ros.take (t+m+1)) / aJ q):=Hi (by rw [hcq];unfold aJ;rw [HRT.out,Nat.add_sub_cancel,bU zo]);have HPA:Hid (Wz B ((cq.num:Int):Rat)∧Wz U (((cq.den:Nat):Int):Rat)):=Hi (by rw [hcq];exact (HRWk.out (t+m) zo).parts HLQ.out H0.out);have HDP:Hid (0<(((cq.den:Nat):Int):Rat)):=Hi (rh cq);obtain ⟨num,hnum⟩:∃ num:Rat,num=((cq.num:Int):Rat):=⟨_,rfl⟩;obtain ⟨den,hden⟩:∃ den:Rat,den=(((cq.den:Nat):Int):Rat):=⟨_,rfl⟩;rw [←hnum,←hden] at HPA;rw [←hden] at HDP;have HNUM:=Hi hnum;have HDEN:=Hi hden;have Hcq:=Hi hcq;clear hnum hden hcq hB;obtain ⟨r8,⟨f1,f2,f3⟩,hr8⟩:=bs.cells HR.out (k:=t+m) (by rw [HRL.out];omega);have hfz:=bs.frozen HR.out;have hLl:=bs.lt HR.out;obtain ⟨r8n,r8a,r8l,r8c,r8b,r8m,r8d⟩:=r8;simp only at f1 f2 f3;have HR8:=Hi hr8;clear hr8;have ht1:(t:Int)+m+1-(m+1)=(t:Nat):=zo;have ht2:(t:Int)+m+1-1=((t+m:Nat):Int):=zo;have hn2:(m:Int)+1≤(t:Int)+m+1:=zo
  go_upto_region 5 with fail
  refine bG [(12,10)] _ (by simp only [fx,gR,List.push_toArray,List.cons_append,List.nil_append];exact rfl) (by intro c a d v w h;cases d <;> exact h) 12 (fun opIx=>match opIx with
   | 7=>.spec (RH) (default) (fun s=>.tuple #[s.v,.int .i64 0]) (fun x w'=>aB w' x cq)
   | 11=>.alloc 34 #[.bool false,.slice none 0 0,.slice none 0 0]
   | _=>.quiet) (fun _=>[]) kZ kZ kZ (fun w0 he0 hz0 hc0 hf0=>?_)
  replace he0:=Hi he0;simp only [pT];refine qQ ?_;refine wps he0 (fun w1 hW hG=>?_) fun x7=>?_
  ·exact spc [RH.v ⟨r8n,r8a,r8l,r8c,r8b,r8m,r8d⟩,RH.v ⟨rneg,ra,rn,rc,rb,rm,rd⟩] Tryz.func121 ((by rw [Hcq.out];exact cF _ _ _ _ _ ((HR8.out.ext hW).raw ((HRWk.out _ zo).sz hB1) zo) ((HC.out.ext hW).raw (HLQ.out.sz hU) zo) H0.out))
  refine qZ ?_;refine aW rfl rfl (fun w=>by simp [execOp,go_sem,ptr]) (fun b12 hb12 hl12=>?_);refine qZ ?_;refine aq ?_;intro w8 hI;have hE:=he0.out.trans hI.ext;have G7:=gT (hI.facts 7);have A12:Hid (w8.heap[b12]?=some (.cells #[.bool false,.slice none 0 0,.slice none 0 0] 34 (0,0))):=hI.facts 11;rw [hz0] at hl12;clear hI he0 hz0 hc0 hf0;refine mV6 hE ?_ HX LQ B10 HR HR8 HC;clear HX LQ B10 HR HR8 HC;intro HX LQ B10 HR HR8 HC;have hs_w8:=hE.size;replace b_B10:=bX3 B10;replace b_A12:=bX3 A12;simp only [pD,ptr];clear f1 f2 f3 hfz hLl ht2;clear HR8
  go_upto_region 6 with fail
  refine bi A12.out rfl ?_;intro w9 T;replace HX:=Hi (T.ext HX.out zo);replace LQ:=Hi (LQ.out.put T zo);replace B10:=Hi (T.rest _ _ zo B10.out);replace HC:=Hi (HC.out.keep T.keep);replace HR:=Hi (HR.out.put T zo);replace A12:=Hi (T.bx);replace G7:=Hi (G7.out.keep T.keep);have hs_w9:=nle T.size;have hr_w9:=nle T.size.symm;clear T;replace b_B10:=bX3 B10;replace b_A12:=bX3 A12
  go_wp2_with fail
  refine cM (jx x7 cq _ G7.out) fun x10 w10 hE G10=>?_
  refine mV7 hE ?_ HX LQ B10 HC HR A12 G7;clear HX LQ B10 HC HR A12 G7;intro HX LQ B10 HC HR A12 G7;have hs_w10:=hE.size;replace b_B10:=bX3 B10;replace b_A12:=bX3 A12;obtain ⟨xn,xd⟩:=x10;have HN:Hid (aB w10 xn num):=Hi (by rw [HNUM.out];exact G10.out.1);have HD:Hid (aB w10 xd den):=Hi (by rw [HDEN.out];exact G10.out.2);clear G10;simp only [PT];clear G7
  go_upto_region 7 with fail
  (try clear b_A12);clear A12
  refine hZ ?_;intro w11 hE B14 B15 hz_w11 hr_w11;refine mV7 hE ?_ HX LQ B10 HC HR HN HD;clear HX LQ B10 HC HR HN HD;intro HX LQ B10 HC HR HN HD;have hs_w11:=hE.size;replace b_B10:=bX3 B10;replace b_B14:=bX3 B14;replace b_B15:=bX3 B15;obtain ⟨b14,hb14⟩:∃ b14,b14=w10.heap.size:=⟨_,rfl⟩;obtain ⟨b15,hb15⟩:∃ b15,b15=w10.heap.size+1:=⟨_,rfl⟩;have hb14r:wr.heap.size≤b14:=zo;have hb15r:wr.heap.size≤b15:=zo;have hb145:b14≠b15:=zo;rw [←hb15] at B15;rw [←hb14] at B14;rw [←hb15,←hb14];clear hb14 hb15 b_B14 b_B15;replace b_B10:=bX3 B10;replace b_B14:=bX3 B14;replace b_B15:=bX3 B15;obtain ⟨cc,hcc⟩:∃ cc,cc=dJ den 1:=⟨_,rfl⟩;have Hcc:=Hi hcc;have HNW:Hid (Wz B num):=Hi HPA.out.1;have HDW:Hid (Wz U den):=Hi HPA.out.2;clear hcc;refine wpG 3 (fun opIx=>match opIx with
   | 1=>sR (((1:Int):Rat))
   | 2=>sU (.int .i64 cc)
   | _=>.quiet) (fun|2=>[1]|_=>[]) fun w0 he0 hz0 hc0 hf0=>?_
  refine wps he0 (fun w1 hW hG=>?_) fun x20=>?_
  ·exact spc [.int .i64 1] Tryz.func84 (d9 1 _ dZ dZ)
  refine qZ ?_;refine wps he0 (fun w1 hW hG=>?_) fun x21=>?_
  ·have g20:=gS (hG 1 dZ);exact spc [xd.v,x20.v] Tryz.func80 ((by rw [Hcc.out];exact fh _ _ _ _ _ ((HD.out.ext hW).raw (HDW.out.sz hU) zo) (g20.raw (Sz.int dZ) dZ)))
  refine qZ ?_;refine aq ?_;intro w12 hI;have hE:=he0.out.trans hI.ext;have G20:=gT (hI.facts 1);clear hI he0 hz0 hc0 hf0;refine mV8 hE ?_ B14 B15 HX LQ B10 HC HR HN;clear B14 B15 HX LQ B10 HC HR HN;intro B14 B15 HX LQ B10 HC HR HN;replace HD:=mV hE HD;have hs_w12:=hE.size;replace b_B10:=bX3 B10;replace b_B14:=bX3 B14;replace b_B15:=bX3 B15;simp only [pD];by_cases hcc0:cc=0
  case pos =>
   subst hcc0;have hd1:den=1:=tH.1 Hcc.out.symm;replace HR:=Hi (show bs w12 Lr (cu ros (t+m+1) den) by rw [hd1,mW];exact HR.out);clear hd1;clear G20
   (try simp only [SH.v])
   clear HD
   (try clear b_B15);clear B15
   go_wp2
   go_loopg [70] (m+1) (fun g v wr=>∃ (k:Nat),k+g=m+1∧v=.int .i64 (k:Nat)∧Ext w wr∧LIn wr ⟨some ⟨b,off,none⟩,m+1,qc⟩ q 0 w.heap.size∧wr.heap[b10]?=some (.cells #[.bool rneg,.slice ra rn rc,.slice rb rm rd] 34 (0,0))∧wr.heap[b14]?=some (.cells #[.bool xn.neg,.slice xn.a xn.n xn.c,.slice xn.b xn.m xn.d] 34 (0,0))∧aB wr ⟨rneg,ra,rn,rc,rb,rm,rd⟩ (aJ q)∧aB wr xn num∧bs wr Lr (eX (cu ros (t+m+1) den) t q num k))
   case atStart=>exact ⟨0,zo,rfl,HX.out,LQ.out,B10.out,B14.out,HC.out,HN.out,HR.out⟩
   case round =>
    obtain ⟨k,hk,rfl,g1,g2,g5,g6,g7,g9,g11⟩:=hrel;clear HX LQ B10 B14 HC HN HR;have HX:=Hi g1;have LQ:=Hi g2;have B10:=Hi g5;have B14:=Hi g6;have HC:=Hi g7;have HN:=Hi g9;have HR:=Hi g11;clear g1 g2 g5 g6 g7 g9 g11;replace b_B10:=bX3 B10;replace b_B14:=bX3 B14;by_cases h0:gk=0
    case neg =>
     have hin:(k:Int)<(m:Int)+1:=zo;obtain ⟨b',off',r17,hao,hbl,⟨hc1',hc2',hc3'⟩,hPc⟩:=LQ.out.celx (k:=k) zo;obtain ⟨rfl,rfl⟩:b=b'∧off=off':=by simpa using hao
     obtain ⟨qn,qa',ql,qc',qb,qm,qd⟩:=r17;simp only at hc1' hc2' hc3';have HQk:=Hi hPc;clear hPc hao
     go_upto_region 16 with fail
     clear hc1' hc2' hc3';refine nmA ?_;intro y18 hE B17 hz_y18 hr_y18;refine mV8 hE ?_ HX LQ B10 B14 HC HN HR HQk;clear HX LQ B10 B14 HC HN HR HQk;intro HX LQ B10 B14 HC HN HR HQk;have hs_y18:=hE.size;replace b_B10:=bX3 B10;replace b_B14:=bX3 B14;replace b_B17:=bX3 B17;obtain ⟨r18,⟨f1,f2,f3⟩,hr18⟩:=bs.cells HR.out (k:=t+k) (by rw [aN,aE,HRL.out];omega);have hfz:=bs.frozen HR.out;have hLl:=bs.lt HR.out;obtain ⟨sn,sa,sl',sc,sb,sm',sd⟩:=r18;simp only at f1 f2 f3;have HR18:=Hi hr18;clear hr18;have HRV:Hid (Wz (B+U) ((eX (cu ros (t+m+1) den) t q num k).getD (t+k) 0)):=Hi (by
      rw [fO _ _ _ _ _ (by rw [aE,HRL.out];omega),if_neg zo,kX _ (by rw [HRL.out];omega) zo];have:=(HRWk.out (t+k) zo).mul HDW.out;rw [rU];exact this)
     have htk:(t:Int)+k<(t:Int)+m+1:=zo;refine wpG 14 (fun opIx=>match opIx with
      | 12=>sR (num*q.getD k 0)
      | 13=>sR ((eX (cu ros (t+m+1) den) t q num k).getD (t+k) 0-num*q.getD k 0)
      | _=>.quiet) (fun|13=>[12]|_=>[]) fun w0 he0 hz0 hc0 hf0=>?_
     refine wps he0 (fun w1 hW hG=>?_) fun x22=>?_
     ·exact spc [xn.v,RH.v ⟨qn,qa',ql,qc',qb,qm,qd⟩] Tryz.func85 (bQ _ _ _ _ _ ((HN.out.ext hW).raw (HNW.out.sz hB1) zo) ((HQk.out.ext hW).raw ((HQWk.out k zo).sz hU) zo))
     refine qZ ?_;refine wps he0 (fun w1 hW hG=>?_) fun x23=>?_
     ·have g22:=gS (hG 12 dZ);exact spc [RH.v ⟨sn,sa,sl',sc,sb,sm',sd⟩,x22.v] Tryz.func120 (iZ _ x22 _ _ _ ((HR18.out.ext hW).raw (HRV.out.sz zo) zo) (g22.raw ((HNW.out.mul (HQWk.out k zo)).sz zo) zo))
     refine qZ ?_;refine aq ?_;intro y19 hI;have hE:=he0.out.trans hI.ext;have G22:=gT (hI.facts 12);have G23:=gT (hI.facts 13);clear hI he0 hz0 hc0 hf0;refine mV8 hE ?_ B17 HX LQ B10 B14 HC HR HN;clear B17 HX LQ B10 B14 HC HR HN;intro B17 HX LQ B10 B14 HC HR HN;refine mV2 hE ?_ HQk HR18;clear HQk HR18;intro HQk HR18;have hs_y19:=hE.size;replace b_B10:=bX3 B10;replace b_B14:=bX3 B14;replace b_B17:=bX3 B17;simp only [pD];clear f1 f2 f3 hfz hLl htk;clear HR18;clear HQk;clear G22;obtain ⟨r19,⟨f1,f2,f3⟩,-⟩:=bs.cells HR.out (k:=t+k) (by rw [aN,aE,HRL.out];omega);have hfz:=bs.frozen HR.out;have hLl:=bs.lt HR.out
     go_upto_region 17 with fail
     refine gZ (k:=t+k) HR.out (by rw [aN,aE,HRL.out];omega) G23.out ?_;rintro y20 ⟨cs,T⟩ TN;clear f1 f2 f3 hfz hLl
     (try clear b_B17);clear B17
     clear G23;clear HR;replace HX:=Hi (T.ext HX.out zo);replace LQ:=Hi (LQ.out.put T zo);replace B10:=Hi (T.rest _ _ zo B10.out);replace B14:=Hi (T.rest _ _ zo B14.out);replace HC:=Hi (HC.out.keep T.keep);replace HN:=Hi (HN.out.keep T.keep);have hs_y20:=nle T.size;have hr_y20:=nle T.size.symm;clear T;replace b_B10:=bX3 B10;replace b_B14:=bX3 B14;have HR:=Hi TN;clear TN;go_wp2
     go_roundg (gk-1)
     case measure=>omega
     case rel=>exact ⟨k+1,zo,by go_num,HX.out,LQ.out,B10.out,B14.out,HC.out,HN.out,HR.out⟩
    subst h0;obtain rfl:k=m+1:=by omega
    have hin:¬ ((m:Int)+1<(m:Int)+1):=zo;obtain ⟨hI2,hW2⟩:=HI.out.row HQl.out (by rw [HRL.out];omega) HSL.out H0.out HQW.out HCQ.out HNUM.out HDEN.out;have HI2:=Hi hI2;have HRN:Hid (bw wr ⟨some ⟨Lr,0,none⟩,t+m+1,c⟩ ((eX (cu ros (t+m+1) den) t q num (m+1)).take (t+m+1))):=Hi ((HR.out.can (by rw [aN,aE,HRL.out]) hc1 hcmx).take hnP);have HSZ:Hid (SzL (S+j*(U+1)+U+1) ((eX (cu ros (t+m+1) den) t q num (m+1)).take (t+m+1))):=Hi (fun x hx=>(hW2 x hx).sz zo);clear hI2 hW2;have hBz2:S+j*(U+1)≤30000000:=by have:=HI.out.bnd.1;rw [HPl.out,HQl.out,show M+m+1-(m+1)=M by omega] at this;omega
    go_wp2_with fail
    refine cM (mF (some ⟨Lr,0,none⟩) (t+m+1) c _ _ (HRN.out.raw HSZ.out zo)) fun x24 w24 hE G24=>?_
    refine mV7 hE ?_ HX LQ B10 B14 HC HN HR;clear HX LQ B10 B14 HC HN HR;intro HX LQ B10 B14 HC HN HR;have hs_w24:=hE.size;replace b_B10:=bX3 B10;replace b_B14:=bX3 B14;obtain ⟨q1,q2⟩:=G24.out;have HQ1:=Hi q1;clear q1 G24;go_wp2
    go_roundg (g0-1)
    case measure=>omega
    case rel =>
     refine ⟨_,j+1,zo,rfl,⟨(cu sl M den).set t num,eX (cu ros (t+m+1) den) t q num (m+1),f*den,HR.out,by rw [aN,aE,HRL.out],zo,Rat.mul_pos HF0.out HDP.out,?_⟩,HX.out,LQ.out,B10.out,HC.out⟩;have h1:=HI2.out;rw [HQ1.out,List.take_take,Nat.min_eq_left zo] at h1;exact h1
  have hccb:(cc == 0)=false:=by simpa using hcc0
  clear hcc0;clear G20
  (try simp only [SH.v])
  go_wp2
  go_loopg [55] (t+m+1) (fun g v wr=>∃ (i:Nat),i+g=t+m+1∧v=.int .i64 (i:Nat)∧Ext w wr∧LIn wr ⟨some ⟨b,off,none⟩,m+1,qc⟩ q 0 w.heap.size∧wr.heap[b10]?=some (.cells #[.bool rneg,.slice ra rn rc,.slice rb rm rd] 34 (0,0))∧wr.heap[b14]?=some (.cells #[.bool xn.neg,.slice xn.a xn.n xn.c,.slice xn.b xn.m xn.d] 34 (0,0))∧wr.heap[b15]?=some (.cells #[.bool xd.neg,.slice xd.a xd.n xd.c,.slice xd.b xd.m xd.d] 34 (0,0))∧aB wr ⟨rneg,ra,rn,rc,rb,rm,rd⟩ (aJ q)∧aB wr xn num∧aB wr xd den∧bs wr Lr (cu ros i den))
  case atStart=>exact ⟨0,zo,rfl,HX.out,LQ.out,B10.out,B14.out,B15.out,HC.out,HN.out,HD.out,by simpa [cu] using HR.out⟩
  case round =>
   obtain ⟨i,hi,rfl,g1,g2,g3,g4,g5,g6,g7,g8,g9⟩:=hrel;clear HX LQ B10 B14 B15 HC HN HD HR;have HX:=Hi g1;have LQ:=Hi g2;have B10:=Hi g3;have B14:=Hi g4;have B15:=Hi g5;have HC:=Hi g6;have HN:=Hi g7;have HD:=Hi g8;have HR:=Hi g9;clear g1 g2 g3 g4 g5 g6 g7 g8 g9;replace b_B10:=bX3 B10;replace b_B14:=bX3 B14;replace b_B15:=bX3 B15;by_cases h0:gk=0
   case neg =>
    have hin:(i:Int)<(t:Int)+m+1:=zo;have HL:Hid ((cu ros i den).length=ros.length):=Hi (aE _ _ _);have HV:Hid ((cu ros i den).getD i 0=ros.getD i 0):=Hi (by
     have h2:=HRL.out;unfold cu;have h1:((ros.take i).map (·*den)).length=i:=by rw [nXl,nXk];omega
     rw [nXd,List.getElem?_append_right zo,h1,Nat.sub_self,List.getElem?_drop,Nat.add_zero,←nXd])
    obtain ⟨r,⟨f1,f2,f3⟩,hrc⟩:=bs.cells HR.out (k:=i) (by rw [HL.out,HRL.out];omega);rw [HV.out] at hrc;have HRC:=Hi hrc;clear hrc;have hfz:=bs.frozen HR.out;have hLl:=bs.lt HR.out;obtain ⟨ren,rea,rel,rec',reb,rem,red⟩:=r;simp only at f1 f2 f3
    go_upto_region 11 with fail
    refine wpG 8 (fun opIx=>match opIx with
     | 7=>sR (ros.getD i 0*den)
     | _=>.quiet) (fun _=>[]) fun w0 he0 hz0 hc0 hf0=>?_
    refine wps he0 (fun w1 hW hG=>?_) fun x7=>?_
    ·exact spc [RH.v ⟨ren,rea,rel,rec',reb,rem,red⟩,xd.v] Tryz.func85 (bQ _ _ _ _ _ ((HRC.out.ext hW).raw ((HRWk.out i zo).sz hB1) zo) ((HD.out.ext hW).raw (HDW.out.sz hU) zo))
    refine qZ ?_;refine aq ?_;intro w5 hI;have hE:=he0.out.trans hI.ext;have G7:=gT (hI.facts 7);clear hI he0 hz0 hc0 hf0;refine mV8 hE ?_ HX LQ B10 B14 B15 HC HN HR;clear HX LQ B10 B14 B15 HC HN HR;intro HX LQ B10 B14 B15 HC HN HR;refine mV2 hE ?_ HRC HD;clear HRC HD;intro HRC HD;have hs_w5:=hE.size;replace b_B10:=bX3 B10;replace b_B14:=bX3 B14;replace b_B15:=bX3 B15;simp only [pD];clear f1 f2 f3 hfz hLl;clear HRC;obtain ⟨r2,⟨f1,f2,f3⟩,-⟩:=bs.cells HR.out (k:=i) (by rw [HL.out,HRL.out];omega);have hfz:=bs.frozen HR.out;have hLl:=bs.lt HR.out
    go_upto_region 12 with fail
    refine gZ (k:=i) HR.out (by rw [HL.out,HRL.out];omega) G7.out ?_;rintro y6 ⟨cs,T⟩ TN;rw [mT (by rw [HRL.out];omega)] at TN;clear f1 f2 f3 hfz hLl HL HV;clear G7;clear HR;replace HX:=Hi (T.ext HX.out zo);replace LQ:=Hi (LQ.out.put T zo);replace B10:=Hi (T.rest _ _ zo B10.out);replace B14:=Hi (T.rest _ _ zo B14.out);replace B15:=Hi (T.rest _ _ zo B15.out);replace HC:=Hi (HC.out.keep T.keep);replace HN:=Hi (HN.out.keep T.keep);replace HD:=Hi (HD.out.keep T.keep);have hs_y6:=nle T.size;have hr_y6:=nle T.size.symm;clear T;replace b_B10:=bX3 B10;replace b_B14:=bX3 B14;replace b_B15:=bX3 B15;have HR:=Hi TN;clear TN;go_wp2
    go_roundg (gk-1)
    case measure=>omega
    case rel=>exact ⟨i+1,zo,by go_num,HX.out,LQ.out,B10.out,B14.out,B15.out,HC.out,HN.out,HD.out,HR.out⟩
   subst h0;obtain rfl:i=t+m+1:=by omega
   have hin:¬ ((t:Int)+m+1<(t:Int)+m+1):=zo;clear HD
   (try clear b_B15);clear B15
   go_wp2
   go_loopg [70] (m+1) (fun g v wr=>∃ (k:Nat),k+g=m+1∧v=.int .i64 (k:Nat)∧Ext w wr∧LIn wr ⟨some ⟨b,off,none⟩,m+1,qc⟩ q 0 w.heap.size∧wr.heap[b10]?=some (.cells #[.bool rneg,.slice ra rn rc,.slice rb rm rd] 34 (0,0))∧wr.heap[b14]?=some (.cells #[.bool xn.neg,.slice xn.a xn.n xn.c,.slice xn.b xn.m xn.d] 34 (0,0))∧aB wr ⟨rneg,ra,rn,rc,rb,rm,rd⟩ (aJ q)∧aB wr xn num∧bs wr Lr (eX (cu ros (t+m+1) den) t q num k))
   case atStart=>exact ⟨0,zo,rfl,HX.out,LQ.out,B10.out,B14.out,HC.out,HN.out,HR.out⟩
   case round =>
    obtain ⟨k,hk,rfl,g1,g2,g5,g6,g7,g9,g11⟩:=hrel;clear HX LQ B10 B14 HC HN HR;have HX:=Hi g1;have LQ:=Hi g2;have B10:=Hi g5;have B14:=Hi g6;have HC:=Hi g7;have HN:=Hi g9;have HR:=Hi g11;clear g1 g2 g5 g6 g7 g9 g11;replace b_B10:=bX3 B10;replace b_B14:=bX3 B14;by_cases h0:gk=0
    case neg =>
     have hin:(k:Int)<(m:Int)+1:=zo;obtain ⟨b',off',r17,hao,hbl,⟨hc1',hc2',hc3'⟩,hPc⟩:=LQ.out.celx (k:=k) zo;obtain ⟨rfl,rfl⟩:b=b'∧off=off':=by simpa using hao
     obtain ⟨qn,qa',ql,qc',qb,qm,qd⟩:=r17;simp only at hc1' hc2' hc3';have HQk:=Hi hPc;clear hPc hao
     go_upto_region 16 with fail
     clear hc1' hc2' hc3';refine nmA ?_;intro y18 hE B17 hz_y18 hr_y18;refine mV8 hE ?_ HX LQ B10 B14 HC HN HR HQk;clear HX LQ B10 B14 HC HN HR HQk;intro HX LQ B10 B14 HC HN HR HQk;have hs_y18:=hE.size;replace b_B10:=bX3 B10;replace b_B14:=bX3 B14;replace b_B17:=bX3 B17;obtain ⟨r18,⟨f1,f2,f3⟩,hr18⟩:=bs.cells HR.out (k:=t+k) (by rw [aN,aE,HRL.out];omega);have hfz:=bs.frozen HR.out;have hLl:=bs.lt HR.out;obtain ⟨sn,sa,sl',sc,sb,sm',sd⟩:=r18;simp only at f1 f2 f3;have HR18:=Hi hr18;clear hr18;have HRV:Hid (Wz (B+U) ((eX (cu ros (t+m+1) den) t q num k).getD (t+k) 0)):=Hi (by
      rw [fO _ _ _ _ _ (by rw [aE,HRL.out];omega),if_neg zo,kX _ (by rw [HRL.out];omega) zo];have:=(HRWk.out (t+k) zo).mul HDW.out;rw [rU];exact this)
     have htk:(t:Int)+k<(t:Int)+m+1:=zo;refine wpG 14 (fun opIx=>match opIx with
      | 12=>sR (num*q.getD k 0)
      | 13=>sR ((eX (cu ros (t+m+1) den) t q num k).getD (t+k) 0-num*q.getD k 0)
      | _=>.quiet) (fun|13=>[12]|_=>[]) fun w0 he0 hz0 hc0 hf0=>?_
     refine wps he0 (fun w1 hW hG=>?_) fun x22=>?_
     ·exact spc [xn.v,RH.v ⟨qn,qa',ql,qc',qb,qm,qd⟩] Tryz.func85 (bQ _ _ _ _ _ ((HN.out.ext hW).raw (HNW.out.sz hB1) zo) ((HQk.out.ext hW).raw ((HQWk.out k zo).sz hU) zo))
     refine qZ ?_;refine wps he0 (fun w1 hW hG=>?_) fun x23=>?_
     ·have g22:=gS (hG 12 dZ);exact spc [RH.v ⟨sn,sa,sl',sc,sb,sm',sd⟩,x22.v] Tryz.func120 (iZ _ x22 _ _ _ ((HR18.out.ext hW).raw (HRV.out.sz zo) zo) (g22.raw ((HNW.out.mul (HQWk.out k zo)).sz zo) zo))
     refine qZ ?_;refine aq ?_;intro y19 hI;have hE:=he0.out.trans hI.ext;have G22:=gT (hI.facts 12);have G23:=gT (hI.facts 13);clear hI he0 hz0 hc0 hf0;refine mV8 hE ?_ B17 HX LQ B10 B14 HC HR HN;clear B17 HX LQ B10 B14 HC HR HN;intro B17 HX LQ B10 B14 HC HR HN;refine mV2 hE ?_ HQk HR18;clear HQk HR18;intro HQk HR18;have hs_y19:=hE.size;replace b_B10:=bX3 B10;replace b_B14:=bX3 B14;replace b_B17:=bX3 B17;simp only [pD];clear f1 f2 f3 hfz hLl htk;clear HR18;clear HQk;clear G22;obtain ⟨r19,⟨f1,f2,f3⟩,-⟩:=bs.cells HR.out (k:=t+k) (by rw [aN,aE,HRL.out];omega);have hfz:=bs.frozen HR.out;have hLl:=bs.lt HR.out
     go_upto_region 17 with fail
     refine gZ (k:=t+k) HR.out (by rw [aN,aE,HRL.out];omega) G23.out ?_;rintro y20 ⟨cs,T⟩ TN;clear f1 f2 f3 hfz hLl
     (try clear b_B17);clear B17
     clear G23;clear HR;replace HX:=Hi (T.ext HX.out zo);replace LQ:=Hi (LQ.out.put T zo);replace B10:=Hi (T.rest _ _ zo B10.out);replace B14:=Hi (T.rest _ _ zo B14.out);replace HC:=Hi (HC.out.keep T.keep);replace HN:=Hi (HN.out.keep T.keep);have hs_y20:=nle T.size;have hr_y20:=nle T.size.symm;clear T;replace b_B10:=bX3 B10;replace b_B14:=bX3 B14;have HR:=Hi TN;clear TN;go_wp2
     go_roundg (gk-1)
     case measure=>omega
     case rel=>exact ⟨k+1,zo,by go_num,HX.out,LQ.out,B10.out,B14.out,HC.out,HN.out,HR.out⟩
    subst h0;obtain rfl:k=m+1:=by omega
    have hin:¬ ((m:Int)+1<(m:Int)+1):=zo;obtain ⟨hI2,hW2⟩:=HI.out.row HQl.out (by rw [HRL.out];omega) HSL.out H0.out HQW.out HCQ.out HNUM.out HDEN.out;have HI2:=Hi hI2;have HRN:Hid (bw wr ⟨some ⟨Lr,0,none⟩,t+m+1,c⟩ ((eX (cu ros (t+m+1) den) t q num (m+1)).take (t+m+1))):=Hi ((HR.out.can (by rw [aN,aE,HRL.out]) hc1 hcmx).take hnP);have HSZ:Hid (SzL (S+j*(U+1)+U+1) ((eX (cu ros (t+m+1) den) t q num (m+1)).take (t+m+1))):=Hi (fun x hx=>(hW2 x hx).sz zo);clear hI2 hW2;have hBz2:S+j*(U+1)≤30000000:=by have:=HI.out.bnd.1;rw [HPl.out,HQl.out,show M+m+1-(m+1)=M by omega] at this;omega
    go_wp2_with fail
    refine cM (mF (some ⟨Lr,0,none⟩) (t+m+1) c _ _ (HRN.out.raw HSZ.out zo)) fun x24 w24 hE G24=>?_
    refine mV7 hE ?_ HX LQ B10 B14 HC HN HR;clear HX LQ B10 B14 HC HN HR;intro HX LQ B10 B14 HC HN HR;have hs_w24:=hE.size;replace b_B10:=bX3 B10;replace b_B14:=bX3 B14;obtain ⟨q1,q2⟩:=G24.out;have HQ1:=Hi q1;clear q1 G24;go_wp2
    go_roundg (g0-1)
    case measure=>omega
    case rel =>
     refine ⟨_,j+1,zo,rfl,⟨(cu sl M den).set t num,eX (cu ros (t+m+1) den) t q num (m+1),f*den,HR.out,by rw [aN,aE,HRL.out],zo,Rat.mul_pos HF0.out HDP.out,?_⟩,HX.out,LQ.out,B10.out,HC.out⟩;have h1:=HI2.out;rw [HQ1.out,List.take_take,Nat.min_eq_left zo] at h1;exact h1
theorem wC(s:RH)(q:Rat)(w:World)(h:aS w s q):au 178 [s.v] w RH.v (fun r w'=>aB w' r (-q)):=by
 have HR:=Hi h;have HX:=Hi (Ext.refl w);obtain ⟨neg,ao,n,c,bo,m,d⟩:=s;clear h;unfold au;go_enter Tryz.func178,Tryz.ntmps178
 go_upto_region 1 with fail
 refine hZ ?_;intro w1 hE B1 B2 hz_w1 hr_w1;replace HX:=hE.tr HX;have hs_w1:=hE.size;replace b_B1:=bX3 B1;replace b_B2:=bX3 B2
 go_wp2_with fail
 refine cM (qP ⟨neg,ao,n,c,bo,m,d⟩ _) fun x1 w1 hE _=>?_
 refine mV3 hE ?_ B1 B2 HX;clear B1 B2 HX;intro B1 B2 HX;have hs_w1:=hE.size;replace b_B1:=bX3 B1;replace b_B2:=bX3 B2
 go_wp2_with fail
 refine cM (iY ⟨!neg,ao,n,c,bo,m,d⟩ _ _ (HR.out.neg.ext HX.out)) fun x2 w2 hE G2=>?_
 refine mV3 hE ?_ B1 B2 HX;clear B1 B2 HX;intro B1 B2 HX;have hs_w2:=hE.size;replace b_B1:=bX3 B1;replace b_B2:=bX3 B2;go_wp2;have hF:=((((Fin.start (L:=w.heap.size+1) HX.out (aj B2.out rfl)).set zo (i:=0) (v:=.bool x2.neg) rfl).set zo (i:=1) (v:=.slice x2.a x2.n x2.c) rfl).set zo (i:=2) (v:=.slice x2.b x2.m x2.d) rfl);exact nXa (v:=x2.v) (by simp [results,Tryz.results178,go_sem,ae B2.out]) rfl ⟨x2,rfl,hF.ext,G2.out.keep hF.keep⟩
def gY(p q:List Rat):List Rat:=gU p (q.map (fun x=>-x))
theorem vj(q:Rat):dJ q 0=Sg.sg q:=by
 unfold dJ Sg.sg;rfl
theorem AR{a b:Rat}(hb:0<b):dJ a 0=dJ (a / b) 0:=by
 have h1:a=a / b*b:=(cm (fun h=>by rw [h] at hb;exact absurd hb Rat.lt_irrefl)).symm;have hb2:=Rat.le_of_lt hb;unfold dJ;by_cases hz:a=0
 ·subst hz;rw [show (0:Rat) / b=0 by rw [Rat.div_def,nYa]]
 ·have hz2:a / b≠0:=fun h=>hz (by rw [h1,h,nYa])
  rw [if_neg hz,if_neg hz2];by_cases hn:a<0
  ·rw [if_pos hn,if_pos];by_cases h:a / b<0
   ·exact h
   ·have h0:0<a / b:=by grind
    have:=Rat.mul_pos h0 hb;rw [←h1] at this;grind
  ·rw [if_neg hn,if_neg];intro h;have h2:0 < -(a / b):=by grind
   have:=Rat.mul_pos h2 hb;have h3:-(a / b)*b=-a:=by rw [Rat.neg_mul,←h1]
   rw [h3] at this;exact hn (by grind)
theorem Az(x:Rat)(i:Nat):0<ehP x i:=by
 unfold ehP;exact Rat.pow_pos (rh x)
theorem fQ(ao:Option Addr)(n c:Nat)(a:List Rat)(t:RH)(x:Rat)(S T:Nat)(w:World)(h:bw w ⟨ao,n,c⟩ a)(ht:aB w t x)(hn:n≤1000)(hwa:∀ y ∈ a,Wz S y)(hx:Sz T x)(hT:1≤T)(hS:1≤S)(hS3:S≤30000000)(hT4:T≤500000)(hT3:T*n≤1000000) :
  au 79 [.slice ao n c,t.v] w (fun _:Unit=>.int .i64 (Sg.sg (evV a x))) (fun _ _=>True):=by
 have LA:=Hi h.lin;have HT:=Hi ht;have HX:=Hi (Ext.refl w);have WA:=Hi hwa;have ZX:=Hi hx;have HPl:=Hi h.len;simp only at HPl;obtain ⟨tn,ta,tl,tc,tb,tm,td⟩:=t;clear h ht hwa hx;obtain ⟨P,hP⟩:∃ P,P=n:=⟨_,rfl⟩;rw [←hP] at LA HPl hn hT3 ⊢;clear hP;have ZA:Hid (SzL S a):=Hi (fun y hy=>(WA.out y hy).sz hS);have hP1:=LA.out.can.le;have hP2:=LA.out.can.max;simp only at hP1 hP2;unfold au;go_enter Tryz.func79,Tryz.ntmps79
 go_upto_region 1 with fail
 refine nmA ?_;intro w1 hE B3 hz_w1 hr_w1;refine mV3 hE ?_ LA HT HX;clear LA HT HX;intro LA HT HX;have hs_w1:=hE.size;replace b_B3:=bX3 B3
 go_wp2_with fail
 refine cM (jx ⟨tn,ta,tl,tc,tb,tm,td⟩ x _ HT.out) fun x6 w6 hE G6=>?_
 refine mV4 hE ?_ B3 LA HT HX;clear B3 LA HT HX;intro B3 LA HT HX;have hs_w6:=hE.size;replace b_B3:=bX3 B3;obtain ⟨xn,xd⟩:=x6;have HN:=Hi G6.out.1;have HD:=Hi G6.out.2;clear G6;simp only [PT] at *
 go_upto_region 2 with fail
 refine hZ ?_;intro w7 hE B7 B8 hz_w7 hr_w7;refine mV6 hE ?_ B3 LA HT HX HN HD;clear B3 LA HT HX HN HD;intro B3 LA HT HX HN HD;have hs_w7:=hE.size;replace b_B3:=bX3 B3;replace b_B7:=bX3 B7;replace b_B8:=bX3 B8;obtain ⟨b7,hb7⟩:∃ b7,b7=w6.heap.size:=⟨_,rfl⟩;obtain ⟨b8,hb8⟩:∃ b8,b8=w6.heap.size+1:=⟨_,rfl⟩;have hb7w:b7<w7.heap.size:=zo;have hb8w:b8<w7.heap.size:=zo;rw [←hb8] at B8 ⊢;rw [←hb7] at B7 ⊢;clear hb7 hb8;have LA7:=LA;have HN7:=HN;have HD7:=HD;have B77:=B7;have B87:=B8;have HX0:=HX;have HX7:=Hi (Ext.refl w7);have hw7:w.heap.size≤w7.heap.size:=zo;clear LA;clear HN;clear HD;clear HT
 (try clear b_B3);clear B3
 (try clear b_B7);clear B7
 (try clear b_B8);clear B8
 clear HX
 go_wp2_with fail
 refine cM (d9 0 _ dZ dZ) fun x8 w8 hE G8=>?_
 replace HX7:=hE.tr HX7;have hs_w8:=hE.size
 go_wp2_with fail
 refine cM (d9 1 _ dZ dZ) fun x9 w9 hE G9=>?_
 refine mV2 hE ?_ G8 HX7;clear G8 HX7;intro G8 HX7;have hs_w9:=hE.size
 go_upto_region 3 with fail
 refine hZ ?_;intro w10 hE B9 B10 hz_w10 hr_w10;refine mV3 hE ?_ G9 G8 HX7;clear G9 G8 HX7;intro G9 G8 HX7;have hs_w10:=hE.size;replace b_B9:=bX3 B9;replace b_B10:=bX3 B10;have HS0:Hid (aB w10 x8 (ehS a x 0)):=Hi (by unfold ehS;rw [if_pos rfl];exact G8.out);have HP0:Hid (aB w10 x9 (ehP x 0)):=Hi (by unfold ehP;rw [Nat.zero_sub,Rat.pow_zero];exact G9.out);obtain ⟨b9,hb9⟩:∃ b9,b9=w9.heap.size:=⟨_,rfl⟩;obtain ⟨b10,hb10⟩:∃ b10,b10=w9.heap.size+1:=⟨_,rfl⟩;have hw9:w7.heap.size≤b9:=zo;have hw10:w7.heap.size≤b10:=zo;have h910:b9≠b10:=zo;rw [←hb10] at B10 ⊢;rw [←hb9] at B9 ⊢;clear hb9 hb10 b_B9 b_B10;go_wp2
 go_loopg [19] P (fun g v wr=>∃ (i:Nat) (u y:RH),i+g=P∧v=.int .i64 (i:Nat)∧Ext w7 wr∧wr.heap[b9]?=some (.cells #[.bool u.neg,.slice u.a u.n u.c,.slice u.b u.m u.d] 34 (0,0))∧wr.heap[b10]?=some (.cells #[.bool y.neg,.slice y.a y.n y.c,.slice y.b y.m y.d] 34 (0,0))∧aB wr u (ehS a x i)∧aB wr y (ehP x i))
 case atStart=>exact ⟨0,x8,x9,zo,rfl,HX7.out,B9.out,B10.out,HS0.out,HP0.out⟩
 case round =>
  obtain ⟨i,⟨un,ua,ul,uc,ub,um,ud⟩,⟨yn,ya,yl,yc,yb,ym,yd⟩,hi,rfl,g1,g2,g3,g4,g5⟩:=hrel;clear HX7 B9 B10 HS0 HP0 G8 G9;have HX7:=Hi g1;have B9:=Hi g2;have B10:=Hi g3;have HU:=Hi g4;have HY:=Hi g5;have hw7r:=g1.size;clear g1 g2 g3 g4 g5;have hTi:T*i≤1000000:=nXf (nXg T (show i≤P by omega)) hT3;have hTi2:(T+1)*i=T*i+i:=nXy T i;have hTi3:T*(i+1)=T*i+T:=Nat.mul_succ T i;have ZU:Hid (Sz 32000000 (ehS a x i)):=Hi (((Ct WA.out ZX.out i (by rw [HPl.out];omega)).mono zo).sz dZ);have ZY:Hid (Sz 2000000 (ehP x i)):=Hi (((uL ZX.out).mono zo).sz dZ);replace b_B9:=bX3 B9;replace b_B10:=bX3 B10;by_cases h0:gk=0
  case pos =>
   subst h0;obtain rfl:i=P:=by omega
   have hin:¬ (i:Int)<i:=zo;have HXw:=Hi (HX0.out.trans HX7.out);have HE:Hid (dJ (ehS a x i) 0=Sg.sg (evV a x)):=Hi (by have:=Cs a x;rw [HPl.out] at this;rw [AR (Az x i),this,vj])
   go_wp2_with fail
   refine cM (fU ⟨un,ua,ul,uc,ub,um,ud⟩ (ehS a x i) _ (HU.out.raw ZU.out zo)) fun x20 w20 hE _=>?_
   refine mV6 hE ?_ HX7 B9 B10 HU HY HXw;clear HX7 B9 B10 HU HY HXw;intro HX7 B9 B10 HU HY HXw;have hs_w20:=hE.size;replace b_B9:=bX3 B9;replace b_B10:=bX3 B10;rw [HE.out];go_wp2
   go_ret
   exact ⟨(),rfl,HXw.out,trivial⟩
  have hin:(i:Int)<P:=zo;have B7:=Hi (HX7.out.block B77.out);have B8:=Hi (HX7.out.block B87.out);replace b_B9:=bX3 B9;replace b_B10:=bX3 B10;replace b_B7:=bX3 B7;replace b_B8:=bX3 B8;obtain ⟨k,hk⟩:∃ k,k=P-1-i:=⟨_,rfl⟩;have hkP:k<P:=zo;have hki:(P:Int)-1-i=k:=by omega
  have HST:Hid (ehS a x i*(x.num:Rat)+a.getD k 0*ehP x (i+1)=ehS a x (i+1)):=Hi (by rw [hk,←HPl.out];exact uK x (by rw [HPl.out];omega));have ZY1:Hid (Sz 2003000 (ehP x (i+1))):=Hi (((uL ZX.out).mono zo).sz dZ);have ZK:Hid (Sz S (a.getD k 0)):=Hi (ZA.out.at (by rw [HPl.out];exact hkP));clear hk;by_cases hi0:i=0
  case pos =>
   subst hi0;have hk0:(P:Int)-1=k:=by omega
   clear hki;have HY1:Hid (aB wr ⟨yn,ya,yl,yc,yb,ym,yd⟩ (ehP x (0+1))):=HY;clear HY;obtain ⟨ba,oa,r,hao,hbl,⟨hc1,hc2,hc3⟩,hPc⟩:=(LA7.out.ext HX7.out).celx (k:=k) hkP;obtain ⟨rneg,ra,rn,rc,rb,rm,rd⟩:=r;simp only at hc1 hc2 hc3;have HC:=Hi hPc;clear hPc;subst hao
   go_upto_region 8 with fail
   refine wpG 14 (fun opIx=>match opIx with
    | 2=>sR (ehS a x 0*(x.num:Rat))
    | 12=>sR (a.getD k 0*ehP x (0+1))
    | 13=>sR (ehS a x 0*(x.num:Rat)+a.getD k 0*ehP x (0+1))
    | _=>.quiet) (fun|13=>[2,12]|_=>[]) fun w0 he0 hz0 hc0 hf0=>?_
   refine wps he0 (fun w1 hW hG=>?_) fun x30=>?_
   ·exact spc [RH.v ⟨un,ua,ul,uc,ub,um,ud⟩,xn.v] Tryz.func85 (bQ _ xn _ _ _ ((HU.out.ext hW).raw ZU.out zo) (((HN7.out.ext HX7.out).ext hW).raw (qB ZX.out hT) zo))
   refine qZ ?_;refine wps he0 (fun w1 hW hG=>?_) fun x31=>?_
   ·exact spc [RH.v ⟨rneg,ra,rn,rc,rb,rm,rd⟩,RH.v ⟨yn,ya,yl,yc,yb,ym,yd⟩] Tryz.func85 (bQ _ _ _ _ _ ((HC.out.ext hW).raw ZK.out zo) ((HY1.out.ext hW).raw ZY1.out zo))
   refine qZ ?_;refine wps he0 (fun w1 hW hG=>?_) fun x32=>?_
   ·have g30:=gS (hG 2 dZ);have g31:=gS (hG 12 dZ);exact spc [x30.v,x31.v] Tryz.func118 (j1 x30 x31 _ _ _ (g30.raw (ZU.out.mul (qB ZX.out hT)) zo) (g31.raw (ZK.out.mul ZY1.out) zo))
   refine qZ ?_;refine aq ?_;intro w14 hI;have hE:=he0.out.trans hI.ext;have G30:=gT (hI.facts 2);have G31:=gT (hI.facts 12);have G32:=gT (hI.facts 13);clear hI he0 hz0 hc0 hf0;refine mV8 hE ?_ B9 B10 B7 B8 HU HX7 HC HY1;clear B9 B10 B7 B8 HU HX7 HC HY1;intro B9 B10 B7 B8 HU HX7 HC HY1;have hs_w14:=hE.size;replace b_B9:=bX3 B9;replace b_B10:=bX3 B10;replace b_B7:=bX3 B7;replace b_B8:=bX3 B8;simp only [pD];clear hc1 hc2 hc3;rw [HST.out] at G32
   go_upto_region 9 with fail
   refine bi B9.out rfl ?_;intro w15 T;replace HX7:=Hi (T.ext HX7.out zo);replace HU:=Hi (HU.out.keep T.keep);replace B9:=Hi (T.bx);replace B10:=Hi (T.rest _ _ zo B10.out);replace B7:=Hi (T.rest _ _ zo B7.out);replace B8:=Hi (T.rest _ _ zo B8.out);replace HY1:=Hi (HY1.out.keep T.keep);replace HC:=Hi (HC.out.keep T.keep);replace G30:=Hi (G30.out.keep T.keep);replace G31:=Hi (G31.out.keep T.keep);replace G32:=Hi (G32.out.keep T.keep);have hs_w15:=nle T.size;have hr_w15:=nle T.size.symm;clear T;replace b_B9:=bX3 B9;replace b_B10:=bX3 B10;replace b_B7:=bX3 B7;replace b_B8:=bX3 B8;go_wp2
   go_roundg (gk-1)
   case measure=>omega
   case rel=>exact ⟨0+1,x32,⟨yn,ya,yl,yc,yb,ym,yd⟩,zo,by go_num,HX7.out,B9.out,B10.out,G32.out,HY1.out⟩
  have hi0':(0:Int)<i:=zo
  go_wp2_with fail
  refine cM (bQ ⟨yn,ya,yl,yc,yb,ym,yd⟩ xd (ehP x i) ((x.den:Int):Rat) _ (HY.out.raw ZY.out zo) ((HD7.out.ext HX7.out).raw (Cz ZX.out hT) zo)) fun x11 w11 hE G11=>?_
  refine mV7 hE ?_ HY HX7 HU B9 B10 B7 B8;clear HY HX7 HU B9 B10 B7 B8;intro HY HX7 HU B9 B10 B7 B8;have hs_w11:=hE.size;replace b_B9:=bX3 B9;replace b_B10:=bX3 B10;replace b_B7:=bX3 B7;replace b_B8:=bX3 B8
  go_upto_region 8 with fail
  refine bi B10.out rfl ?_;intro w12 T;replace HX7:=Hi (T.ext HX7.out zo);replace HU:=Hi (HU.out.keep T.keep);replace HY:=Hi (HY.out.keep T.keep);replace B9:=Hi (T.rest _ _ zo B9.out);replace B10:=Hi (T.bx);replace B7:=Hi (T.rest _ _ zo B7.out);replace B8:=Hi (T.rest _ _ zo B8.out);replace G11:=Hi (G11.out.keep T.keep);have hs_w12:=nle T.size;have hr_w12:=nle T.size.symm;clear T;replace b_B9:=bX3 B9;replace b_B10:=bX3 B10;replace b_B7:=bX3 B7;replace b_B8:=bX3 B8;have HY1:Hid (aB w12 x11 (ehP x (i+1))):=Hi (by rw [←xM x zo];exact G11.out);obtain ⟨zn,za,zl,zc,zb,zm,zd⟩:=x11;clear HY;clear G11;obtain ⟨ba,oa,r,hao,hbl,⟨hc1,hc2,hc3⟩,hPc⟩:=(LA7.out.ext HX7.out).celx (k:=k) hkP;obtain ⟨rneg,ra,rn,rc,rb,rm,rd⟩:=r;simp only at hc1 hc2 hc3;have HC:=Hi hPc;clear hPc;subst hao
  go_upto_region 8 with fail
  refine wpG 14 (fun opIx=>match opIx with
   | 2=>sR (ehS a x i*(x.num:Rat))
   | 12=>sR (a.getD k 0*ehP x (i+1))
   | 13=>sR (ehS a x i*(x.num:Rat)+a.getD k 0*ehP x (i+1))
   | _=>.quiet) (fun|13=>[2,12]|_=>[]) fun w0 he0 hz0 hc0 hf0=>?_
  refine wps he0 (fun w1 hW hG=>?_) fun x30=>?_
  ·exact spc [RH.v ⟨un,ua,ul,uc,ub,um,ud⟩,xn.v] Tryz.func85 (bQ _ xn _ _ _ ((HU.out.ext hW).raw ZU.out zo) (((HN7.out.ext HX7.out).ext hW).raw (qB ZX.out hT) zo))
  refine qZ ?_;refine wps he0 (fun w1 hW hG=>?_) fun x31=>?_
  ·exact spc [RH.v ⟨rneg,ra,rn,rc,rb,rm,rd⟩,RH.v ⟨zn,za,zl,zc,zb,zm,zd⟩] Tryz.func85 (bQ _ _ _ _ _ ((HC.out.ext hW).raw ZK.out zo) ((HY1.out.ext hW).raw ZY1.out zo))
  refine qZ ?_;refine wps he0 (fun w1 hW hG=>?_) fun x32=>?_
  ·have g30:=gS (hG 2 dZ);have g31:=gS (hG 12 dZ);exact spc [x30.v,x31.v] Tryz.func118 (j1 x30 x31 _ _ _ (g30.raw (ZU.out.mul (qB ZX.out hT)) zo) (g31.raw (ZK.out.mul ZY1.out) zo))
  refine qZ ?_;refine aq ?_;intro w14 hI;have hE:=he0.out.trans hI.ext;have G30:=gT (hI.facts 2);have G31:=gT (hI.facts 12);have G32:=gT (hI.facts 13);clear hI he0 hz0 hc0 hf0;refine mV8 hE ?_ B9 B10 B7 B8 HU HX7 HC HY1;clear B9 B10 B7 B8 HU HX7 HC HY1;intro B9 B10 B7 B8 HU HX7 HC HY1;have hs_w14:=hE.size;replace b_B9:=bX3 B9;replace b_B10:=bX3 B10;replace b_B7:=bX3 B7;replace b_B8:=bX3 B8;simp only [pD];clear hc1 hc2 hc3;rw [HST.out] at G32
  go_upto_region 9 with fail
  refine bi B9.out rfl ?_;intro w15 T;replace HX7:=Hi (T.ext HX7.out zo);replace HU:=Hi (HU.out.keep T.keep);replace B9:=Hi (T.bx);replace B10:=Hi (T.rest _ _ zo B10.out);replace B7:=Hi (T.rest _ _ zo B7.out);replace B8:=Hi (T.rest _ _ zo B8.out);replace HY1:=Hi (HY1.out.keep T.keep);replace HC:=Hi (HC.out.keep T.keep);replace G30:=Hi (G30.out.keep T.keep);replace G31:=Hi (G31.out.keep T.keep);replace G32:=Hi (G32.out.keep T.keep);have hs_w15:=nle T.size;have hr_w15:=nle T.size.symm;clear T;replace b_B9:=bX3 B9;replace b_B10:=bX3 B10;replace b_B7:=bX3 B7;replace b_B8:=bX3 B8;go_wp2
  go_roundg (gk-1)
  case measure=>omega
  case rel=>exact ⟨i+1,x32,⟨zn,za,zl,zc,zb,zm,zd⟩,zo,by go_num,HX7.out,B9.out,B10.out,G32.out,HY1.out⟩
theorem ku(ao:Option Addr)(n c:Nat)(a:List Rat)(t:RH)(x:Rat)(S T:Nat)(w:World)(h:bw w ⟨ao,n,c⟩ a)(ht:aB w t x)(hn:n≤1000)(hwa:∀ y ∈ a,Wz S y)(hx:Sz T x)(hT:1≤T)(hS:1≤S)(hS3:S≤30000000)(hT3:T≤1000) :
  au 79 [.slice ao n c,t.v] w (fun _:Unit=>.int .i64 (Sg.sg (evV a x))) (fun _ _=>True) :=
 fQ ao n c a t x S T w h ht hn hwa hx hT hS hS3 zo (nXx hT3 hn)
end Go.Proofs.YtafgmcimcbhhjaaGreat
