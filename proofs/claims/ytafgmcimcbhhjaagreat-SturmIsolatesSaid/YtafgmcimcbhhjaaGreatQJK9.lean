import Derived.Test.YtafgmcimcbhhjaaGreatQJK8
set_option linter.unusedVariables false
set_option maxHeartbeats 8000000
set_option maxRecDepth 8000
namespace Go.Proofs.YtafgmcimcbhhjaaGreat
open Go.RowKit Go.Front Go.Num Stab
attribute [local go_sem] XW.cell XW.frozen
theorem uN{p q:List Rat}{S U:Nat}(hp:∀ x ∈ p,Wz S x)(hq:∀ x ∈ q,Wz U x)(htp:tz p=p)(htq:tz q=q)(h0:q≠[]):∃ s r f,DvP p q S U s r f:=by
 have hlead:aJ q≠0:=by
  have:=bT (q:=q) (by rw [htq];exact h0)
  rwa [htq] at this
 have hpos:=nYg.2 h0;by_cases hl:q.length≤p.length
 ·have key:∀ (k j:Nat) (sl r:List Rat) (f:Rat),p.length+2-j≤k→DvI p q S U j sl r f→∃ s r f,DvP p q S U s r f:=by
   intro k;induction k with
   | zero=>intro j sl r f hk h;have:=h.jl;omega
   | succ k ih =>
    intro j sl r f hk h;by_cases h2:r.length<q.length
    ·exact ⟨sl,r,f,h.done h2⟩
    ·refine ih (j+1) _ _ _ zo (h.step hpos hlead hq zo rfl (r2:=(List.range r.length).map fun i=>r.getD i 0*(((aJ r / aJ q).den:Int):Rat)-if r.length-q.length≤i then ((aJ r / aJ q).num:Rat)*q.getD (i-(r.length-q.length)) 0 else 0) (by simp) (fun i hi=>by rw [cG,if_pos hi]))
  exact key _ 0 _ _ _ (nXe _) (DvI.start hp htp hl)
 ·exact ⟨[],p,1,DvP.short hp htp zo⟩
theorem xP{q:List Rat}{U E:Nat}(hq:FrL U E q)(h0:aJ q≠0)(hE:0<E)(hU:1≤U):∀ (f:Nat) (u p:List Rat) (S D:Nat),FrL S D p→1≤S→0<D→D<W32 ^ S→p.length≤f →
  SzL (S+p.length*(U+1)) (jL q f u p).2:=by
 intro f;induction f with
 | zero =>
  intro u p S D hp hS hD hD2 hl;exact (hp.sz hS hD hD2).mono zo
 | succ f ih =>
  intro u p S D hp hS hD hD2 hl;show SzL _ (if q.length≤p.length then jL q f (u.set (p.length-q.length) (aJ p / aJ q)) (dC p q) else (u,p)).2;by_cases h:q.length≤p.length
  ·rw [if_pos h];have hr:=fT p q;have hql:0<q.length:=by
    refine Nat.pos_of_ne_zero fun h1=>h0 ?_
    rw [nXj.1 h1];rfl
   have h1:=qi hp hq h0;have h2:D*ldD q E<W32 ^ (S+U+1):=by
    have h3:D*ldD q E<W32 ^ (S+U):=by
     rw [Nat.pow_add];exact Nat.mul_lt_mul_of_lt_of_le hD2 (nYl (qL hq)) (nYm ay)
    exact nXn h3 (rC zo)
   refine (ih _ _ _ _ h1 zo (Nat.mul_pos hD (m7 hq h0 hE)) h2 zo).mono ?_;have h4:(dC p q).length*(U+1)+(U+1)≤p.length*(U+1):=by
    rw [←nXy];exact nXh _ zo
   omega
  ·rw [if_neg h];exact (hp.sz hS hD hD2).mono zo
theorem qp{p q:List Rat}{S U D E:Nat}(hp:FrL S D p)(hq:FrL U E q)(h0:tz q≠[])(hS:1≤S)(hU:1≤U)(hD:0<D)(hD2:D<W32 ^ S)(hE:0<E):SzL (S+(p.length+1)*(U+1)) (bB p q):=by
 have h1:=xP hq.tz (bT h0) hE hU (tz p).length (List.replicate ((tz p).length+1-(tz q).length) 0) (tz p) S D hp.tz hS hD hD2 (nXe _);refine SzL.mono h1 ?_;have:=ah p;have h2:(tz p).length*(U+1)≤(p.length+1)*(U+1):=nXh _ zo;omega
theorem mY{a:List Rat}{X:Nat}(ha:∀ x ∈ a,Wz X x)(ht:tz a=a)(hX:1≤X):∃ D,0<D∧D<W32 ^ X∧FrL X D (bq a):=by
 have hf:FrL X 1 a:=fun x hx=>Fr.one (ha x hx)
 by_cases h:tz a=[]
 ·refine ⟨1,dZ,Nat.one_lt_pow zo dZ,?_⟩;have:bq a=[]:=by unfold bq;rw [if_pos h]
  rw [this];exact fun x hx=>by simp at hx
 ·exact ⟨ldD (tz a) 1,m7 hf.tz (bT h) dZ,qL hf.tz,t7 hf⟩
theorem xG(pa qa:Option Addr)(P pc Q qc:Nat)(p q:List Rat)(S D E:Nat)(w:World)(hp:bw w ⟨pa,P,pc⟩ p)(hq:bw w ⟨qa,Q,qc⟩ q)(hP:P≤100000)(hQ:Q≤100000)
 (hS:1≤S)(hD:0<D)(hD2:D<W32 ^ S)(hE:0<E)(hE2:E<W32 ^ S)(hpf:FrL S D p)(hqf:FrL S E q)(K:Nat)(hsz:GZ K S p q)(hK:K≤8000000) :
  au 135 [.slice pa P pc,.slice qa Q qc] w SH.v (fun x w'=>bw w' x (bN p q)∧GcR K (bN p q)):=by
 have HX:=Hi (Ext.refl w);have LP:=Hi hp.lin;have LQ:=Hi hq.lin;have HZP:=Hi (hpf.sz hS hD hD2);have HZQ:=Hi (hqf.sz hS hE hE2);obtain ⟨X0,hX0⟩:=GcI.start hS hD hE hpf hqf hsz (by have:=hp.len;simp only at this;omega) (by have:=hq.len;simp only at this;omega);have hSs:S+1≤8000000:=by
  have h1:=hX0.small;obtain ⟨X1,h2,h3⟩:=hsz;have:=h3.small;omega
 have hlp:(ar p).length≤P:=by have:=hp.len;have h2:=ah p;rw [aC];simp only at this;omega
 have hlq:(ar q).length≤Q:=by have:=hq.len;have h2:=ah q;rw [aC];simp only at this;omega
 have HG:=Hi hX0;clear hX0;have HMP:Hid (bq p=bq (ar p)):=Hi ((iT p).mon).symm;have HMQ:Hid (bq q=bq (ar q)):=Hi ((iT q).mon).symm;clear hp hq hpf hqf hsz;unfold au;go_enter Tryz.func135,Tryz.ntmps135
 go_wp2_with fail
 refine cM (j8 pa P pc p S _ LP.out.can zo zo HZP.out) fun x9 w9 hE G9=>?_
 refine mV3 hE ?_ HX LP LQ;clear HX LP LQ;intro HX LP LQ;have hs_w9:=hE.size;clear hE
 go_wp2_with fail
 refine cM (j8 qa Q qc q S _ LQ.out.can zo zo HZQ.out) fun x11 w11 hE G11=>?_
 refine mV4 hE ?_ G9 HX LP LQ;clear G9 HX LP LQ;intro G9 HX LP LQ;have hs_w11:=hE.size;clear hE;rw [HMP.out] at G9;rw [HMQ.out] at G11;clear LP;clear LQ;go_wp2
 go_loopg [0,1] (ar q).length (fun g u v wr=>∃ (x y:SH) (a b:List Rat) (X:Nat),u=x.v∧v=y.v∧b.length≤g∧Ext w wr∧bw wr x (bq a)∧bw wr y (bq b)∧GcI K p q a b X)
 case atStart=>exact ⟨_,_,_,_,X0,rfl,rfl,nXe _,HX.out,G9.out.can,G11.out.can,HG.out⟩
 case round =>
  obtain ⟨⟨xa,xn,xc⟩,⟨ya,yn,yc⟩,a,b,X,rfl,rfl,hg,g1,g2,g3,g4⟩:=hrel;clear HX G9 G11 HG;have HX:=Hi g1;have LA:=Hi g2.lin;have LB:=Hi g3.lin;have HG:=Hi g4;have hxl:a.length=xn:=by have:=g2.len;rw [cH,g4.1] at this;exact this
  have hyl:b.length=yn:=by have:=g3.len;rw [cH,g4.2.1] at this;exact this
  have HXl:=Hi g2.len;clear g1 g2 g3 g4;simp only [SH.v];by_cases h0:yn=0
  case pos =>
   subst h0;have hb:b=[]:=nXj.1 hyl;have HV:Hid (bN p q=bq a):=Hi (by have:=HG.out.2.2.2.2.2.2.1;rw [hb] at this;exact this.symm);go_wp2
   go_ret
   exact ⟨⟨xa,xn,xc⟩,rfl,HX.out,by rw [HV.out];exact LA.out.can,HG.out.done hb⟩
  obtain ⟨m,rfl⟩:∃ m,yn=m+1:=⟨yn-1,zo⟩;have hpos:(0:Int)<(m:Int)+1:=zo;have Hb0:Hid (b≠[]):=Hi (by intro h;rw [h] at hyl;simp at hyl);obtain ⟨e1,e2,e3,e4,e5,e6,e7,e8,e9⟩:=HG.out;have hdz:=HG.out.dsz;obtain ⟨Da,u1,u2,u3⟩:=mY e3 e1 e5;obtain ⟨Db,v1,v2,v3⟩:=mY e4 e2 e5;have HM0:Hid (tz (bq b)≠[]):=Hi (by
   rw [dI];intro h;have h2:(bq b).length=m+1:=by rw [cH,e2];exact hyl
   rw [h] at h2;simp at h2)
  obtain ⟨s,r,f,hdv⟩:=uN e3 e4 e1 e2 Hb0.out;obtain ⟨X2,hnx⟩:=HG.out.next Hb0.out hdv;have HNX:=Hi hnx;clear hnx;have hml:(bq a).length=xn:=by rw [cH,e1];exact hxl
  have HRS:Hid (SzL 8000000 (bB (bq a) (bq b))):=Hi ((qp u3 v3 HM0.out e5 e5 u1 u2 v1).mono (by rw [hml,←hxl];omega));have HRM:Hid (bq (bB (bq a) (bq b))=bq (ar r)):=Hi (by
   obtain ⟨d0,d1,d2,d3,d4,d5,d6,d7⟩:=hdv;have hbt:tz b≠[]:=by rw [e2];exact Hb0.out
   have h1:Pr (bB (bq a) (bq b)) (bB a b):=kF (eI a) (eI b) hbt;have h2:Pr r (bB a b):=mJ hbt d0 (Bd.seq s) (by rw [e2];exact d5) d7;rw [h1.mon,←h2.mon,(iT r).mon])
  have hrl:(ar r).length<b.length:=by obtain ⟨d0,d1,d2,d3,d4,d5,d6,d7⟩:=hdv;rw [aC,d4];exact d5
  clear hdv hml
  go_wp2_with fail
  refine cM (pE xa ya xn xc (m+1) yc (bq a) (bq b) X X Da Db _ LA.out.can LB.out.can zo zo e5 e5 u1 u2 v1 v2 u3 v3 HM0.out (by rw [←hxl];omega)) fun x18 w18 hE G18=>?_
  refine mV3 hE ?_ HX LA LB;clear HX LA LB;intro HX LA LB;have hs_w18:=hE.size;clear hE;obtain ⟨xq,⟨ra,rn,rc⟩⟩:=x18;have HR1:=Hi G18.out.2.lin;have hrl2:=G18.out.2.len;clear G18;simp only [QT] at *
  have hrn:rn≤100000:=by
   have h1:=(cd (bq a) HM0.out).1;have h2:(tz (bq b)).length=m+1:=by rw [dI,cH,e2];exact hyl
   rw [hrl2] at h1;omega
  clear hrl2 u1 u2 u3 v1 v2 v3 e1 e2 e3 e4 e7
  go_wp2_with fail
  refine cM (j8 ra rn rc (bB (bq a) (bq b)) 8000000 _ HR1.out.can zo zo HRS.out) fun x24 w24 hE G24=>?_
  refine mV4 hE ?_ HX LA LB HR1;clear HX LA LB HR1;intro HX LA LB HR1;have hs_w24:=hE.size;clear hE;rw [HRM.out] at G24;go_wp2
  go_roundg (gk-1)
  case measure=>omega
  case rel=>exact ⟨⟨ya,m+1,yc⟩,_,b,ar r,_,rfl,rfl,zo,HX.out,LB.out.can,G24.out.can,HNX.out⟩
theorem oA(l:List Rat)(x:Rat){k:Nat}(hk:k<l.length):evV (l.drop k) x=evV (l.drop (k+1)) x*x+l.getD k 0:=by
 rw [List.drop_eq_getElem_cons hk,nXd,List.getElem?_eq_getElem hk];rfl
theorem ox(ao:Option Addr)(n c:Nat)(l:List Rat)(t:RH)(x:Rat)(w:World)(h:bw w ⟨ao,n,c⟩ l)(ht:aB w t x)(hn:n≤100)(hl:SzL 40000000 l)(hx:Sz 10000000 x)(hE:∀ k,k≤l.length→Sz 40000000 (evV (l.drop k) x)) :
  au 50 [.slice ao n c,t.v] w RH.v (fun y w'=>aB w' y (evV l x)):=by
 obtain ⟨tn,ta,tl,tc,tb,tm,td⟩:=t;have HX:=Hi (Ext.refl w);have LA:=Hi h.lin;have HT:=Hi ht;have HZ:=Hi hl;have ZX:=Hi hx;have HLn:=Hi h.len;have HEs:=Hi hE;simp only at HLn;clear h ht hl hx hE;unfold au;go_enter Tryz.func50,Tryz.ntmps50
 go_upto_region 1 with fail
 refine hZ ?_;intro w1 hE B3 B4 hz_w1 hr_w1;refine mV3 hE ?_ HX LA HT;clear HX LA HT;intro HX LA HT;have hs_w1:=hE.size;clear hE;replace b_B3:=bX3 B3;replace b_B4:=bX3 B4
 go_wp2_with fail
 refine cM (aO 0 _ dZ dZ) fun x7 w7 hE G7=>?_
 refine mV5 hE ?_ B3 B4 HX LA HT;clear B3 B4 HX LA HT;intro B3 B4 HX LA HT;have hs_w7:=hE.size;clear hE;replace b_B3:=bX3 B3;replace b_B4:=bX3 B4
 go_upto_region 2 with fail
 refine nmA ?_;intro w8 hE B5 hz_w8 hr_w8;refine mV6 hE ?_ G7 B3 B4 HX LA HT;clear G7 B3 B4 HX LA HT;intro G7 B3 B4 HX LA HT;have hs_w8:=hE.size;clear hE;replace b_B3:=bX3 B3;replace b_B4:=bX3 B4;replace b_B5:=bX3 B5;obtain ⟨b3,hb3⟩:∃ b,b=w.heap.size:=⟨_,rfl⟩;obtain ⟨b4,hb4⟩:∃ b,b=w.heap.size+1:=⟨_,rfl⟩;obtain ⟨b5,hb5⟩:∃ b,b=w7.heap.size:=⟨_,rfl⟩;have hw3:w.heap.size≤b3:=zo;have hw4:w.heap.size≤b4:=zo;have hw5:w.heap.size≤b5:=zo;have h34:b3≠b4:=zo;have h35:b3≠b5:=zo;have h45:b4≠b5:=zo;rw [←hb4] at B4 ⊢;rw [←hb3] at B3 ⊢;rw [←hb5] at B5 ⊢;clear hb3 hb4 hb5 b_B3 b_B4 b_B5;have HY:Hid (aB w8 x7 (evV (l.drop n) x)):=Hi (by rw [List.drop_eq_nil_of_le (by rw [HLn.out];exact nXe _)];exact G7.out);have LA0:Hid (LIn w8 ⟨ao,n,c⟩ l 0 w.heap.size):=Hi LA.out;go_wp2
 go_loopg [6] n (fun g v wr=>∃ (y:RH),v=.int .i64 ((g:Int)-1)∧g≤n∧Ext w wr∧LIn wr ⟨ao,n,c⟩ l 0 w.heap.size∧aB wr ⟨tn,ta,tl,tc,tb,tm,td⟩ x∧wr.heap[b3]?=some (.cells #[.bool tn,.slice ta tl tc,.slice tb tm td] 34 (0,0))∧wr.heap[b4]?=some (.cells #[.bool false,.slice none 0 0,.slice none 0 0] 34 (0,0))∧wr.heap[b5]?=some (.cells #[.bool y.neg,.slice y.a y.n y.c,.slice y.b y.m y.d] 34 (0,0))∧aB wr y (evV (l.drop g) x))
 case atStart=>exact ⟨x7,rfl,nXe _,HX.out,LA0.out,HT.out,B3.out,B4.out,B5.out,HY.out⟩
 case round =>
  obtain ⟨⟨yn,ya,yl,yc,yb,ym,yd⟩,rfl,hg,g1,g2,g3,g4,g5,g6,g7⟩:=hrel;clear HX LA LA0 HT B3 B4 B5 HY G7;have HX:=Hi g1;have LA:=Hi g2;have HT:=Hi g3;have B3:=Hi g4;have B4:=Hi g5;have B5:=Hi g6;have HY:=Hi g7;clear g1 g2 g3 g4 g5 g6 g7;replace b_B3:=bX3 B3;replace b_B4:=bX3 B4;replace b_B5:=bX3 B5;by_cases h0:gk=0
  case pos =>
   subst h0;have hneg:¬ (0:Int)≤((0:Nat):Int)-1:=zo;go_wp2;refine bi (F:=fun W=>bodyPost _ _ _ _ _ W) B4.out rfl ?_;intro w9 T;replace HX:=Hi (T.ext HX.out zo);replace LA:=Hi (LA.out.put T zo);replace HT:=Hi (HT.out.keep T.keep);replace HY:=Hi (HY.out.keep T.keep);replace B3:=Hi (T.rest _ _ zo B3.out);replace B4:=Hi (T.bx);replace B5:=Hi (T.rest _ _ zo B5.out);have hs_w9:=nle T.size;have hr_w9:=nle T.size.symm;clear T;replace b_B3:=bX3 B3;replace b_B4:=bX3 B4;replace b_B5:=bX3 B5;exact nXa (v:=RH.v ⟨yn,ya,yl,yc,yb,ym,yd⟩) (by simp [results,Tryz.results50,go_sem,b_B4.1]) rfl ⟨⟨yn,ya,yl,yc,yb,ym,yd⟩,rfl,HX.out,HY.out⟩
  obtain ⟨k,rfl⟩:∃ k,gk=k+1:=⟨gk-1,zo⟩;have hk1:((k+1:Nat):Int)-1=(k:Nat):=zo;rw [hk1];have hkn:k<n:=zo;have hk0:(0:Int)≤(k:Nat):=zo;have hin:(k:Int)<n:=zo;have ZY:Hid (Sz 40000000 (evV (l.drop (k+1)) x)):=Hi (HEs.out (k+1) (by rw [HLn.out];omega));have HE:=Hi (oA l x (k:=k) (by rw [HLn.out];exact hkn));have ZK:Hid (Sz 40000000 (l.getD k 0)):=Hi (HZ.out.at (by rw [HLn.out];exact hkn));obtain ⟨ba,oa,r,hao,hbl,⟨hc1,hc2,hc3⟩,hPc⟩:=LA.out.celx (k:=k) hkn;obtain ⟨rneg,ra,rn,rc,rb,rm,rd⟩:=r;simp only at hc1 hc2 hc3;have HC:=Hi hPc;clear hPc;subst hao
  go_upto_region 5 with fail
  refine wpG 8 (fun opIx=>match opIx with
   | 2=>sR (evV (l.drop (k+1)) x*x)
   | 7=>sR (evV (l.drop (k+1)) x*x+l.getD k 0)
   | _=>.quiet) (fun|7=>[2]|_=>[]) fun w0 he0 hz0 hc0 hf0=>?_
  refine wps he0 (fun w1 hW hG=>?_) fun x30=>?_
  ·exact spc [RH.v ⟨yn,ya,yl,yc,yb,ym,yd⟩,RH.v ⟨tn,ta,tl,tc,tb,tm,td⟩] Tryz.func48 (fV _ _ _ _ _ ((HY.out.ext hW).raw ZY.out dZ) ((HT.out.ext hW).raw ZX.out dZ))
  refine qZ ?_;refine wps he0 (fun w1 hW hG=>?_) fun x31=>?_
  ·have g30:=gS (hG 2 dZ);exact spc [x30.v,RH.v ⟨rneg,ra,rn,rc,rb,rm,rd⟩] Tryz.func46 (kI x30 _ _ _ _ (g30.raw (ZY.out.mul ZX.out) dZ) ((HC.out.ext hW).raw ZK.out dZ))
  refine qZ ?_;refine aq ?_;intro w14 hI;have hE:=he0.out.trans hI.ext;have G30:=gT (hI.facts 2);have G31:=gT (hI.facts 7);clear hI he0 hz0 hc0 hf0;refine mV8 hE ?_ HX LA B3 B4 B5 HY HT HC;clear HX LA B3 B4 B5 HY HT HC;intro HX LA B3 B4 B5 HY HT HC;have hs_w14:=hE.size;clear hE;replace b_B3:=bX3 B3;replace b_B4:=bX3 B4;replace b_B5:=bX3 B5;simp only [pD];clear hc1 hc2 hc3;rw [←HE.out] at G31
  go_upto_region 4 with fail
  refine bi B5.out rfl ?_;intro w15 T;replace HX:=Hi (T.ext HX.out zo);replace LA:=Hi (LA.out.put T zo);replace HT:=Hi (HT.out.keep T.keep);replace HY:=Hi (HY.out.keep T.keep);replace B3:=Hi (T.rest _ _ zo B3.out);replace B4:=Hi (T.rest _ _ zo B4.out);replace B5:=Hi (T.bx);replace HC:=Hi (HC.out.keep T.keep);replace G30:=Hi (G30.out.keep T.keep);replace G31:=Hi (G31.out.keep T.keep);have hs_w15:=nle T.size;have hr_w15:=nle T.size.symm;clear T;replace b_B3:=bX3 B3;replace b_B4:=bX3 B4;replace b_B5:=bX3 B5;go_wp2
  go_roundg k
  case measure=>omega
  case rel=>exact ⟨x31,by go_num,zo,HX.out,LA.out,HT.out,B3.out,B4.out,B5.out,G31.out⟩
theorem mF(ao:Option Addr)(n cap:Nat)(qs:List Rat)(w:World)(h:cD w ⟨ao,n,cap⟩ qs) :
  au 140 [.slice ao n cap] w (fun _:Unit=>.slice ao (tz qs).length cap) (fun _ _=>tz qs=qs.take (tz qs).length∧(tz qs).length≤n):=by
 have H:=Hi h;have hle:=h.le;have hmx:=h.max;have Hlen:=Hi h.len;simp only at hle hmx Hlen;clear h;unfold au
 change Calls Tryz.prog _ #[.slice ao n cap] w _
 go_enter Tryz.func140,Tryz.ntmps140;go_wp2
 go_loopg [3] n (fun g nv wr=>nv=.int .i64 (g:Nat)∧g≤n∧tz qs=tz (qs.take g)∧Ext w wr)
 case atStart=>exact ⟨rfl,nXe _,by rw [nXm (by rw [Hlen.out];exact nXe _)],Ext.refl _⟩
 case round =>
  obtain ⟨rfl,hg,hs,hE⟩:=hrel;have Hs:=Hi hs;have HE:=Hi hE;clear hs hE;by_cases h0:gk=0
  ·subst h0;go_wp2
   go_ret
   have e:tz qs=[]:=by rw [Hs.out];rfl
   refine ⟨(),?_,HE.out,?_,?_⟩
   ·rw [e];simp
   ·rw [e];simp
   ·rw [e];simp
  ·obtain ⟨k,rfl⟩:∃ m,gk=m+1:=⟨gk-1,zo⟩;obtain ⟨b,off,r,hao,⟨hc1,hc2,hc3⟩,hP⟩:=(H.out.ext HE.out).at (k:=k) zo;subst hao;have hbl:b<wr.heap.size:=nXq _ _ hc1;obtain ⟨rneg,ra,rn,rc,rb,rm,rd⟩:=r;simp only at hc1 hc2 hc3;have HP:=Hi hP;clear hP h0
   go_wp2_with fail
   refine Calls.mono (fU ⟨rneg,ra,rn,rc,rb,rm,rd⟩ _ _ HP.out) ?_;rintro e w1 ⟨x1,rfl,hE1,-⟩;replace HE:=Hi (HE.out.trans hE1);have HZ:=Hi (eV (qs.getD k 0));obtain ⟨c,hc⟩:∃ c,c=dJ (qs.getD k 0) 0:=⟨_,rfl⟩;rw [←hc] at HZ ⊢;clear hc hE1 HP hc1 hc2 hc3 hbl;by_cases hz:c=0
   ·subst hz;have Hz0:=Hi (HZ.out.1 rfl);clear HZ;go_wp2
    go_roundg k
    case measure=>omega
    case rel=>exact ⟨by go_num,zo,by rw [Hs.out,ju (by rw [Hlen.out];omega) Hz0.out],HE.out⟩
   ·have hzb:(c == 0)=false:=by simpa using hz
    have HF:Hid (tz qs=qs.take (k+1)):=Hi (by rw [Hs.out,oS (by rw [Hlen.out];omega) (fun h=>hz (HZ.out.2 h))]);clear HZ hz;go_wp2
    go_ret
    have e:(tz qs).length=k+1:=by rw [HF.out,nXk,Hlen.out];omega
    refine ⟨(),?_,HE.out,?_,?_⟩
    ·rw [e];rfl
    ·rw [e];exact HF.out
    ·omega
theorem jx(t:RH)(q:Rat)(w:World)(h:aB w t q):au 142 [t.v] w PT (fun x w'=>aB w' x.1 (q.num:Rat)∧aB w' x.2 ((q.den:Int):Rat)):=by
 obtain ⟨neg,a,n,c,b,m,d⟩:=t;have H:=Hi h;have HX:=Hi (Ext.refl w);clear h;unfold au;go_enter Tryz.func142,Tryz.ntmps142
 go_upto_region 1 with fail
 refine rX ?_;intro w1 hE B1 B2 B3 hz_w1 hr_w1;replace HX:=hE.tr HX;have hs_w1:=hE.size;replace b_B1:=bX3 B1;replace b_B2:=bX3 B2;replace b_B3:=bX3 B3
 go_upto_region 2 with fail
 refine nmA ?_;intro w2 hE BO hz_w2 hr_w2;refine mV4 hE ?_ B1 B2 B3 HX;clear B1 B2 B3 HX;intro B1 B2 B3 HX;have hs_w2:=hE.size;replace b_B1:=bX3 B1;replace b_B2:=bX3 B2;replace b_B3:=bX3 B3;replace b_BO:=bX3 BO
 go_region
 refine mQ B2.out rfl B3.out rfl zo ?_;intro y3 y4 y5 T3 T4 E5;have HY:Hid (Ext w y5):=Hi ((T4.ext (T3.ext HX.out zo) zo).trans E5);have HO:=Hi (E5.block (T4.rest _ _ zo (T3.rest _ _ zo BO.out)));have HA:=Hi (H.out.ext HY.out);have C2:=Hi (E5.block (T4.rest _ _ zo T3.bx));have C3:=Hi (E5.block T4.bx);have c_C2:=ae C2.out;have c_C3:=ae C3.out;have f_C2:=af C2.out;have f_C3:=af C3.out;clear T3 T4 E5 b_B1 b_B2 b_B3 b_BO;go_wp2;exact nXa (v:=PT (⟨neg,a,n,c,some ⟨w1.heap.size,0,none⟩,1,1⟩,⟨false,b,m,d,some ⟨w1.heap.size,0,none⟩,1,1⟩)) (by simp [results,Tryz.results142,go_sem,PT,c_C2,c_C3]) rfl
  ⟨(⟨neg,a,n,c,some ⟨w1.heap.size,0,none⟩,1,1⟩,⟨false,b,m,d,some ⟨w1.heap.size,0,none⟩,1,1⟩),rfl,HY.out,
   ⟨by rw [Rat.num_intCast];exact HA.out.1,by rw [Rat.num_intCast];exact HA.out.2.1,by rw [Rat.den_intCast];exact j6 HO.out⟩,
   ⟨by rw [Rat.num_intCast];exact (decide_eq_false zo).symm,by rw [Rat.num_intCast];exact HA.out.2.2,by rw [Rat.den_intCast];exact j6 HO.out⟩⟩
theorem nF(ao:Option Addr)(n cap:Nat)(l:List Rat)(S D:Nat)(w:World)(h:cD w ⟨ao,n,cap⟩ l)(hn:n≤1000000)(hS:1≤S)(hS2:S≤30000000)(hD:0<D)(hl:D<W32 ^ S)(hf:∀ x ∈ l,Fr S D x) :
  au 77 [.slice ao n cap] w SH.v (fun x w'=>dF w.heap.size w' x (ar l)):=by
 obtain ⟨i0,hi0,hz0,hz1,hz2⟩:=info_parts k9;have HX:=Hi (Ext.refl w);have LP:=Hi h;have hle:=h.le;have hmx:=h.max;have Hlen:=Hi h.len;simp only at hle hmx Hlen;have HSz:=Hi (bV hS hD hl hf);clear h;unfold au;go_enter Tryz.func77,Tryz.ntmps77
 go_wp2_with fail
 refine cM (mF ao n cap l _ (LP.out.ext HX.out)) fun x2 w2 hE G2=>?_
 replace HX:=hE.tr HX;have hs_w2:=hE.size;obtain ⟨q1,q2⟩:=G2.out;obtain ⟨P,hP⟩:∃ P,P=(tz l).length:=⟨_,rfl⟩;obtain ⟨p,hp⟩:∃ p,p=tz l:=⟨_,rfl⟩;have LQ:Hid (cD w ⟨ao,P,cap⟩ p):=Hi (by rw [hp,q1,hP];exact LP.out.take q2);have HPl:Hid (p.length=P):=Hi (by rw [hp,hP]);have HSL:Hid (ar l=p.map (· / bj p)):=Hi (by rw [hp];rfl);have HM0:Hid (p≠[]→bj p≠0):=Hi (fun h0=>by
  rw [hp] at h0 ⊢;have:=aZ h0;exact fun h1=>by rw [show aK l=0 from h1] at this;exact absurd this Rat.lt_irrefl)
 have HFp:Hid (∀ x ∈ p,Fr S D x):=Hi (fun x hx=>hf x (by rw [hp,q1] at hx;exact List.mem_of_mem_take hx));have hPn:P≤n:=zo;rw [←hP];clear hP hp q1 q2 G2 hf HSz Hlen;clear LP
 go_wp2_with fail
 refine cM (d9 0 _ dZ dZ) fun x3 w3 hE G3=>?_
 replace HX:=hE.tr HX;have hs_w3:=hE.size
 go_upto_region 3 with fail
 refine nmA ?_;intro w4 hE B4 hz_w4 hr_w4;refine mV2 hE ?_ G3 HX;clear G3 HX;intro G3 HX;have hs_w4:=hE.size;replace b_B4:=bX3 B4;obtain ⟨b4,hb4⟩:∃ b4,b4=w3.heap.size:=⟨_,rfl⟩;have hb4w:w.heap.size≤b4:=zo;rw [←hb4] at B4 ⊢;clear hb4 b_B4;go_wp2
 go_loopg [18] P (fun g v wr=>∃ (i:Nat) (m:RH),i+g=P∧v=.int .i64 (i:Nat)∧Ext w wr∧wr.heap[b4]?=some (.cells #[.bool m.neg,.slice m.a m.n m.c,.slice m.b m.m m.d] 34 (0,0))∧aB wr m (bj (p.take i)))
 case atStart=>exact ⟨0,x3,zo,rfl,HX.out,B4.out,G3.out⟩
 case round =>
  obtain ⟨i,m,hi,rfl,g1,g4,g5⟩:=hrel;obtain ⟨mn,ma,ml,mc,mb,mm,md⟩:=m;clear HX B4 G3;have HX:=Hi g1;have B4:=Hi g4;have HM2:=Hi g5;clear g1 g4 g5;replace b_B4:=bX3 B4;by_cases h0:gk=0
  case neg =>
   have hin:(i:Int)<P:=zo;obtain ⟨b,off,r,hao,hbl,⟨hc1,hc2,hc3⟩,hPc⟩:=(LQ.out.ext HX.out).cells' (k:=i) zo;obtain ⟨rneg,ra,rn,rc,rb,rm,rd⟩:=r;simp only at hc1 hc2 hc3;have HC:=Hi hPc;clear hPc;have HAO:=Hi hao;subst hao
   go_upto_region 6 with fail
   clear hc1 hc2 hc3;have hb4r:b4<wr.heap.size:=b_B4.2.2;refine nmA ?_;intro w6 hE B6 hz_w6 hr_w6;refine mV4 hE ?_ HX B4 HM2 HC;clear HX B4 HM2 HC;intro HX B4 HM2 HC;have hs_w6:=hE.size;replace b_B4:=bX3 B4;replace b_B6:=bX3 B6;have Zm:Hid (Sz S (bj (p.take i))):=Hi ((ir fun x hx=>HFp.out x (List.mem_of_mem_take hx)).sz hS hD hl);have Zc:Hid (Sz S (p.getD i 0)):=Hi ((bV hS hD hl HFp.out).at (by rw [HPl.out];omega));obtain ⟨c,hc⟩:∃ c,c=p.getD i 0:=⟨_,rfl⟩;obtain ⟨a,ha⟩:∃ a,a=bj (p.take i):=⟨_,rfl⟩;have HMs:Hid (bj (p.take (i+1))=fH a c):=Hi (by rw [gC (by rw [HPl.out];omega),ep,ha,hc]);rw [←hc] at HC Zc;rw [←ha] at HM2 Zm;clear hc ha
   go_wp2_with fail
   refine cM (fU ⟨mn,ma,ml,mc,mb,mm,md⟩ a _ (HM2.out.raw Zm.out zo)) fun x7 w7 hE _=>?_
   refine mV5 hE ?_ B6 HX B4 HM2 HC;clear B6 HX B4 HM2 HC;intro B6 HX B4 HM2 HC;have hs_w7:=hE.size;replace b_B4:=bX3 B4;replace b_B6:=bX3 B6;have HZ:=Hi (eV a);obtain ⟨cc,hcc⟩:∃ cc,cc=dJ a 0:=⟨_,rfl⟩;rw [←hcc] at HZ ⊢;clear hcc;have h0b:((gk:Int) == 0)=false:=by simpa using h0
   by_cases hz:cc=0
   case pos =>
    subst hz;have HV:Hid (fH a c=c.abs):=Hi (by unfold fH;rw [if_pos (HZ.out.1 rfl)]);clear HZ
    go_wp2_with fail
    refine cM (j5 ⟨rneg,ra,rn,rc,rb,rm,rd⟩ c _ HC.out) fun x8 w8 hE G8=>?_
    refine mV5 hE ?_ B6 HX B4 HM2 HC;clear B6 HX B4 HM2 HC;intro B6 HX B4 HM2 HC;have hs_w8:=hE.size;replace b_B4:=bX3 B4;replace b_B6:=bX3 B6
    go_upto_region 13 with fail
    refine bi B4.out rfl ?_;intro y1 T;replace HX:=Hi (T.ext HX.out zo);replace B4:=Hi (T.bx);replace HM2:=Hi (HM2.out.keep T.keep);replace HC:=Hi (HC.out.keep T.keep);replace B6:=Hi (T.rest _ _ zo B6.out);replace G8:=Hi (G8.out.keep T.keep);have hs_y1:=nle T.size;have hr_y1:=nle T.size.symm;clear T;replace b_B4:=bX3 B4;replace b_B6:=bX3 B6;have HMn:Hid (aB y1 x8 (bj (p.take (i+1)))):=Hi (by rw [HMs.out,HV.out];exact G8.out);go_wp2
    go_roundg (gk-1)
    case measure=>omega
    case rel=>exact ⟨i+1,x8,zo,by go_num,HX.out,B4.out,HMn.out⟩
   have hzb:(cc == 0)=false:=by simpa using hz
   have Ha0:Hid (a≠0):=Hi (fun h=>hz (HZ.out.2 h));clear hz HZ;by_cases hb0:c=0
   case pos =>
    have HV:Hid (fH a c=a):=Hi (by unfold fH;rw [if_neg Ha0.out,if_pos hb0]);have Hb0:=Hi hb0;clear hb0
    go_wp2_with fail
    refine cM (nP ⟨mn,ma,ml,mc,mb,mm,md⟩ ⟨rneg,ra,rn,rc,rb,rm,rd⟩ a c _ (HM2.out.raw Zm.out zo) HC.out Hb0.out) fun x8 w8 hE _=>?_
    refine mV5 hE ?_ HX B4 HM2 HC B6;clear HX B4 HM2 HC B6;intro HX B4 HM2 HC B6;have hs_w8:=hE.size;replace b_B4:=bX3 B4;replace b_B6:=bX3 B6
    go_upto_region 9 with fail
    refine nmA ?_;intro y1 hE B7 hz_y1 hr_y1;refine mV5 hE ?_ HX B4 HM2 HC B6;clear HX B4 HM2 HC B6;intro HX B4 HM2 HC B6;have hs_y1:=hE.size;replace b_B4:=bX3 B4;replace b_B6:=bX3 B6;replace b_B7:=bX3 B7;go_wp2
    go_roundg (gk-1)
    case measure=>omega
    case rel=>exact ⟨i+1,⟨mn,ma,ml,mc,mb,mm,md⟩,zo,by go_num,HX.out,B4.out,by rw [HMs.out,HV.out];exact HM2.out⟩
   have Hb0:=Hi hb0;clear hb0;obtain ⟨q,hq⟩:∃ q,q=a / c:=⟨_,rfl⟩;have Hq0:Hid (q≠0):=Hi (fun h=>by
    have h1:=cm (a:=a) Hb0.out;rw [←hq,h] at h1;exact Ha0.out (by rw [←h1];grind))
   have ZQ:Hid (Sz (S+S) q):=Hi (by rw [hq];exact Zm.out.div Zc.out);have HV:Hid (fH a c=(a / (q.num:Rat)).abs):=Hi (by unfold fH;rw [if_neg Ha0.out,if_neg Hb0.out,←hq])
   go_wp2_with fail
   refine cM (cF ⟨mn,ma,ml,mc,mb,mm,md⟩ ⟨rneg,ra,rn,rc,rb,rm,rd⟩ a c _ (HM2.out.raw Zm.out zo) HC.out Hb0.out) fun x8 w8 hE G8=>?_
   refine mV5 hE ?_ HX B4 HM2 HC B6;clear HX B4 HM2 HC B6;intro HX B4 HM2 HC B6;have hs_w8:=hE.size;replace b_B4:=bX3 B4;replace b_B6:=bX3 B6;rw [←hq] at G8;clear hq
   go_upto_region 9 with fail
   refine nmA ?_;intro y1 hE B7 hz_y1 hr_y1;refine mV6 hE ?_ G8 HX B4 HM2 HC B6;clear G8 HX B4 HM2 HC B6;intro G8 HX B4 HM2 HC B6;have hs_y1:=hE.size;replace b_B4:=bX3 B4;replace b_B6:=bX3 B6;replace b_B7:=bX3 B7
   go_wp2_with fail
   refine cM (jx x8 q _ G8.out) fun x9 w9 hE G9=>?_
   refine mV7 hE ?_ B7 G8 HX B4 HM2 HC B6;clear B7 G8 HX B4 HM2 HC B6;intro B7 G8 HX B4 HM2 HC B6;have hs_w9:=hE.size;replace b_B4:=bX3 B4;replace b_B6:=bX3 B6;replace b_B7:=bX3 B7;obtain ⟨x9,x0⟩:=x9;have G9a:=Hi G9.out.1;have G9b:=Hi G9.out.2;clear G9;simp only [PT]
   go_upto_region 11 with fail
   refine hZ ?_;intro y2 hE B8 B9 hz_y2 hr_y2;refine mV8 hE ?_ B7 G8 HX B4 HM2 HC B6 G9a;clear B7 G8 HX B4 HM2 HC B6 G9a;intro B7 G8 HX B4 HM2 HC B6 G9a;replace G9b:=mV hE G9b;have hs_y2:=hE.size;replace b_B4:=bX3 B4;replace b_B6:=bX3 B6;replace b_B7:=bX3 B7;replace b_B8:=bX3 B8;replace b_B9:=bX3 B9
   go_wp2_with fail
   refine cM (cF ⟨mn,ma,ml,mc,mb,mm,md⟩ x9 a (q.num:Rat) _ (HM2.out.raw Zm.out zo) (G9a.out.raw ZQ.out.numz zo) (lX Hq0.out)) fun x10 w10 hE G10=>?_
   refine mV8 hE ?_ B8 B9 B7 G8 HX B4 HM2 HC;clear B8 B9 B7 G8 HX B4 HM2 HC;intro B8 B9 B7 G8 HX B4 HM2 HC;refine mV3 hE ?_ B6 G9a G9b;clear B6 G9a G9b;intro B6 G9a G9b;have hs_w10:=hE.size;replace b_B4:=bX3 B4;replace b_B6:=bX3 B6;replace b_B7:=bX3 B7;replace b_B8:=bX3 B8;replace b_B9:=bX3 B9
   go_upto_region 12 with fail
   refine bi B4.out rfl ?_;intro y3 T;replace HX:=Hi (T.ext HX.out zo);replace B4:=Hi (T.bx);replace HM2:=Hi (HM2.out.keep T.keep);replace HC:=Hi (HC.out.keep T.keep);replace B6:=Hi (T.rest _ _ zo B6.out);replace G8:=Hi (G8.out.keep T.keep);replace B7:=Hi (T.rest _ _ zo B7.out);replace G9a:=Hi (G9a.out.keep T.keep);replace G9b:=Hi (G9b.out.keep T.keep);replace B8:=Hi (T.rest _ _ zo B8.out);replace B9:=Hi (T.rest _ _ zo B9.out);replace G10:=Hi (G10.out.keep T.keep);have hs_y3:=nle T.size;have hr_y3:=nle T.size.symm;clear T;replace b_B4:=bX3 B4;replace b_B6:=bX3 B6;replace b_B7:=bX3 B7;replace b_B8:=bX3 B8;replace b_B9:=bX3 B9
   go_wp2_with fail
   refine cM (j5 x10 _ _ (G10.out.raw (Zm.out.div ZQ.out.numz) zo)) fun x11 w11 hE G11=>?_
   refine mV8 hE ?_ HX B4 HM2 HC B6 G8 B7 G9a;clear HX B4 HM2 HC B6 G8 B7 G9a;intro HX B4 HM2 HC B6 G8 B7 G9a;refine mV4 hE ?_ G9b B8 B9 G10;clear G9b B8 B9 G10;intro G9b B8 B9 G10;have hs_w11:=hE.size;replace b_B4:=bX3 B4;replace b_B6:=bX3 B6;replace b_B7:=bX3 B7;replace b_B8:=bX3 B8;replace b_B9:=bX3 B9
   go_upto_region 13 with fail
   refine bi B4.out rfl ?_;intro y4 T;replace HX:=Hi (T.ext HX.out zo);replace B4:=Hi (T.bx);replace HM2:=Hi (HM2.out.keep T.keep);replace HC:=Hi (HC.out.keep T.keep);replace B6:=Hi (T.rest _ _ zo B6.out);replace G8:=Hi (G8.out.keep T.keep);replace B7:=Hi (T.rest _ _ zo B7.out);replace G9a:=Hi (G9a.out.keep T.keep);replace G9b:=Hi (G9b.out.keep T.keep);replace B8:=Hi (T.rest _ _ zo B8.out);replace B9:=Hi (T.rest _ _ zo B9.out);replace G10:=Hi (G10.out.keep T.keep);replace G11:=Hi (G11.out.keep T.keep);have hs_y4:=nle T.size;have hr_y4:=nle T.size.symm;clear T;replace b_B4:=bX3 B4;replace b_B6:=bX3 B6;replace b_B7:=bX3 B7;replace b_B8:=bX3 B8;replace b_B9:=bX3 B9;have HMn:Hid (aB y4 x11 (bj (p.take (i+1)))):=Hi (by rw [HMs.out,HV.out];exact G11.out);go_wp2
   go_roundg (gk-1)
   case measure=>omega
   case rel=>exact ⟨i+1,x11,zo,by go_num,HX.out,B4.out,HMn.out⟩
  subst h0;obtain rfl:i=P:=by omega
  have hin:¬ (i:Int)<i:=zo;have HM3:Hid (aB wr ⟨mn,ma,ml,mc,mb,mm,md⟩ (bj p)):=Hi (by
   have:=HM2.out;rw [nXm (by rw [HPl.out];exact nXe _)] at this;exact this)
  clear HM2;have hXr:=HX.out.size;have hb4r:b4<wr.heap.size:=b_B4.2.2
  go_upto_region 15 with (refine aF rfl (.tmp 50) (.tmp 50) 24 rfl 34 i0 (RH.v default) 3 Tryz.underlying24 hi0 hz0 hz1 _ _ i rfl rfl zo zo (by rw [hz2];omega) zo ?_;intro y1 hnew hE)
  have KB:=Hi (RBk.make rfl hnew);clear hnew;refine mV3 hE ?_ HX B4 HM3;clear HX B4 HM3;intro HX B4 HM3;have hs_y1:=hE.size;replace b_B4:=bX3 B4;obtain ⟨L,hL⟩:∃ L,L=wr.heap.size:=⟨_,rfl⟩;have hLw:w.heap.size≤L:=zo;have hL4:b4≠L:=zo;rw [←hL] at KB ⊢;clear hL hs_y1 b_B4;go_wp2
  go_loopg [54] i (fun g v wr=>∃ (j:Nat) (rs:List RH),j+g=i∧v=.int .i64 (j:Nat)∧Ext w wr∧wr.heap[b4]?=some (.cells #[.bool mn,.slice ma ml mc,.slice mb mm md] 34 (0,0))∧aB wr ⟨mn,ma,ml,mc,mb,mm,md⟩ (bj p)∧RBk wr L rs #[]∧rs.length=i∧jV wr rs ((p.take j).map (· / bj p)))
  case atStart=>exact ⟨0,_,zo,rfl,HX.out,B4.out,HM3.out,KB.out,by simp,fun j hj=>by simp at hj⟩
  case round =>
   obtain ⟨j,rs,hj,rfl,g1,g4,g5,g6,g7,g8⟩:=hrel;clear HX B4 HM3 KB;have HX:=Hi g1;have B4:=Hi g4;have HM3:=Hi g5;have KB:=Hi g6;have HRl:=Hi g7;have PC:=Hi g8;clear g1 g4 g5 g6 g7 g8;replace b_B4:=bX3 B4
   try clear f_KB l_KB
   have f_KB:=af KB.out;have l_KB:=(nXb.1 KB.out).1;by_cases h0:gk=0
   case neg =>
    have hin2:(j:Int)<i:=zo;obtain ⟨b,off,r,hao,hbl,⟨hc1,hc2,hc3⟩,hPc⟩:=(LQ.out.ext HX.out).cells' (k:=j) zo;obtain ⟨rneg,ra,rn,rc,rb,rm,rd⟩:=r;simp only at hc1 hc2 hc3;have HC:=Hi hPc;clear hPc;subst hao
    go_upto_region 18 with fail
    clear hc1 hc2 hc3;have hLr:L<wr.heap.size:=l_KB;refine nmA ?_;intro y6 hE B9 hz_y6 hr_y6;refine mV6 hE ?_ HX B4 HM3 KB PC HC;clear HX B4 HM3 KB PC HC;intro HX B4 HM3 KB PC HC;have hs_y6:=hE.size;replace b_B4:=bX3 B4
    try clear f_KB l_KB
    have f_KB:=af KB.out;have l_KB:=(nXb.1 KB.out).1;replace b_B9:=bX3 B9;have Zm:Hid (Sz S (bj p)):=Hi ((ir HFp.out).sz hS hD hl);have Zc:Hid (Sz S (p.getD j 0)):=Hi ((bV hS hD hl HFp.out).at (by rw [HPl.out];omega));have Hm0:Hid (bj p≠0):=Hi (HM0.out fun h=>by have:=HPl.out;rw [h] at this;simp at this;omega)
    go_wp2_with fail
    refine cM (cF ⟨rneg,ra,rn,rc,rb,rm,rd⟩ ⟨mn,ma,ml,mc,mb,mm,md⟩ (p.getD j 0) (bj p) _ HC.out (HM3.out.raw Zm.out zo) Hm0.out) fun x7 w7 hE G7=>?_
    refine mV7 hE ?_ B9 HX B4 HM3 KB PC HC;clear B9 HX B4 HM3 KB PC HC;intro B9 HX B4 HM3 KB PC HC;have hs_w7:=hE.size;replace b_B4:=bX3 B4
    try clear f_KB l_KB
    have f_KB:=af KB.out;have l_KB:=(nXb.1 KB.out).1;replace b_B9:=bX3 B9;obtain ⟨f1,f2,f3⟩:=RBk.at (re:=#[]) KB.out (k:=j) (by rw [HRl.out];omega)
    go_upto_region 19 with fail
    refine jc (k:=j) KB.out rfl (by rw [HRl.out];omega) ?_;intro y8 T;clear f1 f2 f3;replace HX:=Hi (T.ext HX.out zo);replace B4:=Hi (T.rest _ _ zo B4.out);replace HM3:=Hi (HM3.out.keep T.keep);replace PC:=Hi (PC.out.keep T.keep);replace KB:=Hi (T.bx);replace HC:=Hi (HC.out.keep T.keep);replace B9:=Hi (T.rest _ _ zo B9.out);replace G7:=Hi (G7.out.keep T.keep);have hs_y8:=nle T.size;have hr_y8:=nle T.size.symm;clear T;replace b_B4:=bX3 B4
    try clear f_KB l_KB
    have f_KB:=af KB.out;have l_KB:=(nXb.1 KB.out).1;replace b_B9:=bX3 B9;replace PC:=Hi (PC.out.snoc (x:=x7) (i:=j) (by rw [nXl,nXk,HPl.out];omega) (by rw [HRl.out];omega) G7.out);have HRp:Hid ((p.take j).map (· / bj p)++[p.getD j 0 / bj p]=(p.take (j+1)).map (· / bj p)):=Hi (by rw [gC (by rw [HPl.out];omega),List.map_append];rfl);rw [HRp.out] at PC;go_wp2
    go_roundg (gk-1)
    case measure=>omega
    case rel=>exact ⟨j+1,_,zo,by go_num,HX.out,B4.out,HM3.out,KB.out,by rw [nXo];exact HRl.out,PC.out⟩
   subst h0;obtain rfl:j=i:=by omega
   have hin:¬ (j:Int)<j:=zo;have HO:Hid (bs wr L (ar l)):=Hi (by
    have:=PC.out;rw [nXm (by rw [HPl.out];exact nXe _),←HSL.out] at this;exact this.row KB.out HRl.out (by rw [HSL.out,nXl,HPl.out]))
   go_wp2
   go_ret
   exact ⟨⟨some ⟨L,0,none⟩,j,j⟩,rfl,HX.out,L,hLw,by rw [HSL.out,nXl,HPl.out],HO.out⟩
theorem iS(ao:Option Addr)(n cap:Nat)(l:List Rat)(S D:Nat)(w:World)(h:bw w ⟨ao,n,cap⟩ l)(hn:n≤1000000)(hS:1≤S)(hS2:S≤30000000)(hD:0<D)(hl:D<W32 ^ S)(hf:∀ x ∈ l,Fr S D x) :
  au 77 [.slice ao n cap] w SH.v (fun x w'=>dF w.heap.size w' x (ar l)):=nF ao n cap l S D w (h.raw (bV hS hD hl hf) zo) hn hS hS2 hD hl hf
end Go.Proofs.YtafgmcimcbhhjaaGreat
