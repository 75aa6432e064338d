import Derived.Test.YtafgmcimcbhhjaaGreatQCK8
set_option linter.unusedVariables false
set_option maxHeartbeats 8000000
set_option maxRecDepth 8000
namespace Go.Proofs.YtafgmcimcbhhjaaGreat
open Go.RowKit Go.Front Go.Num Stab
attribute [local go_sem] XW.cell XW.frozen
theorem FrB.one1{S:Nat}{l:List Rat}(h:FrB S l)(i:Nat):FrB S [l.getD i 0]:=by
 obtain ⟨h0,D,h1,h2,h3⟩:=h;exact ⟨h0,D,h1,h2,fun x hx=>by rw [nXv.1 hx];exact h3.at i⟩
theorem j8{p q:List Rat}(hq:q.length≤2):∀ j,(oU p q j).length≤j+1:=by
 intro j;induction j with
 | zero=>exact Nat.zero_le _
 | succ j ih=>exact cO (nXf (bg ih hq) zo) (by show 1≤_;omega)
theorem oT{S:Nat}{p q:List Rat}(hp:FrB S p)(hq:FrB S q)(hl:q.length≤2):∀ j,j≤1000→FrB (1+j*(2*S+2)) (oU p q j):=by
 intro j;induction j with
 | zero=>intro _;rw [Nat.zero_mul];exact FrB.nil
 | succ j ih =>
  intro hj;have h:=((ih zo).mul hq (by have:=j8 (p:=p) hl j;omega)).add (hp.one1 (p.length-1-j));exact h.mono (by rw [show (j+1)*(2*S+2)=j*(2*S+2)+(2*S+2) from nXz _ _];omega)
theorem pR(s t:SH)(p q:List Rat)(D S:Nat)(w:World)(h:aD w s p)(k:aD w t q)(hp:p.length=D+1)(tp:tz p=p)(hq:q.length=2)(tq:tz q=q)(hD:1≤D)(hD2:D≤8)(fp:FrB S p)(fq:FrB S q)(hS:S≤1000) :
  ak 198 [s.v,t.v] w RF (fun x w'=>x.2=0∧aD w' x.1 (oU p q (D+1))):=by
 obtain ⟨pa,pn,pc⟩:=s;obtain ⟨qa,qn,qc⟩:=t;have L1:=Hi h;have L2:=Hi k;have HX:=Hi (Ext.refl w);have hpn:=h.len;have hqn:=k.len;simp only at hpn hqn;rw [hp] at hpn;rw [hq] at hqn;subst hpn hqn;have hp1:=h.le;have hp2:=h.max;simp only at hp1 hp2;have FP:=Hi fp;have FQ:=Hi fq;have HP:=Hi hp;have HQ:=Hi hq;have HDp:Hid (((tz p).length:Int)-1=D):=Hi (by rw [tp,hp];omega);have HDq:Hid (((tz q).length:Int)-1=1):=Hi (by rw [tq,hq];rfl);have hd1:¬ (192:Int)<D:=zo;clear h k hp hq tp tq fp fq;unfold ak;simp only [SH.v];go_enter Tryz.func198,Tryz.ntmps198
 go_wp2_with fail
 refine cM (dr pa (D+1) pc p _ (L1.out.raw FP.out.sz zo)) fun x2 w2 hE _=>?_
 refine mV3 hE ?_ L1 L2 HX;clear L1 L2 HX;intro L1 L2 HX;rw [HDp.out]
 go_wp2_with fail
 refine cM (dr qa 2 qc q _ (L2.out.raw FQ.out.sz zo)) fun x3 w3 hE _=>?_
 refine mV3 hE ?_ L1 L2 HX;clear L1 L2 HX;intro L1 L2 HX;rw [HDq.out];clear HDp HDq;go_wp2
 go_loopg [8,36] (D+1) (fun g r i wr=>∃ (j:Nat) (s:SH),j+g=D+1∧r=s.v∧i=.int .i64 (j:Nat)∧Ext w wr∧aD wr ⟨pa,D+1,pc⟩ p∧aD wr ⟨qa,2,qc⟩ q∧aD wr s (oU p q j))
 case atStart=>exact ⟨0,⟨none,0,0⟩,zo,rfl,rfl,HX.out,L1.out,L2.out,(bU.nil 0 _).can⟩
 case round =>
  obtain ⟨j,⟨sa,sn,sc⟩,hj,rfl,rfl,g1,g2,g3,g4⟩:=hrel;clear HX L1 L2;have HX:=Hi g1;have L1:=Hi g2;have L2:=Hi g3;have LO:=Hi g4;have hsn:=g4.len;have hsl:=j8 (p:=p) (nle HQ.out) j;simp only at hsn;have hsn2:sn≤11:=zo;clear g1 g2 g3 g4 hsn hsl;simp only [SH.v];by_cases h0:gk=0
  case pos =>
   subst h0;obtain rfl:j=D+1:=by omega
   go_wp2;exact nXa (v:=RF (⟨sa,sn,sc⟩,0)) (by simp [results,Tryz.results198,go_sem,RF]) rfl ⟨(⟨sa,sn,sc⟩,0),rfl,HX.out,rfl,LO.out⟩
  obtain ⟨i,hi⟩:∃ i,i+j=D:=⟨D-j,zo⟩;have hii:(D:Int)-j=i:=by omega
  have hjd:(j:Int)<D+1:=zo;have hiD:i<D+1:=zo;have FH:Hid (FrB 60000 (oU p q j)):=Hi ((oT FP.out FQ.out (nle HQ.out) j zo).mono (by have:=nXy (show j≤8 by omega) (show 2*S+2≤2002 by omega);omega));have Z3:Hid (SzL 62000 (aq (oU p q j) q)):=Hi ((FH.out.mul FQ.out (by have:=j8 (p:=p) (nle HQ.out) j;omega)).mono zo).sz;have Z4:Hid ((aq (oU p q j) q).length≤1000):=Hi (nXf (bg (j8 (p:=p) (nle HQ.out) j) (nle HQ.out)) zo);have Hh:Hid (oU p q (j+1)=bA (aq (oU p q j) q) [p.getD i 0]):=Hi (by show bA _ [p.getD (p.length-1-j) 0]=_;rw [HP.out,show D+1-1-j=i by omega]);have ZP:Hid (Sz S (p.getD i 0)):=Hi (FP.out.sz.getD FP.out.1 i);obtain ⟨b,off,r,hao,hat,hP⟩:=L1.out.at (k:=i) zo;have hbl:=RAt.lt hat;obtain ⟨hc1,hc2,hc3⟩:=hat;obtain ⟨rneg,ra,rn,rc,rb,rm,rd⟩:=r;simp only at hc1 hc2 hc3 hao;subst hao;have RP:=Hi hP;clear hP h0 hi
  go_upto_region 8 with fail
  refine wpG 11 (fun opIx=>match opIx with
   | 2=>.spec (SH) (default) (SH.v) (fun s w'=>aD w' s (aq (oU p q j) q))
   | 9=>.spec (Nat×RH) ((0,default)) (fun p=>.slice (some ⟨p.1,0,none⟩) 1 1) (fun p' w'=>iJ w' p' (p.getD i 0))
   | 10=>.spec (SH) (default) (SH.v) (fun s w'=>aD w' s (oU p q (j+1)))
   | _=>.quiet) (fun|10=>[2,9]|_=>[]) fun w0 he0 hz0 hc0 hf0=>?_
  refine wps he0 (fun w1 hW hG=>?_) fun x2=>?_
  ·exact spc [.slice sa sn sc,.slice qa 2 qc] Tryz.func100 ((eW sa qa sn sc 2 qc _ _ 60000 S _ ((LO.out.ext hW).raw FH.out.sz dZ) ((L2.out.ext hW).raw FQ.out.sz zo) zo dZ FH.out FQ.out zo).weak (fun x w' _ h=>h.can))
  refine qZ ?_;refine wps he0 (fun w1 hW hG=>?_) fun x9=>?_
  ·exact nq ⟨rneg,ra,rn,rc,rb,rm,rd⟩ _ (RP.out.ext hW) rfl (by simp [execOp,go_sem])
  refine qZ ?_;refine wps he0 (fun w1 hW hG=>?_) fun x10=>?_
  ·have g2:=gS (hG 2 dZ);have g9:=gS (hG 9 dZ);exact spc [x2.v,.slice (some ⟨x9.1,0,none⟩) 1 1] Tryz.func119 ((eK x2.a (some ⟨x9.1,0,none⟩) x2.n x2.c 1 1 _ _ _ (g2.raw Z3.out dZ) (g9.can.raw (SzL.one' ZP.out) zo) (by have h1:=g2.len;have h2:=Z4.out;rw [h1] at h2;omega) dZ (Z3.out.mono dZ) ((SzL.one' ZP.out).mono zo)).weak (fun x w' _ h=>by rw [Hh.out];exact h.can))
  refine qZ ?_;refine aj ?_;intro w8 hI;have hE:=he0.out.trans hI.ext;have G10:=gT (hI.facts 10);clear hI he0 hz0 hc0 hf0;refine mV3 hE ?_ HX L1 L2;clear HX L1 L2;intro HX L1 L2;simp only [pD];obtain ⟨xa,xn,xc⟩:=x10;have GN:=Hi G10.out;clear G10;simp only [SH.v];go_wp2
  go_roundg (gk-1)
  case measure=>omega
  case rel=>exact ⟨j+1,⟨xa,xn,xc⟩,zo,rfl,by go_num,HX.out,L1.out,L2.out,GN.out⟩
def dP(n:Int)(e r:Rat):Int:=if n<1∨8<n then 12 else if dq e ((-1:Int):Rat)≤0∨0≤dq e ((1:Int):Rat) then 1 else if dq r 0≤0 then 1 else 0
theorem f7(n:Int)(s t:RH)(e r:Rat)(w:World)(hs:aQ w s e)(ht:aQ w t r) :
  ak 114 [.int .i64 n,s.v,t.v] w (fun _:Unit=>.int .i64 (dP n e r)) (fun _ _=>True):=by
 obtain ⟨sn,sa,sl,sc,sb,sm,sd⟩:=s;obtain ⟨tn,ta,tl,tc,tb,tm,td⟩:=t;have HX:=Hi (Ext.refl w);have HS:=Hi hs;have HT:=Hi ht;have Zm:Hid (Sz 1 ((-1:Int):Rat)):=Hi (Sz.int dZ);have Z1:Hid (Sz 1 ((1:Int):Rat)):=Hi (Sz.int dZ);clear hs ht;obtain ⟨c1,k1⟩:∃ c,c=dq e ((-1:Int):Rat):=⟨_,rfl⟩;obtain ⟨c2,k2⟩:∃ c,c=dq e ((1:Int):Rat):=⟨_,rfl⟩;obtain ⟨c3,k3⟩:∃ c,c=dq r 0:=⟨_,rfl⟩;have HV:Hid (dP n e r=if n<1∨8<n then 12 else if c1≤0∨0≤c2 then 1 else if c3≤0 then 1 else 0):=Hi (by rw [k1,k2,k3];rfl);have K1:=Hi k1;have K2:=Hi k2;have K3:=Hi k3;clear k1 k2 k3;unfold ak;go_enter Tryz.func114,Tryz.ntmps114
 go_upto_region 1 with fail
 refine kQ ?_;intro w1 hE B4 B5 hz_w1 hr_w1;refine mV3 hE ?_ HX HS HT;clear HX HS HT;intro HX HS HT;replace b_B4:=bX3 B4;by_cases h1:n<1
 ·go_wp2
  go_ret
  exact ⟨(),by rw [HV.out,if_pos (Or.inl h1)];rfl,HX.out,trivial⟩
 by_cases h2:8<n
 ·go_wp2
  go_ret
  exact ⟨(),by rw [HV.out,if_pos (Or.inr h2)];rfl,HX.out,trivial⟩
 have HV2:Hid (dP n e r=if c1≤0∨0≤c2 then 1 else if c3≤0 then 1 else 0):=Hi (by rw [HV.out,if_neg (fun h=>h.elim h1 h2)]);clear HV
 go_upto_region 3 with fail
 by_cases h3:c1≤0
 case pos =>
  have d3:decide (c1≤0)=true:=decide_eq_true h3;refine ag 9 (fun opIx=>match opIx with
   | 1=>sR (((-1:Int):Rat))
   | 2=>sU (.int .i64 c1)
   | _=>.quiet) (fun|2=>[1]|_=>[]) kZ kZ (fun w0 he0 hz0 hc0 hf0=>?_)
  replace he0:=Hi he0;simp only [pT]
  repeat (first|(refine wpq fun K h=>?_;go_big_quiet_op;refine h _ ?_;clear h K;(try simp only [d3]))|(refine cZ rfl ?_;simp only [pS]))
  refine wps he0 (fun w1 hW hG=>?_) fun x20=>?_
  ·exact spc [.int .i64 (-1)] Tryz.func84 (aL (-1) _ dZ dZ)
  simp only [pS]
  repeat (first|(refine wpq fun K h=>?_;go_big_quiet_op;refine h _ ?_;clear h K;(try simp only [d3]))|(refine cZ rfl ?_;simp only [pS]))
  refine wps he0 (fun w1 hW hG=>?_) fun x21=>?_
  ·have g20:=gS (hG 1 dZ);exact spc [RH.v ⟨sn,sa,sl,sc,sb,sm,sd⟩,x20.v] Tryz.func80 ((by rw [K1.out];exact eh _ x20 _ _ _ (HS.out.ext hW) (g20.raw Zm.out dZ)))
  simp only [pS]
  repeat (first|(refine wpq fun K h=>?_;go_big_quiet_op;refine h _ ?_;clear h K;(try simp only [d3]))|(refine cZ rfl ?_;simp only [pS]))
  refine aj ?_;intro w2 hI;have hE:=he0.out.trans hI.ext;clear hI he0 hz0 hc0 hf0;replace HX:=hE.tr HX;simp only [pD];go_wp2
  go_ret
  exact ⟨(),by rw [HV2.out,if_pos (Or.inl h3)];rfl,HX.out,trivial⟩
 have d3:decide (c1≤0)=false:=decide_eq_false h3;by_cases h4:0≤c2
 case pos =>
  have d4:decide (0≤c2)=true:=decide_eq_true h4;refine ag 9 (fun opIx=>match opIx with
   | 1=>sR (((-1:Int):Rat))
   | 2=>sU (.int .i64 c1)
   | 6=>sR (((1:Int):Rat))
   | 7=>sU (.int .i64 c2)
   | _=>.quiet) (fun|2=>[1]|7=>[6]|_=>[]) kZ kZ (fun w0 he0 hz0 hc0 hf0=>?_)
  replace he0:=Hi he0;simp only [pT]
  repeat (refine wpq fun K h=>?_;go_big_quiet_op;refine h _ ?_;clear h K;(try simp only [d3,d4]))
  refine wps he0 (fun w1 hW hG=>?_) fun x20=>?_
  ·exact spc [.int .i64 (-1)] Tryz.func84 (aL (-1) _ dZ dZ)
  simp only [pS]
  repeat (refine wpq fun K h=>?_;go_big_quiet_op;refine h _ ?_;clear h K;(try simp only [d3,d4]))
  refine wps he0 (fun w1 hW hG=>?_) fun x21=>?_
  ·have g20:=gS (hG 1 dZ);exact spc [RH.v ⟨sn,sa,sl,sc,sb,sm,sd⟩,x20.v] Tryz.func80 ((by rw [K1.out];exact eh _ x20 _ _ _ (HS.out.ext hW) (g20.raw Zm.out dZ)))
  simp only [pS]
  repeat (refine wpq fun K h=>?_;go_big_quiet_op;refine h _ ?_;clear h K;(try simp only [d3,d4]))
  refine wps he0 (fun w1 hW hG=>?_) fun x22=>?_
  ·exact spc [.int .i64 1] Tryz.func84 (aL 1 _ dZ dZ)
  simp only [pS]
  repeat (refine wpq fun K h=>?_;go_big_quiet_op;refine h _ ?_;clear h K;(try simp only [d3,d4]))
  refine wps he0 (fun w1 hW hG=>?_) fun x23=>?_
  ·have g22:=gS (hG 6 dZ);exact spc [RH.v ⟨sn,sa,sl,sc,sb,sm,sd⟩,x22.v] Tryz.func80 ((by rw [K2.out];exact eh _ x22 _ _ _ (HS.out.ext hW) (g22.raw Z1.out dZ)))
  simp only [pS]
  repeat (refine wpq fun K h=>?_;go_big_quiet_op;refine h _ ?_;clear h K;(try simp only [d3,d4]))
  refine aj ?_;intro w2 hI;have hE:=he0.out.trans hI.ext;clear hI he0 hz0 hc0 hf0;replace HX:=hE.tr HX;simp only [pD];go_wp2
  go_ret
  exact ⟨(),by rw [HV2.out,if_pos (Or.inr h4)];rfl,HX.out,trivial⟩
 have d4:decide (0≤c2)=false:=decide_eq_false h4;have HV3:Hid (dP n e r=if c3≤0 then 1 else 0):=Hi (by rw [HV2.out,if_neg (fun h=>h.elim h3 h4)]);clear HV2;refine ag 9 (fun opIx=>match opIx with
  | 1=>sR (((-1:Int):Rat))
  | 2=>sU (.int .i64 c1)
  | 6=>sR (((1:Int):Rat))
  | 7=>sU (.int .i64 c2)
  | _=>.quiet) (fun|2=>[1]|7=>[6]|_=>[]) kZ kZ (fun w0 he0 hz0 hc0 hf0=>?_)
 replace he0:=Hi he0;simp only [pT]
 repeat (refine wpq fun K h=>?_;go_big_quiet_op;refine h _ ?_;clear h K;(try simp only [d3,d4]))
 refine wps he0 (fun w1 hW hG=>?_) fun x20=>?_
 ·exact spc [.int .i64 (-1)] Tryz.func84 (aL (-1) _ dZ dZ)
 simp only [pS]
 repeat (refine wpq fun K h=>?_;go_big_quiet_op;refine h _ ?_;clear h K;(try simp only [d3,d4]))
 refine wps he0 (fun w1 hW hG=>?_) fun x21=>?_
 ·have g20:=gS (hG 1 dZ);exact spc [RH.v ⟨sn,sa,sl,sc,sb,sm,sd⟩,x20.v] Tryz.func80 ((by rw [K1.out];exact eh _ x20 _ _ _ (HS.out.ext hW) (g20.raw Zm.out dZ)))
 simp only [pS]
 repeat (refine wpq fun K h=>?_;go_big_quiet_op;refine h _ ?_;clear h K;(try simp only [d3,d4]))
 refine wps he0 (fun w1 hW hG=>?_) fun x22=>?_
 ·exact spc [.int .i64 1] Tryz.func84 (aL 1 _ dZ dZ)
 simp only [pS]
 repeat (refine wpq fun K h=>?_;go_big_quiet_op;refine h _ ?_;clear h K;(try simp only [d3,d4]))
 refine wps he0 (fun w1 hW hG=>?_) fun x23=>?_
 ·have g22:=gS (hG 6 dZ);exact spc [RH.v ⟨sn,sa,sl,sc,sb,sm,sd⟩,x22.v] Tryz.func80 ((by rw [K2.out];exact eh _ x22 _ _ _ (HS.out.ext hW) (g22.raw Z1.out dZ)))
 simp only [pS]
 repeat (refine wpq fun K h=>?_;go_big_quiet_op;refine h _ ?_;clear h K;(try simp only [d3,d4]))
 refine aj ?_;intro w2 hI;have hE:=he0.out.trans hI.ext;clear hI he0 hz0 hc0 hf0;refine mV3 hE ?_ B5 HT HX;clear B5 HT HX;intro B5 HT HX;replace b_B5:=bX3 B5;simp only [pD]
 go_wp2_with fail
 refine cM (cW ⟨tn,ta,tl,tc,tb,tm,td⟩ r _ HT.out) fun x5 w5 hE _=>?_
 replace HX:=hE.tr HX;rw [←K3.out];by_cases h5:c3≤0
 ·go_wp2
  go_ret
  exact ⟨(),by rw [HV3.out,if_pos h5];rfl,HX.out,trivial⟩
 go_wp2
 go_ret
 exact ⟨(),by rw [HV3.out,if_neg (show ¬ c3≤0 by omega)];rfl,HX.out,trivial⟩
theorem kA(t:RH)(c:Rat)(K N:Nat)(w:World)(h:aQ w t c)(hz:Sz K c)(hK:1≤K)(hK2:K≤1048576)(hN:N≤64) :
  ak 159 [t.v,.int .i64 (N:Nat)] w RH.v (fun x w'=>aB w' x (c ^ N)):=by
 obtain ⟨tn,ta,tl,tc,tb,tm,td⟩:=t;have HX:=Hi (Ext.refl w);have HT:=Hi h;have HZ:=Hi hz;clear h hz;unfold ak;go_enter Tryz.func159,Tryz.ntmps159
 go_upto_region 1 with fail
 refine kQ ?_;intro w1 hE B2 B4 hz_w1 hr_w1;refine mV2 hE ?_ HX HT;clear HX HT;intro HX HT;replace b_B2:=bX3 B2
 go_wp2_with fail
 refine cM (zD ⟨tn,ta,tl,tc,tb,tm,td⟩ c K N _ HT.out HZ.out hK hK2 hN) fun x2 w2 hE G2=>?_
 refine mV2 hE ?_ B4 HX;clear B4 HX;intro B4 HX;simp only [DV]
 go_upto_region 2 with fail
 refine nmA ?_;intro w3 hE B5 hz_w3 hr_w3;refine mV3 hE ?_ G2 B4 HX;clear G2 B4 HX;intro G2 B4 HX;replace b_B4:=bX3 B4;replace b_B5:=bX3 B5;go_wp2;have hF:=((((Fin.start (L:=w.heap.size+1) HX.out (ai B4.out rfl)).set zo (i:=0) (v:=.bool x2.neg) rfl).set zo (i:=1) (v:=.slice x2.a x2.n x2.c) rfl).set zo (i:=2) (v:=.slice x2.b x2.m x2.d) rfl);exact nXa (v:=x2.v) (by simp [results,Tryz.results159,go_sem,ab B4.out]) rfl ⟨x2,rfl,hF.ext,G2.out.keep hF.keep⟩
theorem Cd{e:Rat}{K:Nat}(h:Sz K e)(hK:1≤K):Sz (2*K+6) ((((1:Int):Rat)+e) / (((1:Int):Rat)-e)):=by
 have Z1:Sz 1 ((1:Int):Rat):=Sz.int dZ;exact ((Z1.add h).div (Z1.sub h)).mono zo
theorem iu(t:RH)(e:Rat)(K:Nat)(w:World)(h:aQ w t e)(hz:Sz K e)(hK:1≤K)(hK2:K≤1048576)(h1:((1:Int):Rat)-e≠0) :
  ak 115 [t.v] w RH.v (fun x w'=>aB w' x ((((1:Int):Rat)+e) / (((1:Int):Rat)-e))):=by
 obtain ⟨tn,ta,tl,tc,tb,tm,td⟩:=t;have HX:=Hi (Ext.refl w);have HT:=Hi h;have HZ:=Hi hz;have HN:=Hi h1;have Z1:Hid (Sz 1 ((1:Int):Rat)):=Hi (Sz.int dZ);clear h hz h1;unfold ak;go_enter Tryz.func115,Tryz.ntmps115
 go_upto_region 1 with fail
 refine kQ ?_;intro w1 hE B1 B2 hz_w1 hr_w1;refine mV2 hE ?_ HX HT;clear HX HT;intro HX HT;replace b_B1:=bX3 B1;refine aR [(11,9)] _ (by simp only [iI,lH,List.push_toArray,List.cons_append,List.nil_append];exact rfl) (by intro c a d v w h;cases d <;> exact h) 11 (fun opIx=>match opIx with
  | 0=>sR (((1:Int):Rat))
  | 2=>sR (((1:Int):Rat)+e)
  | 3=>sR (((1:Int):Rat))
  | 5=>sR (((1:Int):Rat)-e)
  | 6=>.spec (RH) (default) (fun s=>.tuple #[s.v,.int .i64 0]) (fun x w'=>aB w' x ((((1:Int):Rat)+e) / (((1:Int):Rat)-e)))
  | 10=>.alloc 34 #[.bool false,.slice none 0 0,.slice none 0 0]
  | _=>.quiet) (fun|2=>[0]|5=>[3]|6=>[2,5]|_=>[]) kZ kZ kZ (fun w0 he0 hz0 hc0 hf0=>?_)
 replace he0:=Hi he0;simp only [pT];refine qQ ?_;refine wps he0 (fun w1 hW hG=>?_) fun x20=>?_
 ·exact spc [.int .i64 1] Tryz.func84 (aL 1 _ dZ dZ)
 refine qZ ?_;refine wps he0 (fun w1 hW hG=>?_) fun x21=>?_
 ·have g20:=gS (hG 0 dZ);exact spc [x20.v,RH.v ⟨tn,ta,tl,tc,tb,tm,td⟩] Tryz.func118 (df x20 _ _ _ _ (g20.raw Z1.out dZ) (HT.out.ext hW))
 refine qZ ?_;refine wps he0 (fun w1 hW hG=>?_) fun x22=>?_
 ·exact spc [.int .i64 1] Tryz.func84 (aL 1 _ dZ dZ)
 refine qZ ?_;refine wps he0 (fun w1 hW hG=>?_) fun x23=>?_
 ·have g22:=gS (hG 3 dZ);exact spc [x22.v,RH.v ⟨tn,ta,tl,tc,tb,tm,td⟩] Tryz.func120 (dG x22 _ _ _ _ (g22.raw Z1.out dZ) (HT.out.ext hW))
 refine qZ ?_;refine wps he0 (fun w1 hW hG=>?_) fun x24=>?_
 ·have g21:=gS (hG 2 dZ);have g23:=gS (hG 5 dZ);exact spc [x21.v,x23.v] Tryz.func121 (cf x21 x23 _ _ _ (g21.raw (Z1.out.add HZ.out) zo) (g23.raw (Z1.out.sub HZ.out) zo) HN.out)
 refine qZ ?_;refine aM rfl rfl (fun w=>by simp [execOp,go_sem,ptr]) (fun b25 hb25 hl25=>?_);refine qZ ?_;refine aj ?_;intro w2 hI;have hE:=he0.out.trans hI.ext;have G24:=gT (hI.facts 6);have A25:Hid (w2.heap[b25]?=some (.cells #[.bool false,.slice none 0 0,.slice none 0 0] 34 (0,0))):=hI.facts 10;rw [hz0] at hl25;clear hI he0 hz0 hc0 hf0;refine mV2 hE ?_ B2 HX;clear B2 HX;intro B2 HX;replace b_A25:=bX3 A25;simp only [pD,ptr]
 go_upto_region 2 with fail
 refine aU A25.out rfl ?_;intro w3 T;replace HX:=Hi (T.ext HX.out zo);replace B2:=Hi (T.rest _ _ zo B2.out);replace A25:=Hi (T.bx);replace G24:=Hi (G24.out.keep T.keep);clear T;replace b_B2:=bX3 B2;replace b_A25:=bX3 A25;go_wp2;have hF:=((((Fin.start (L:=w.heap.size+1) HX.out (ai B2.out rfl)).set zo (i:=0) (v:=.bool x24.neg) rfl).set zo (i:=1) (v:=.slice x24.a x24.n x24.c) rfl).set zo (i:=2) (v:=.slice x24.b x24.m x24.d) rfl);exact nXa (v:=x24.v) (by simp [results,Tryz.results115,go_sem,ab B2.out]) rfl ⟨x24,rfl,hF.ext,G24.out.keep hF.keep⟩
theorem oA(w:World):ak 160 [] w SH.v (fun x w'=>bU w.heap.size w' x [((1:Int):Rat)]):=by
 have HX:=Hi (Ext.refl w);unfold ak;go_enter Tryz.func160,Tryz.ntmps160
 go_wp2_with fail
 refine cM (aL 1 _ dZ dZ) fun x2 w2 hE G2=>?_
 replace HX:=hE.tr HX;have hs_w2:=hE.size
 go_wp2_with fail
 refine nmA ?_;intro w3 hE B3 hz_w3 hr_w3;refine mV2 hE ?_ G2 HX;clear G2 HX;intro G2 HX;replace b_B3:=bX3 B3;have L:=Hi ((qI B3.out G2.out).new (B:=w.heap.size) zo b_B3.2.2)
 go_ret
 exact ⟨⟨some ⟨w2.heap.size,0,none⟩,1,1⟩,rfl,HX.out,L.out⟩
theorem zL(w:World):ak 160 [] w SH.v (fun x w'=>aD w' x [((1:Int):Rat)]):=(oA w).weak (fun _ _ _ h=>h.can)
theorem fP(z:Int)(hz:z.natAbs<W32):FrB 1 [((1:Int):Rat),((z:Int):Rat)]:=⟨nXe _,1,dZ,dZ,fun x hx=>by
 rcases List.mem_cons.1 hx with rfl|hx
 ·exact Fr.one (Wz.int dZ)
 ·rw [nXv.1 hx];exact Fr.one (Wz.int (by rw [Nat.pow_one];exact hz))⟩
theorem dH(n:Nat)(w:World)(hn:n≤48):ak 101 [.int .i64 (n:Nat)] w SH.v (fun x w'=>aD w' x (bF [((1:Int):Rat),((1:Int):Rat)] n)):=by
 have HX:=Hi (Ext.refl w);unfold ak;go_enter Tryz.func101,Tryz.ntmps101
 go_wp2_with fail
 refine cM (aL 1 _ dZ dZ) fun x2 w2 hE G2=>?_
 replace HX:=hE.tr HX
 go_wp2_with fail
 refine cM (aL 1 _ dZ dZ) fun x3 w3 hE G3=>?_
 refine mV2 hE ?_ G2 HX;clear G2 HX;intro G2 HX
 go_wp2_with fail
 refine nmA (F:=fun W=>Calls _ _ _ W _) ?_;intro w4 hE B4 hz_w4 hr_w4;refine mV3 hE ?_ G3 G2 HX;clear G3 G2 HX;intro G3 G2 HX
 change Calls _ _ _ _ _
 have L:=Hi (tT B4.out G2.out G3.out)
 (try clear c_B4 f_B4 l_B4);(try clear B4)
 clear G2;clear G3;refine cM (sY ⟨some ⟨w3.heap.size,0,none⟩,2,2⟩ _ n 1 _ L.out hn dZ (fP 1 dZ) dZ) fun x5 w5 hE G5=>?_
 replace HX:=hE.tr HX;obtain ⟨⟨xa,xn,xc⟩,e5⟩:=x5;obtain ⟨he,hl⟩:=G5.out;simp only at he hl;subst he;have HL:=Hi hl;clear hl G5;simp only [RF,SH.v];go_wp2
 go_ret
 exact ⟨⟨xa,xn,xc⟩,rfl,HX.out,HL.out⟩
theorem dB(n:Nat)(w:World)(hn:n≤48):ak 117 [.int .i64 (n:Nat)] w SH.v (fun x w'=>aD w' x (bF [((1:Int):Rat),((-1:Int):Rat)] n)):=by
 have HX:=Hi (Ext.refl w);unfold ak;go_enter Tryz.func117,Tryz.ntmps117
 go_wp2_with fail
 refine cM (aL 1 _ dZ dZ) fun x2 w2 hE G2=>?_
 replace HX:=hE.tr HX
 go_wp2_with fail
 refine cM (aL (-1) _ dZ dZ) fun x3 w3 hE G3=>?_
 refine mV2 hE ?_ G2 HX;clear G2 HX;intro G2 HX
 go_wp2_with fail
 refine nmA (F:=fun W=>Calls _ _ _ W _) ?_;intro w4 hE B4 hz_w4 hr_w4;refine mV3 hE ?_ G3 G2 HX;clear G3 G2 HX;intro G3 G2 HX
 change Calls _ _ _ _ _
 have L:=Hi (tT B4.out G2.out G3.out)
 (try clear c_B4 f_B4 l_B4);(try clear B4)
 clear G2;clear G3;refine cM (sY ⟨some ⟨w3.heap.size,0,none⟩,2,2⟩ _ n 1 _ L.out hn dZ (fP (-1) dZ) dZ) fun x5 w5 hE G5=>?_
 replace HX:=hE.tr HX;obtain ⟨⟨xa,xn,xc⟩,e5⟩:=x5;obtain ⟨he,hl⟩:=G5.out;simp only at he hl;subst he;have HL:=Hi hl;clear hl G5;simp only [RF,SH.v];go_wp2
 go_ret
 exact ⟨⟨xa,xn,xc⟩,rfl,HX.out,HL.out⟩
theorem Di(a b:Int):(a:Rat) / (b:Rat)=mkRat (sg (decide (a<0) != decide (b<0)) a.natAbs) b.natAbs:=by
 by_cases h:b<0
 ·have h1:sg (decide (a<0) != decide (b<0)) a.natAbs=-a:=by
   rw [decide_eq_true h];unfold sg;by_cases ha:a<0
   ·rw [decide_eq_true ha];simp;omega
   ·rw [decide_eq_false ha];simp;omega
  have h2:((b.natAbs:Nat):Int)=-b:=by omega
  rw [h1,Rat.mkRat_eq_div];rw [show ((b.natAbs:Nat):Rat)=(((b.natAbs:Nat):Int):Rat) from rfl,h2,Rat.intCast_neg,Rat.intCast_neg,Rat.div_def,Rat.div_def];grind
 ·have h1:sg (decide (a<0) != decide (b<0)) a.natAbs=a:=by
   rw [decide_eq_false h];unfold sg;by_cases ha:a<0
   ·rw [decide_eq_true ha];simp;omega
   ·rw [decide_eq_false ha];simp;omega
  have h2:((b.natAbs:Nat):Int)=b:=by omega
  rw [h1,Rat.mkRat_eq_div];rw [show ((b.natAbs:Nat):Rat)=(((b.natAbs:Nat):Int):Rat) from rfl,h2]
theorem vM(n d:Int)(w:World)(h1:-9223372036854775808≤n)(h2:n≤9223372036854775807)(k1:-9223372036854775808≤d)(k2:d≤9223372036854775807)(hd:d≠0):ak 86 [.int .i64 n,.int .i64 d] w RH.v (fun r w'=>aB w' r ((n:Rat) / (d:Rat))):=by
 have hdb:(d == 0)=false:=by simpa using hd
 have HQ:=Hi (Di n d);have HD:Hid (d.natAbs≠0):=Hi zo;have HN1:Hid (n.natAbs<W32 ^ 2):=Hi (by unfold W32;omega);have HD1:Hid (d.natAbs<W32 ^ 2):=Hi (by unfold W32;omega);unfold ak;go_enter Tryz.func86,Tryz.ntmps86
 go_wp2_with fail
 refine cM (rM n _ h1 h2) fun x1 w1 hE G1=>?_
 obtain ⟨hcw,hfw⟩:=ar hE;have hsw:=hE.size
 (try simp only [nXc] at hsw)
 have hs0:w.heap.size<w1.heap.size:=zo;have hB:=hE.block (heap_alloc_new _ _);have HB:Hid (w1.heap[w.heap.size]?=some _):=Hi hB;clear hB;have E1:=Hi ((Ext.al1).trans hE)
 go_wp2_with fail
 refine cM (rM d _ k1 k2) fun x2 w2 hE G2=>?_
 obtain ⟨hcw,hfw⟩:=ar hE;have hsw:=hE.size
 (try simp only [nXc] at hsw)
 have hs0:w.heap.size<w2.heap.size:=zo;replace HB:=hE.bl HB;have E2:=Hi ((E1.out).trans hE);have X2:=Hi hE
 go_wp2_with fail
 refine cM (kP x1 x2 _) fun x3 w3 hE _=>?_
 obtain ⟨hcw,hfw⟩:=ar hE;have hsw:=hE.size
 (try simp only [nXc] at hsw)
 have hs0:w.heap.size<w3.heap.size:=zo;replace HB:=hE.bl HB;have E3:=Hi ((E2.out).trans hE);have X3:=Hi hE;have RP:Hid (yN w3 ⟨x1.neg != x2.neg,x1.a,x1.n,x1.c,x2.a,x2.n,x2.c⟩ ((n:Rat) / (d:Rat))):=Hi (by
  have a1:=(G1.out.ext X2.out).ext X3.out;have a2:=G2.out.ext X3.out;refine ⟨_,_,a1.2,a2.2,?_,?_,?_,?_⟩
  ·rw [af,af,a1.1,a2.1];exact HQ.out
  ·rw [af];exact HD.out
  ·exact U32.nle a1.2 HN1.out dZ
  ·exact U32.nle a2.2 HD1.out dZ)
 go_wp2_with fail
 refine cM (eQ ⟨x1.neg != x2.neg,x1.a,x1.n,x1.c,x2.a,x2.n,x2.c⟩ _ _ RP.out) fun x4 w4 hE G4=>?_
 obtain ⟨hcw,hfw⟩:=ar hE;replace HB:=hE.bl HB;have E4:=Hi ((E3.out).trans hE);have HX:=E4;go_wp2;have hF:=((((Fin.start (L:=w.heap.size) HX.out (ai HB.out rfl)).set zo (i:=0) (v:=.bool x4.neg) rfl).set zo (i:=1) (v:=.slice x4.a x4.n x4.c) rfl).set zo (i:=2) (v:=.slice x4.b x4.m x4.d) rfl);exact nXa (v:=x4.v) (by simp [results,Tryz.results86,go_sem,ab HB.out]) rfl ⟨x4,rfl,hF.ext,G4.out.keep hF.keep⟩
theorem r6{n:Nat}(hn:n≤20):FrB 1 (chP n).1:=⟨nXe _,1,dZ,dZ,FrL.of fun i=>Fr.one (Hg hn)⟩
theorem Ep{n:Nat}(hn:n≤48):tV (n:Nat)=(0,(chP n).1):=by
 unfold tV;rw [if_neg zo,Int.toNat_natCast,yy]
def Ar:Rat:=((1:Int):Rat) / ((2:Int):Rat)
def sqP(n:Nat):List Rat:=tz ((bA (oU (chP n).1 [((-1:Int):Rat),((2:Int):Rat)] (n+1)) [((1:Int):Rat)]).map (·*Ar))
theorem wR(a b:Int)(ha:a.natAbs<W32)(hb:b.natAbs<W32):FrB 1 [((a:Int):Rat),((b:Int):Rat)]:=⟨nXe _,1,dZ,dZ,fun x hx=>by
 rcases List.mem_cons.1 hx with rfl|hx
 ·exact Fr.one (Wz.int (by rw [Nat.pow_one];exact ha))
 ·rw [nXv.1 hx];exact Fr.one (Wz.int (by rw [Nat.pow_one];exact hb))⟩
theorem oV:Sz 1 Ar:=⟨by decide +kernel,by decide +kernel⟩
theorem Bb{n:Nat}(hn:n≤8):SzL 60 (sqP n):=by
 unfold sqP;have h1:=(oT (r6 (show n≤20 by omega)) (wR (-1) 2 dZ dZ) dZ (n+1) zo).add iQ;refine SzL.tz (SzL.mono ((h1.sz).scale oV) zo)
theorem mp(n:Nat)(w:World)(h1:1≤n)(h8:n≤8):ak 161 [.int .i64 (n:Nat)] w SH.v (fun x w'=>aD w' x (sqP n)):=by
 have HX:=Hi (Ext.refl w);have HV:=Hi (Ep (n:=n) zo);have HF:=Hi (r6 (n:=n) zo);have HL:=Hi (yz n);have HT:=Hi (yy n);obtain ⟨p,hp⟩:∃ p,p=(chP n).1:=⟨_,rfl⟩;have HS:Hid (sqP n=tz ((bA (oU p [((-1:Int):Rat),((2:Int):Rat)] (n+1)) [((1:Int):Rat)]).map (·*Ar))):=Hi (by rw [hp];rfl);rw [←hp] at HV HF HL HT;clear hp;have F1:Hid (FrB 40 (oU p [((-1:Int):Rat),((2:Int):Rat)] (n+1))):=Hi ((oT HF.out (wR (-1) 2 dZ dZ) dZ (n+1) zo).mono zo);have F2:Hid (FrB 50 (bA (oU p [((-1:Int):Rat),((2:Int):Rat)] (n+1)) [((1:Int):Rat)])):=Hi ((F1.out.add iQ).mono dZ);have L1:Hid ((oU p [((-1:Int):Rat),((2:Int):Rat)] (n+1)).length≤10):=Hi (nXf (j8 dZ _) zo);have L2:Hid ((bA (oU p [((-1:Int):Rat),((2:Int):Rat)] (n+1)) [((1:Int):Rat)]).length≤10):=Hi (cO L1.out dZ);obtain ⟨u,hu⟩:∃ u,u=oU p [((-1:Int):Rat),((2:Int):Rat)] (n+1):=⟨_,rfl⟩;rw [←hu] at HS F1 F2 L1 L2;have HU:=Hi hu;clear hu;unfold ak;go_enter Tryz.func161,Tryz.ntmps161
 go_wp2_with fail
 refine cM (Er (n:Nat) _) fun x2 w2 hE G2=>?_
 replace HX:=hE.tr HX;obtain ⟨⟨ta,tn,tc⟩,e2⟩:=x2;obtain ⟨he,hl⟩:=G2.out;rw [HV.out] at he hl;simp only at he hl;subst he;have LT:=Hi hl;clear hl G2;simp only [RF,SH.v]
 go_wp2_with fail
 refine cM (aL (-1) _ dZ dZ) fun x3 w3 hE G3=>?_
 refine mV2 hE ?_ HX LT;clear HX LT;intro HX LT
 go_wp2_with fail
 refine cM (aL 2 _ dZ dZ) fun x4 w4 hE G4=>?_
 refine mV3 hE ?_ G3 HX LT;clear G3 HX LT;intro G3 HX LT
 go_wp2_with fail
 refine nmA (F:=fun W=>Calls _ _ _ W _) ?_;intro w5 hE B5 hz_w5 hr_w5;refine mV4 hE ?_ G4 G3 HX LT;clear G4 G3 HX LT;intro G4 G3 HX LT
 change Calls _ _ _ _ _
 have LQ:=Hi (tT B5.out G3.out G4.out)
 (try clear c_B5 f_B5 l_B5);(try clear B5)
 clear G3;clear G4;refine cM (pR ⟨ta,tn,tc⟩ ⟨some ⟨w4.heap.size,0,none⟩,2,2⟩ p _ n 1 _ LT.out LQ.out HL.out HT.out rfl dZ h1 h8 HF.out (wR (-1) 2 dZ dZ) dZ) fun x6 w6 hE G6=>?_
 replace HX:=hE.tr HX;rw [←HU.out] at G6;obtain ⟨⟨ca,cn,cc⟩,e6⟩:=x6;obtain ⟨he,hl⟩:=G6.out;simp only at he hl;subst he;have LC:=Hi hl;clear hl G6;simp only [RF,SH.v];clear LT;clear LQ
 go_wp2_with fail
 refine cM (zL _) fun x7 w7 hE G7=>?_
 refine mV2 hE ?_ HX LC;clear HX LC;intro HX LC;obtain ⟨oa,on,oc⟩:=x7;simp only [SH.v];have hcn:cn≤10:=by have h:=LC.out.len;have h2:=L1.out;simp only at h;omega
 have hon:on≤10:=by have h:=G7.out.len;simp only [List.length_singleton] at h;omega
 go_wp2_with fail
 refine cM ((eK ca oa cn cc on oc u [((1:Int):Rat)] _ (LC.out.raw F1.out.sz dZ) (G7.out.raw iQ.sz dZ) zo zo (F1.out.sz.mono dZ) (iQ.sz.mono dZ)).weak (ψ:=fun x w'=>aD w' x (bA u [((1:Int):Rat)])) (fun _ _ _ h=>h.can)) fun x8 w8 hE G8=>?_
 replace HX:=hE.tr HX;obtain ⟨da,dn,dc⟩:=x8;simp only [SH.v];have hdn:dn≤10:=by have h:=G8.out.len;have h2:=L2.out;simp only at h;omega
 clear LC;clear G7
 go_wp2_with fail
 refine cM (vM 1 2 _ dZ dZ dZ dZ dZ) fun x9 w9 hE G9=>?_
 refine mV2 hE ?_ G8 HX;clear G8 HX;intro G8 HX
 go_wp2_with fail
 refine cM ((bO da dn dc (bA u [((1:Int):Rat)]) x9 Ar _ (G8.out.raw F2.out.sz dZ) (G9.out.raw oV dZ) zo (F2.out.sz.mono dZ) (oV.mono dZ)).weak (ψ:=fun x w'=>aD w' x (sqP n)) (fun _ _ _ h=>by rw [HS.out];exact h.can)) fun x10 w10 hE G10=>?_
 replace HX:=hE.tr HX;go_wp2
 go_ret
 exact ⟨x10,rfl,HX.out,G10.out⟩
def prR(f:Nat→Rat)(j:Nat):List Rat:=(List.range j).map f
theorem rA(f:Nat→Rat)(j:Nat):(prR f j).length=j:=by simp [prR]
theorem zI(f:Nat→Rat)(j:Nat):prR f j++[f j]=prR f (j+1):=by simp [prR,List.range_succ]
def rtF(n k:Nat):Rat:=(chP n).1.getD (n % 2+2*k) 0
def rtP(n:Nat):List Rat:=prR (rtF n) (n / 2+1)
theorem ou(n:Nat):(rtP n).length=n / 2+1:=rA _ _
theorem Bf{n:Nat}(hn:n≤20):SzL 1 (rtP n):=fun x hx=>by
 obtain ⟨k,-,rfl⟩:=nYg.1 hx;exact (r6 hn).sz.getD dZ _
theorem vW(n:Nat)(w:World)(h1:1≤n)(h8:n≤8):ak 163 [.int .i64 (n:Nat)] w SH.v (fun x w'=>aD w' x (rtP n)):=by
 have HX:=Hi (Ext.refl w);have HV:=Hi (Ep (n:=n) zo);have HL:=Hi (yz n);obtain ⟨r,hr⟩:∃ r,r=n % 2:=⟨_,rfl⟩;obtain ⟨m,hm⟩:∃ m,m=n / 2:=⟨_,rfl⟩;have hrI:(n:Int).tmod 2=r:=by have h2:(n:Int).tmod 2=((n % 2:Nat):Int):=rfl;omega
 have hrJ:(n:Int) % 2=r:=by omega
 have hn2:n≤2*m+r∧2*m+r≤n∧r≤1:=zo;have HRt:Hid (rtP n=prR (rtF n) (m+1)):=Hi (by rw [hm];rfl);have HF:Hid (∀ k,rtF n k=(chP n).1.getD (r+2*k) 0):=Hi (fun k=>by rw [hr];rfl);obtain ⟨p,hp⟩:∃ p,p=(chP n).1:=⟨_,rfl⟩;rw [←hp] at HV HL HF;clear hp hr hm;unfold ak;go_enter Tryz.func163,Tryz.ntmps163
 go_wp2_with fail
 refine cM (Er (n:Nat) _) fun x2 w2 hE G2=>?_
 replace HX:=hE.tr HX;obtain ⟨⟨ta,tn,tc⟩,e2⟩:=x2;obtain ⟨he,hl⟩:=G2.out;rw [HV.out] at he hl;simp only at he hl;subst he;have LT:=Hi hl;have htn:=hl.len;rw [HL.out] at htn;simp only at htn;subst htn;clear hl G2;simp only [RF,SH.v];have hle:=LT.out.le;have hmx:=LT.out.max;simp only at hle hmx;obtain ⟨hn2,hn3,hr1⟩:=hn2;have LT0:=LT;have HX0:=HX;have HX2:=Hi (Ext.refl w2);clear LT;clear HX;have HO:Hid (eA w2 (w2.heap.size≤·) (.slice none 0 0) (prR (rtF n) 0)):=Hi (eA.nil _ _);go_wp2
 go_loopg [5,6] (m+1) (fun g v i wr=>∃ (j k:Nat) (s:SH),v=s.v∧j+g=m+1∧i=.int .i64 (k:Nat)∧k≤r+2*j∧r+2*j≤k∧Ext w2 wr∧eA wr (w2.heap.size≤·) s.v (prR (rtF n) j))
 case atStart=>exact ⟨0,r,⟨none,0,0⟩,rfl,zo,rfl,zo,zo,HX2.out,HO.out⟩
 case round =>
  obtain ⟨j,k,⟨sa,sn,sc⟩,rfl,hj,rfl,hk1,hk2,g1,g3⟩:=hrel;clear HX2 HO;have HX:=Hi g1;have LT:=Hi (LT0.out.ext g1);have HO:=Hi g3;have hsz:=g1.size;clear g1 g3;simp only [SH.v];simp only [SH.v] at HO;by_cases h0:gk=0
  case pos =>
   subst h0;obtain rfl:j=m+1:=by omega
   have hkn:¬ (k:Int)<(n+1:Nat):=zo;have hsn:=eA.len (s:=⟨sa,sn,sc⟩) HO.out;rw [rA] at hsn;simp only at hsn;subst hsn;go_wp2
   go_ret
   exact ⟨⟨sa,m+1,sc⟩,rfl,HX0.out.trans HX.out,by rw [HRt.out];exact eA.can (s:=⟨sa,m+1,sc⟩) HO.out⟩
  have hkn:(k:Int)<(n+1:Nat):=zo;obtain ⟨b,off,rr,hao,hat,hP⟩:=LT.out.at (k:=k) zo;obtain ⟨hc1,hc2,hc3⟩:=hat;obtain ⟨rneg,ra,rn,rc,rb,rm,rd⟩:=rr;simp only at hc1 hc2 hc3 hao;subst hao;have RP:Hid (aB wr ⟨rneg,ra,rn,rc,rb,rm,rd⟩ (rtF n j)):=Hi (by rw [HF.out,show r+2*j=k by omega];exact hP);have HLn:Hid ((prR (rtF n) j).length≤1073741824):=Hi (by rw [rA];omega);clear hP
  go_wp2_with (at_builtin;refine cE rfl (.tmp 20) (.tmp 25) 24 Tryz.underlying24 rfl (w2.heap.size≤·) _ _ ⟨rneg,ra,rn,rc,rb,rm,rd⟩ _ rfl HO.out rfl RP.out HLn.out (fun k hk=>by omega) ?_;intro s' y3 q1 q2 q3)
  have HX3:=Hi (Ext.mods HX.out q2 (fun k h=>h));have HO3:Hid (eA y3 (w2.heap.size≤·) s'.v (prR (rtF n) (j+1))):=Hi (by rw [←zI];exact q1);clear q1 q2 q3;go_wp2
  go_roundg (gk-1)
  case measure=>omega
  case rel=>exact ⟨j+1,k+2,s',rfl,zo,by go_num,zo,zo,HX3.out,HO3.out⟩
def plQ:List Rat:=[((1:Int):Rat),((1:Int):Rat)]
def miQ:List Rat:=[((1:Int):Rat),((-1:Int):Rat)]
def Ei(A:List Rat):Prop:=FrB 1 A∧A.length≤2
theorem bQ:Ei plQ:=⟨fP 1 dZ,dZ⟩
theorem bR:Ei miQ:=⟨fP (-1) dZ,dZ⟩
def rO(A B:List Rat)(n j:Nat):List Rat:=aq (bF A j) (bF B (n-j))
def uC(A B g:List Rat)(n:Nat)(c:Rat)(j:Nat):List Rat:=tz ((rO A B n j).map (·*(g.getD j 0*c ^ j)))
def j7(A B g:List Rat)(n:Nat)(c:Rat):Nat→List Rat
 | 0=>[]
 | j+1=>bA (j7 A B g n c j) (uC A B g n c j)
section
variable {A B:List Rat} (hA:Ei A) (hB:Ei B)
include hA hB
theorem lz{n j:Nat}(hj:j≤n)(hn:n≤8):FrB 30 (rO A B n j):=by
 have h1:=cN hA.1 hA.2 j zo;have h2:=cN hB.1 hB.2 (n-j) zo;have h3:=dI hA.2 j;exact (h1.mul h2 zo).mono zo
theorem oR{n j:Nat}(hj:j≤n):(rO A B n j).length≤n+1:=nXf (bg (dI hA.2 j) (dI hB.2 (n-j))) zo
theorem oO(g:List Rat)(c:Rat){n j:Nat}(hj:j≤n):(uC A B g n c j).length≤n+1:=by
 unfold uC;exact nXf (ae _) (by rw [nXl];exact oR hA hB hj)
theorem el(g:List Rat)(c:Rat)(n:Nat):∀ j,j≤n+1→(j7 A B g n c j).length≤n+1:=by
 intro j;induction j with
 | zero=>intro _;exact Nat.zero_le _
 | succ j ih=>intro hj;exact cO (ih zo) (oO hA hB g c zo)
omit hA hB in
theorem rP{g:List Rat}{c:Rat}{s K j:Nat}(hg:SzL s g)(hs:1≤s)(hc:Sz K c)(hj:j≤8):Sz (s+(K*8+1)) (g.getD j 0*c ^ j) :=
 (hg.getD hs j).mul ((hc.pow j).mono (by have:=nXg K hj;omega))
theorem rN{g:List Rat}{c:Rat}{n s K j:Nat}(hg:SzL s g)(hs:1≤s)(hc:Sz K c)(hj:j≤n)(hn:n≤8):SzL (30+(s+(K*8+1))) (uC A B g n c j):=by
 unfold uC;exact SzL.tz ((lz hA hB hj hn).sz.scale (rP hg hs hc zo))
omit hA hB in
theorem AR{a b:Nat}{p q:List Rat}(hp:SzL a p)(hq:SzL b q)(ha:1≤a)(hb:1≤b):SzL (a+b+1) (bA p q):=by
 unfold bA;refine SzL.tz fun x hx=>?_
 obtain ⟨k,-,rfl⟩:=nYg.1 hx;exact (hp.getD ha k).add (hq.getD hb k)
theorem oP{g:List Rat}{c:Rat}{n s K:Nat}(hg:SzL s g)(hs:1≤s)(hc:Sz K c)(hn:n≤8):∀ j,j≤n+1→SzL (1+j*(30+(s+(K*8+1))+1)) (j7 A B g n c j):=by
 intro j;induction j with
 | zero=>intro _ x hx;simp [j7] at hx
 | succ j ih =>
  intro hj;exact (AR (ih zo) (rN hA hB hg hs hc (show j≤n by omega) hn) zo zo).mono (by rw [nXz];omega)
end
theorem jX(s:SH)(g:List Rat)(t:RH)(c:Rat)(n S K:Nat)(w:World)(h:aD w s g)(ht:aQ w t c)(hl:g.length≤n+1)(hn:n≤8)(hz:SzL S g)(hS:1≤S)(hS2:S≤10000)(hK:1≤K)(hK2:K≤10000)(hc:Sz K c) :
  ak 162 [s.v,.int .i64 (n:Nat),t.v] w SH.v (fun x w'=>bU w.heap.size w' x (j7 plQ miQ g n c g.length)):=by
 obtain ⟨ga,gn,gc⟩:=s;obtain ⟨tn,ta,tl,tc,tb,tm,td⟩:=t;have LG:=Hi h;have HT:=Hi ht;have HX:=Hi (Ext.refl w);have hgn:=h.len;simp only at hgn;rw [hgn] at hl ⊢;have HGn:=Hi hgn;have HZ:=Hi hz;have HC:=Hi hc;have hle:=h.le;have hmx:=h.max;simp only at hle hmx;clear h ht hgn hz hc;unfold ak;simp only [SH.v];go_enter Tryz.func162,Tryz.ntmps162
 go_upto_region 1 with fail
 refine nmA ?_;intro w1 hE B5 hz_w1 hr_w1;refine mV3 hE ?_ LG HT HX;clear LG HT HX;intro LG HT HX;obtain ⟨b5,hb5⟩:∃ b5,b5=w.heap.size:=⟨_,rfl⟩;rw [←hb5] at B5 ⊢;clear hb5;go_wp2
 go_loopg [7,13] gn (fun g' v i wr=>∃ (j:Nat) (s:SH),v=s.v∧j+g'=gn∧i=.int .i64 (j:Nat)∧Ext w wr∧aD wr ⟨ga,gn,gc⟩ g∧aQ wr ⟨tn,ta,tl,tc,tb,tm,td⟩ c∧wr.heap[b5]?=some (.cells #[.bool tn,.slice ta tl tc,.slice tb tm td] 34 (0,0))∧bU w.heap.size wr s (j7 plQ miQ g n c j))
 case atStart=>exact ⟨0,⟨none,0,0⟩,rfl,zo,rfl,HX.out,LG.out,HT.out,B5.out,bU.nil _ _⟩
 case round =>
  obtain ⟨j,⟨sa,sn,sc⟩,rfl,hj,rfl,g1,g2,g3,g4,g5⟩:=hrel;clear HX LG HT B5;have HX:=Hi g1;have LG:=Hi g2;have HT:=Hi g3;have B5:=Hi g4;have LO:=Hi g5;have hsn:=g5.len;have hsl:=el bQ bR g c n j zo;simp only at hsn;have hsn2:sn≤9:=zo;clear g1 g2 g3 g4 g5 hsn hsl;simp only [SH.v];by_cases h0:gk=0
  case pos =>
   subst h0;obtain rfl:j=gn:=by omega
   go_wp2
   go_ret
   exact ⟨⟨sa,sn,sc⟩,rfl,HX.out,LO.out⟩
  have hjg:(j:Int)<gn:=zo;have hjn:j≤n:=zo;obtain ⟨i,hi⟩:∃ i,i=n-j:=⟨_,rfl⟩;have hii:(n:Int)-j=i:=by omega
  have hi8:i≤48:=zo;have HIM:Hid (rO plQ miQ n j=aq (bF plQ j) (bF miQ i)):=Hi (by rw [hi];rfl);have F1:Hid (FrB 30 (bF plQ j)):=Hi ((cN bQ.1 bQ.2 j zo).mono zo);have F2:Hid (FrB 30 (bF miQ i)):=Hi ((cN bR.1 bR.2 i zo).mono zo);have N1:Hid ((bF plQ j).length≤9):=Hi (nXf (dI bQ.2 j) zo);have N2:Hid ((bF miQ i).length≤9):=Hi (nXf (dI bR.2 i) zo);clear hi;have ZM:Hid (FrB 30 (rO plQ miQ n j)):=Hi (lz bQ bR hjn hn);have NM:Hid ((rO plQ miQ n j).length≤9):=Hi (nXf (oR bQ bR hjn) zo);have ZCj:Hid (Sz 100000 (g.getD j 0*c ^ j)):=Hi ((rP HZ.out hS HC.out (show j≤8 by omega)).mono zo);have ZTj:Hid (SzL 100100 (uC plQ miQ g n c j)):=Hi ((rN bQ bR HZ.out hS HC.out hjn hn).mono zo);have NT:Hid ((uC plQ miQ g n c j).length≤9):=Hi (nXf (oO bQ bR g c hjn) zo);have ZP:Hid (SzL 1000000 (j7 plQ miQ g n c j)):=Hi ((oP bQ bR HZ.out hS HC.out hn j zo).mono (by have:=nXy (show j≤9 by omega) (show 30+(S+(K*8+1))+1≤90032 by omega);omega));have ZPw:Hid (Sz 90000 (c ^ j)):=Hi ((HC.out.pow j).mono (by have:=nXy (show K≤10000 by omega) (show j≤8 by omega);omega));have ZGj:Hid (Sz S (g.getD j 0)):=Hi (HZ.out.getD hS j);obtain ⟨b,off,rr,hao,hat,hP⟩:=LG.out.at (k:=j) zo;obtain ⟨hc1,hc2,hc3⟩:=hat;obtain ⟨rneg,ra,rn,rc,rb,rm,rd⟩:=rr;simp only at hc1 hc2 hc3 hao;subst hao;have RP:=Hi hP;clear hP
  go_upto_region 5 with fail
  refine nmA ?_;intro y1 hE B9 hz_y1 hr_y1;refine mV6 hE ?_ HX LG HT B5 LO RP;clear HX LG HT B5 LO RP;intro HX LG HT B5 LO RP;clear hc1 hc2 hc3
  go_wp2_with fail
  refine cM (dH j _ zo) fun x21 w21 hE G21=>?_
  refine mV7 hE ?_ B9 HX LG HT B5 LO RP;clear B9 HX LG HT B5 LO RP;intro B9 HX LG HT B5 LO RP
  go_wp2_with fail
  refine cM (dB i _ hi8) fun x22 w22 hE G22=>?_
  refine mV8 hE ?_ G21 B9 HX LG HT B5 LO RP;clear G21 B9 HX LG HT B5 LO RP;intro G21 B9 HX LG HT B5 LO RP;obtain ⟨ua,un,uc⟩:=x21;obtain ⟨va,vn,vc⟩:=x22;simp only [SH.v];have hun:un≤9:=by have h:=G21.out.len;have h2:=N1.out;unfold plQ at h2;simp only at h;omega
  have hvn:vn≤9:=by have h:=G22.out.len;have h2:=N2.out;unfold miQ at h2;simp only at h;omega
  go_wp2_with fail
  refine cM ((eW ua va un uc vn vc (bF plQ j) (bF miQ i) 30 30 _ (G21.out.raw F1.out.sz dZ) (G22.out.raw F2.out.sz dZ) zo zo F1.out F2.out dZ).weak (ψ:=fun x w'=>aD w' x (rO plQ miQ n j)) (fun _ _ _ h=>by rw [HIM.out];exact h.can)) fun x23 w23 hE G23=>?_
  refine mV7 hE ?_ B9 HX LG HT B5 LO RP;clear B9 HX LG HT B5 LO RP;intro B9 HX LG HT B5 LO RP;replace b_B5:=bX3 B5;replace b_B9:=bX3 B9;obtain ⟨ma,mn,mc⟩:=x23;simp only [SH.v];have hmn:mn≤9:=by have h:=G23.out.len;have h2:=NM.out;simp only at h;omega
  clear G21;clear G22
  go_upto_region 6 with fail
  refine wpG 9 (fun opIx=>match opIx with
   | 5=>sR (c ^ j)
   | 6=>sR (g.getD j 0*c ^ j)
   | 7=>.spec (SH) (default) (SH.v) (fun x w'=>aD w' x (uC plQ miQ g n c j))
   | 8=>.spec (SH) (default) (SH.v) (fun x w'=>bU w.heap.size w' x (j7 plQ miQ g n c (j+1)))
   | _=>.quiet) (fun|6=>[5]|7=>[6]|8=>[7]|_=>[]) fun w0 he0 hz0 hc0 hf0=>?_
  refine wps he0 (fun w1 hW hG=>?_) fun x31=>?_
  ·exact spc [RH.v ⟨tn,ta,tl,tc,tb,tm,td⟩,.int .i64 (j:Nat)] Tryz.func159 (kA ⟨tn,ta,tl,tc,tb,tm,td⟩ c K j _ (HT.out.ext hW) HC.out hK zo zo)
  refine qZ ?_;refine wps he0 (fun w1 hW hG=>?_) fun x32=>?_
  ·have g31:=gS (hG 5 dZ);exact spc [RH.v ⟨rneg,ra,rn,rc,rb,rm,rd⟩,x31.v] Tryz.func85 (aW _ x31 _ _ _ ((RP.out.ext hW).raw ZGj.out zo) (g31.raw ZPw.out dZ))
  refine qZ ?_;refine wps he0 (fun w1 hW hG=>?_) fun x33=>?_
  ·have g32:=gS (hG 6 dZ);exact spc [.slice ma mn mc,x32.v] Tryz.func102 ((bO ma mn mc (rO plQ miQ n j) x32 (g.getD j 0*c ^ j) _ ((G23.out.ext hW).raw ZM.out.sz dZ) (g32.raw ZCj.out dZ) zo (ZM.out.sz.mono dZ) (ZCj.out.mono dZ)).weak (fun _ _ _ h=>h.can))
  refine qZ ?_;refine wps he0 (fun w1 hW hG=>?_) fun x34=>?_
  ·have g33:=gS (hG 7 dZ);exact spc [.slice sa sn sc,x33.v] Tryz.func119 ((eK sa x33.a sn sc x33.n x33.c (j7 plQ miQ g n c j) (uC plQ miQ g n c j) _ ((LO.out.ext hW).can.raw ZP.out dZ) (g33.raw ZTj.out dZ) zo (by have h:=g33.len;have h2:=NT.out;omega) (ZP.out.mono dZ) (ZTj.out.mono dZ)).weak (fun _ _ _ h=>h.mono (nXf HX.out.size hW.size)))
  refine qZ ?_;refine aj ?_;intro y2 hI;have hE:=he0.out.trans hI.ext;have G34:=gT (hI.facts 8);clear hI he0 hz0 hc0 hf0;refine mV4 hE ?_ HX LG B5 HT;clear HX LG B5 HT;intro HX LG B5 HT;simp only [pD];obtain ⟨xa,xn,xc⟩:=x34;have GN:=Hi G34.out;clear G34;simp only [SH.v];go_wp2
  go_roundg (gk-1)
  case measure=>omega
  case rel=>exact ⟨j+1,⟨xa,xn,xc⟩,rfl,zo,by go_num,HX.out,LG.out,HT.out,B5.out,GN.out⟩
theorem oo(ao:Option Addr)(n cap:Nat)(qs:List Rat)(w:World)(h:cx w ⟨ao,n,cap⟩ qs) :
  ak 140 [.slice ao n cap] w (fun _:Unit=>.slice ao (tz qs).length cap) (fun _ _=>tz qs=qs.take (tz qs).length∧(tz qs).length≤n):=by
 have H:=Hi h;have hle:=h.le;have hmx:=h.max;have Hlen:=Hi h.len;simp only at hle hmx Hlen;clear h;unfold ak
 change Calls Tryz.prog _ #[.slice ao n cap] w _
 go_enter Tryz.func140,Tryz.ntmps140;go_wp2
 go_loopg [3] n (fun g nv wr=>nv=.int .i64 (g:Nat)∧g≤n∧tz qs=tz (qs.take g)∧Ext w wr)
 case atStart=>exact ⟨rfl,nXe _,by rw [nXm (by rw [Hlen.out];exact nXe _)],Ext.refl _⟩
 case round =>
  obtain ⟨rfl,hg,hs,hE⟩:=hrel;have Hs:=Hi hs;have HE:=Hi hE;clear hs hE;by_cases h0:gk=0
  ·subst h0;go_wp2
   go_ret
   have e:tz qs=[]:=by rw [Hs.out];rfl
   refine ⟨(),?_,HE.out,?_,?_⟩
   ·rw [e];simp
   ·rw [e];simp
   ·rw [e];simp
  ·obtain ⟨k,rfl⟩:∃ m,gk=m+1:=⟨gk-1,zo⟩;obtain ⟨b,off,r,hao,⟨hc1,hc2,hc3⟩,hP⟩:=(H.out.ext HE.out).at (k:=k) zo;subst hao;obtain ⟨rneg,ra,rn,rc,rb,rm,rd⟩:=r;simp only at hc1 hc2 hc3;have HP:=Hi hP;clear hP h0
   go_wp2_with fail
   refine Calls.mono (cW ⟨rneg,ra,rn,rc,rb,rm,rd⟩ _ _ HP.out) ?_;rintro e w1 ⟨x1,rfl,hE1,-⟩;replace HE:=Hi (HE.out.trans hE1);have HZ:=Hi (eS (qs.getD k 0));obtain ⟨c,hc⟩:∃ c,c=dq (qs.getD k 0) 0:=⟨_,rfl⟩;rw [←hc] at HZ ⊢;clear hc hE1 HP hc1 hc2 hc3;by_cases hz:c=0
   ·subst hz;have Hz0:=Hi (HZ.out.1 rfl);clear HZ;go_wp2
    go_roundg k
    case measure=>omega
    case rel=>exact ⟨by go_num,zo,by rw [Hs.out,hZ (by rw [Hlen.out];omega) Hz0.out],HE.out⟩
   ·have hzb:(c == 0)=false:=by simpa using hz
    have HF:Hid (tz qs=qs.take (k+1)):=Hi (by rw [Hs.out,nY (by rw [Hlen.out];omega) (fun h=>hz (HZ.out.2 h))]);clear HZ hz;go_wp2
    go_ret
    have e:(tz qs).length=k+1:=by rw [HF.out,nXk,Hlen.out];omega
    refine ⟨(),?_,HE.out,?_,?_⟩
    ·rw [e];rfl
    ·rw [e];exact HF.out
    ·omega
theorem ku(t:RH)(q:Rat)(w:World)(h:aB w t q):ak 142 [t.v] w PT (fun x w'=>aB w' x.1 (q.num:Rat)∧aB w' x.2 ((q.den:Int):Rat)):=by
 obtain ⟨neg,a,n,c,b,m,d⟩:=t;have H:=Hi h;have HX:=Hi (Ext.refl w);clear h;unfold ak;go_enter Tryz.func142,Tryz.ntmps142
 go_upto_region 1 with fail
 refine pW ?_;intro w1 hE B1 B2 B3 hz_w1 hr_w1;replace HX:=hE.tr HX
 go_upto_region 2 with fail
 refine nmA ?_;intro w2 hE BO hz_w2 hr_w2;refine mV4 hE ?_ B1 B2 B3 HX;clear B1 B2 B3 HX;intro B1 B2 B3 HX;replace b_B1:=bX3 B1;replace b_B2:=bX3 B2;replace b_B3:=bX3 B3
 go_region
 refine oC B2.out rfl B3.out rfl zo ?_;intro y3 y4 y5 T3 T4 E5;have HY:Hid (Ext w y5):=Hi ((T4.ext (T3.ext HX.out zo) zo).trans E5);have HO:=Hi (E5.block (T4.rest _ _ zo (T3.rest _ _ zo BO.out)));have HA:=Hi (H.out.ext HY.out);have C2:=Hi (E5.block (T4.rest _ _ zo T3.bx));have C3:=Hi (E5.block T4.bx);have c_C2:=ab C2.out;have c_C3:=ab C3.out;have f_C2:=ah C2.out;have f_C3:=ah C3.out;clear T3 T4 E5 b_B1 b_B2 b_B3;go_wp2;exact nXa (v:=PT (⟨neg,a,n,c,some ⟨w1.heap.size,0,none⟩,1,1⟩,⟨false,b,m,d,some ⟨w1.heap.size,0,none⟩,1,1⟩)) (by simp [results,Tryz.results142,go_sem,PT,c_C2,c_C3]) rfl
  ⟨(⟨neg,a,n,c,some ⟨w1.heap.size,0,none⟩,1,1⟩,⟨false,b,m,d,some ⟨w1.heap.size,0,none⟩,1,1⟩),rfl,HY.out,
   ⟨by rw [Rat.num_intCast];exact HA.out.1,by rw [Rat.num_intCast];exact HA.out.2.1,by rw [Rat.den_intCast];exact lk HO.out⟩,
   ⟨by rw [Rat.num_intCast];exact (decide_eq_false zo).symm,by rw [Rat.num_intCast];exact HA.out.2.2,by rw [Rat.den_intCast];exact lk HO.out⟩⟩
end Go.Proofs.YtafgmcimcbhhjaaGreat
