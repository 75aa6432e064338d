import Derived.Test.YtafgmcimcbhhjaaGreatQBK10
set_option linter.unusedVariables false
set_option maxHeartbeats 16000000
set_option maxRecDepth 8000
namespace Go.Proofs.YtafgmcimcbhhjaaGreat
open Go.RowKit Go.Front Go.Num Stab
attribute [local go_sem] XW.cell XW.frozen
def ApB(s:SH)(B:Nat):Prop:=s.n=0∨∀ o,s.a≠some ⟨B,o,none⟩
theorem aD.apz{w:World}{s:SH}{qs:List Rat}{B:Nat}{T:TypeId}(h:aD w s qs)(hB:w.heap[B]?=some (.cells #[.bool false,.slice none 0 0,.slice none 0 0,.slice none 0 0,.int .i64 0,.slice none 0 0] T (0,0))):ApB s B:=by
 rcases Nat.eq_zero_or_pos s.n with h0|h0
 ·exact Or.inl h0
 right
 intro o ho;obtain ⟨sa,sn,sc⟩:=s;simp only at ho h0;obtain ⟨b,off,r,e,⟨c1,c2,c3⟩,hc⟩:=h.at (k:=0) h0;rw [ho] at e;simp only [Option.some.injEq,Addr.mk.injEq] at e;obtain ⟨rfl,rfl,-⟩:=e;rw [Nat.zero_mul,Nat.add_zero,ab hB] at c1 c3;rcases o with _|_|_|_|_|_|o <;> simp at c1 c3
 obtain ⟨rneg,ra,rn,rc,rb,rm,rd⟩:=r;simp only at c3;have h1:=hc.2.2.len;simp only at h1;rw [←c3.2.1] at h1;exact absurd (bQ.1 (nXj.1 h1)) (Rat.den_nz _)
theorem aD.puta{w1 w2:World}{s:SH}{qs:List Rat}{B:Nat}{T:TypeId}{cs:Array Value}(h:aD w1 s qs)(ha:ApB s B)(T2:gv w1 B T cs w2):aD w2 s qs:=by
 obtain ⟨rs,h1,h2⟩:=h;refine ⟨rs,⟨h1.len,h1.le,h1.max,?_⟩,h2.keep T2.keep⟩;rcases h1.at' with h0|⟨b,off,e,hc⟩
 ·exact Or.inl h0
 ·rcases ha with h0|h0
  ·exact Or.inl h0
  ·have hb:b≠B:=fun hb=>h0 off (by rw [←hb];exact e)
   exact Or.inr ⟨b,off,e,fun k hk=>⟨T2.cell hb (hc k hk).1,T2.cell hb (hc k hk).2.1,T2.cell hb (hc k hk).2.2⟩⟩
theorem zU{w1:World}{b:Nat}{T:TypeId}{c0 c1 c2 c3 c4 c5 v0 v1 v2:Value}{F:World→Prop}(hb:w1.heap[b]?=some (.cells #[c0,c1,c2,c3,c4,c5] T (0,0)))(hn:#[c0,c1,c2,c3,c4,c5].toList.all gN=true)(h:∀ w2,gv w1 b T #[v0,v1,v2,c3,c4,c5] w2→F w2) :
  F (((w1.setCell ⟨b,0,none⟩ v0).setCell ⟨b,1,none⟩ v1).setCell ⟨b,2,none⟩ v2) :=
 h _ (gv.of (nXb.1 hb).1 (ai hb hn) (((bf.setCell w1 ⟨b,0,none⟩ v0).trans (bf.setCell _ ⟨b,1,none⟩ v1)).trans (bf.setCell _ ⟨b,2,none⟩ v2)) (by simp [World.setCell]) (aR (aR (aR hb 0 v0) 1 v1) 2 v2))
theorem pF{w:World}{a b c d:Obj}{F:World→Prop}(h:∀ w2,Ext w w2→w2.heap[w.heap.size]?=some a→w2.heap[w.heap.size+1]?=some b→w2.heap[w.heap.size+2]?=some c→w2.heap[w.heap.size+3]?=some d→w2.heap.size=w.heap.size+4→F w2):F ((((w.alloc a).alloc b).alloc c).alloc d):=by
 have e3:(((w.alloc a).alloc b).alloc c).heap.size=w.heap.size+3:=by simp
 have hx:Ext (((w.alloc a).alloc b).alloc c) ((((w.alloc a).alloc b).alloc c).alloc d):=Ext.alloc _ _;refine h _ (Ext.al3.trans hx) (hx.block yz) (hx.block yy) (hx.block DN) ?_ (by simp);rw [←e3];exact heap_alloc_new _ _
theorem Il{w:World}{a b c d:Obj}{F:World→Prop}(h:∀ w2,Ext w w2→RowKit.Hid (w2.heap[w.heap.size]?=some a)→RowKit.Hid (w2.heap[w.heap.size+1]?=some b)→RowKit.Hid (w2.heap[w.heap.size+2]?=some c)→RowKit.Hid (w2.heap[w.heap.size+3]?=some d)→w2.heap.size≤w.heap.size+4→w.heap.size+4≤w2.heap.size→F w2):F ((((w.alloc a).alloc b).alloc c).alloc d):=pF fun w2 e h0 h1 h2 h3 hz=>h w2 e h0 h1 h2 h3 (Nat.le_of_eq hz) (Nat.le_of_eq hz.symm)
def bkV(e:Rat):Rat:=((1:Int):Rat) / aG e
def inQ(n:Nat)(e r:Rat):Rat:=if n % 2=1 then r / aG e else r
def inE(n:Nat)(e:Rat):List Rat:=jW plQ miQ (rtP n) (n / 2) (bkV e) (rtP n).length
def inW(n:Nat)(e:Rat):List Rat:=jW plQ miQ (sqP n) n (bkV e) (sqP n).length
def inD(n:Nat)(e r:Rat):List Rat:=br (bL miQ n) (scP (inW n e) r)
theorem BV{e:Rat}(h1:-1<e)(h2:e<1):aG e≠0:=fun h=>by
 unfold aG at h;have h0:(((1:Int):Rat)-e)≠0:=jx h2;rw [Rat.div_def] at h;have e1:((1:Int):Rat)=1:=rfl;rcases nXr.1 h with h3|h3
 ·rw [e1] at h3;grind
 ·exact h0 (by rw [←Rat.inv_inv (((1:Int):Rat)-e),h3,Rat.inv_zero])
theorem GH{e:Rat}{K:Nat}(h:Sz K e)(hK:1≤K):Sz (2*K+8) (bkV e):=((Sz.int (z:=1) dZ).div (jy h hK)).mono zo
theorem sM(n:Int)(s t:RH)(e r:Rat)(K:Nat)(w:World)(hs:aP w s e)(ht:aP w t r)(ze:Sz K e)(zr:Sz K r)(hK:1≤K)(hK2:K≤1000) :
  ak 99 [.int .i64 n,s.v,t.v] w PE (MkP (dP n e r) (inQ n.toNat e r) (inE n.toNat e) ((n.toNat % 2:Nat):Int) (inD n.toNat e r)):=by
 obtain ⟨sn,sa,sl,sc,sb,sm,sd⟩:=s;obtain ⟨tn,ta,tl,tc,tb,tm,td⟩:=t;have HX:=Hi (Ext.refl w);have HS:=Hi hs;have HT:=Hi ht;have ZE:=Hi ze;have ZR:=Hi zr;have HO:=Hi (jt (n:=n) (e:=e) (r:=r));obtain ⟨wv,hw⟩:∃ v,v=dP n e r:=⟨_,rfl⟩;rw [←hw] at HO ⊢;have HW:=Hi hw;clear hs ht ze zr hw;unfold ak;go_enter Tryz.func99,Tryz.ntmps99
 go_upto_region 1 with fail
 refine qz ?_;intro w1 hE B4 B5 B6 hz_w1 hr_w1;refine mV3 hE ?_ HX HS HT;clear HX HS HT;intro HX HS HT;replace b_B4:=bX3 B4;replace b_B5:=bX3 B5
 go_wp2_with fail
 refine cM (fZ n ⟨sn,sa,sl,sc,sb,sm,sd⟩ ⟨tn,ta,tl,tc,tb,tm,td⟩ e r _ HS.out HT.out) fun x2 w2 hE _=>?_
 refine mV6 hE ?_ B4 B5 B6 HX HS HT;clear B4 B5 B6 HX HS HT;intro B4 B5 B6 HX HS HT;have hs_w2:=hE.size;replace b_B4:=bX3 B4;replace b_B6:=bX3 B6;rw [←HW.out];by_cases h0:wv=0
 case neg =>
  have hb:((wv:Int) == 0)=false:=by rw [nXs];exact h0
  have HN:=Hi h0;go_wp2;refine bh (F:=fun W=>bodyPost _ _ _ _ _ W) B6.out rfl ?_;intro w3 T;replace HX:=Hi (T.ext HX.out zo);replace B6:=Hi (T.bx);clear T;replace b_B6:=bX3 B6;exact nXa (v:=PE (PH0,wv)) (by simp [results,Tryz.results99,go_sem,b_B6.1,PH0]) rfl ⟨(PH0,wv),rfl,HX.out,rfl,fun _=>rfl,fun h=>absurd h HN.out⟩
 obtain ⟨k1,k2,k3,k4,k5⟩:=HO.out h0;subst h0;obtain ⟨m,rfl⟩:∃ m:Nat,n=(m:Nat):=⟨n.toNat,zo⟩;have hm1:1≤m:=zo;have hm8:m≤8:=zo;have KD:=Hi (jx k4);have KN:=Hi (BV k3 k4);have ZW:=Hi (jy ZE.out hK);have ZB:=Hi (GH ZE.out hK);have ZQ:=Hi (AW hm8);have LQ:=Hi (ig hm8);have ZG:=Hi (AZ (n:=m) zo);have LG:=Hi (nle (nU m));have ZIn:Hid (SzL 1000000 (inW m e)):=Hi ((oD bO bP ZQ.out dZ ZB.out hm8 (sqP m).length LQ.out).mono (by have:=nXy (show (sqP m).length≤9 by have:=LQ.out;omega) (show 30+(60+((2*K+8)*8+1))+1≤16160 by omega);omega));have LIn:Hid ((inW m e).length≤m+1):=Hi (ek bO bP _ _ m _ LQ.out);have ZSc:=Hi (vq ZIn.out ZR.out);have LSc:=Hi (bN (inW m e) r LIn.out);have FM:=Hi (Bo (n:=m) zo);have LM:=Hi (ft m);obtain ⟨r2,hr2⟩:∃ r,r=m % 2:=⟨_,rfl⟩;obtain ⟨m2,hm2⟩:∃ k,k=m / 2:=⟨_,rfl⟩;have hrI:(m:Int).tmod 2=r2:=by have h2:(m:Int).tmod 2=((m % 2:Nat):Int):=rfl;omega
 have hrJ:(m:Int) % 2=r2:=by omega
 have hqI:(m:Int).tdiv 2=m2:=by have h2:(m:Int).tdiv 2=((m / 2:Nat):Int):=rfl;omega
 have hqJ:(m:Int) / 2=m2:=by omega
 have hr21:r2=0∨r2=1:=by omega
 have hm28:m2≤8:=zo;have HQ:Hid (inQ (m:Int).toNat e r=if r2=1 then r / aG e else r):=Hi (by rw [Int.toNat_natCast,hr2];rfl);have HE:Hid (inE (m:Int).toNat e=jW plQ miQ (rtP m) m2 (bkV e) (rtP m).length):=Hi (by rw [Int.toNat_natCast,hm2];rfl);have HD:Hid (inD (m:Int).toNat e r=br (bL miQ m) (scP (inW m e) r)):=Hi (by rw [Int.toNat_natCast];rfl);have HP:Hid (((m:Int).toNat % 2:Nat)=r2):=Hi (by rw [Int.toNat_natCast,hr2]);have LG2:Hid ((rtP m).length≤m2+1):=Hi (by rw [hm2];exact LG.out);clear hr2 hm2 HO k1 k2 k3 k4 k5
 go_wp2_with fail
 refine cM (iq ⟨sn,sa,sl,sc,sb,sm,sd⟩ e K _ HS.out ZE.out hK zo KD.out) fun x3 w3 hE G3=>?_
 refine mV4 hE ?_ B5 HT HX B6;clear B5 HT HX B6;intro B5 HT HX B6;have hs_w3:=hE.size
 go_upto_region 5 with fail
 refine nmA ?_;intro w4 hE B9 hz_w4 hr_w4;refine mV5 hE ?_ G3 B5 HT HX B6;clear G3 B5 HT HX B6;intro G3 B5 HT HX B6;replace b_B6:=bX3 B6;replace b_B9:=bX3 B9;have RC:Hid (aP w4 x3 (aG e)):=Hi (G3.out.raw ZW.out zo);clear G3;clear HS
 (try clear b_B4);(try clear B4)
 obtain ⟨cn,ca,cl,cc,cb,cm,cd⟩:=x3;obtain ⟨b9,hb9⟩:∃ b9,b9=w3.heap.size:=⟨_,rfl⟩;have hb9w:w.heap.size+2<b9:=zo;rw [←hb9] at B9 ⊢;clear hb9 b_B9;replace b_B9:=bX3 B9;have Z1:Hid (Sz 1 ((1:Int):Rat)):=Hi (Sz.int dZ);have hb9l:b9<w4.heap.size:=b_B9.2.2;refine aF [(7,5)] _ (by simp only [gI,kH,List.push_toArray,List.cons_append,List.nil_append];exact rfl) (by intro c a d v w h;cases d <;> exact h) 7 (fun opIx=>match opIx with
  | 0=>sR (((1:Int):Rat))
  | 2=>.spec (RH) (default) (fun s=>.tuple #[s.v,.int .i64 0]) (fun x w'=>aA w' x (bkV e))
  | 6=>.alloc 34 #[.bool false,.slice none 0 0,.slice none 0 0]
  | _=>.quiet) (fun|2=>[0]|_=>[]) kZ kZ kZ (fun w0 he0 hz0 hc0 hf0=>?_)
 replace he0:=Hi he0;simp only [pT];refine qQ ?_;refine wps he0 (fun w1 hW hG=>?_) fun x20=>?_
 ·exact spc [.int .i64 1] Tryz.func84 (aL 1 _ dZ dZ)
 refine qZ ?_;refine wps he0 (fun w1 hW hG=>?_) fun x21=>?_
 ·have g20:=gS (hG 0 dZ);exact spc [x20.v,RH.v ⟨cn,ca,cl,cc,cb,cm,cd⟩] Tryz.func121 (bZ x20 _ _ _ _ (g20.raw Z1.out dZ) (RC.out.ext hW) KN.out)
 refine qZ ?_;refine aQ rfl rfl (fun w=>by simp [execOp,go_sem,ptr]) (fun b22 hb22 hl22=>?_);refine qZ ?_;refine aj ?_;intro w5 hI;have hE:=he0.out.trans hI.ext;have G21:=gT (hI.facts 2);have A22:Hid (w5.heap[b22]?=some (.cells #[.bool false,.slice none 0 0,.slice none 0 0] 34 (0,0))):=hI.facts 6;rw [hz0] at hl22;clear hI he0 hz0 hc0 hf0;refine mV6 hE ?_ B9 B5 HT HX B6 RC;clear B9 B5 HT HX B6 RC;intro B9 B5 HT HX B6 RC;replace b_A22:=bX3 A22;simp only [pD,ptr];have RB:Hid (aP w5 x21 (bkV e)):=Hi (G21.out.raw ZB.out zo);clear G21;obtain ⟨bn,ba,bl,bc,bb,bm,bd⟩:=x21
 go_upto_region 6 with fail
 refine aU A22.out rfl ?_;intro w6 T;replace HX:=Hi (T.ext HX.out zo);replace HT:=Hi (HT.out.keep T.keep);replace B5:=Hi (T.rest _ _ zo B5.out);replace B6:=Hi (T.rest _ _ zo B6.out);replace B9:=Hi (T.rest _ _ zo B9.out);replace RC:=Hi (RC.out.keep T.keep);replace A22:=Hi (T.bx);replace RB:=Hi (RB.out.keep T.keep);clear T;replace b_A22:=bX3 A22;refine wpG 5 (fun opIx=>match opIx with
  | 1=>.spec (SH) (default) (SH.v) (fun x w'=>aD w' x (sqP m))
  | 4=>.spec (SH) (default) (SH.v) (fun x w'=>aD w' x (inW m e))
  | _=>.quiet) (fun|4=>[1]|_=>[]) fun w0 he0 hz0 hc0 hf0=>?_
 refine wps he0 (fun w1 hW hG=>?_) fun x30=>?_
 ·exact spc [.int .i64 (m:Nat)] Tryz.func161 (lX m _ hm1 hm8)
 refine qZ ?_;refine wps he0 (fun w1 hW hG=>?_) fun x31=>?_
 ·have g30:=gS (hG 1 dZ);exact spc [x30.v,.int .i64 (m:Nat),RH.v ⟨bn,ba,bl,bc,bb,bm,bd⟩] Tryz.func162 ((jO x30 (sqP m) ⟨bn,ba,bl,bc,bb,bm,bd⟩ (bkV e) m 60 (2*K+8) _ g30 (RB.out.ext hW) LQ.out hm8 ZQ.out dZ dZ zo zo ZB.out).weak (fun _ _ _ h=>h.can))
 refine qZ ?_;refine aj ?_;intro w7 hI;have hE:=he0.out.trans hI.ext;have G31:=gT (hI.facts 4);clear hI he0 hz0 hc0 hf0;refine mV8 hE ?_ HX HT B5 B6 B9 RC A22 RB;clear HX HT B5 B6 B9 RC A22 RB;intro HX HT B5 B6 B9 RC A22 RB;replace b_B5:=bX3 B5;replace b_A22:=bX3 A22;simp only [pD];obtain ⟨wa,wn,wc⟩:=x31;have LW:=Hi G31.out;have hwn:=LW.out.len;simp only at hwn;have hwn9:wn≤9:=by have:=LIn.out;omega
 clear G31 hwn;simp only [SH.v]
 go_upto_region 7 with fail
 have hb22l:b22<w7.heap.size:=b_A22.2.2;refine ag 18 (fun opIx=>match opIx with
  | 1=>sR (r)
  | 3=>.spec (SH) (default) (SH.v) (fun x w'=>aD w' x (rtP m))
  | 7=>.spec (SH) (default) (SH.v) (fun x w'=>aD w' x (inE (m:Int).toNat e))
  | 11=>.spec (SH) (default) (SH.v) (fun x w'=>aD w' x (bL miQ m))
  | 14=>.spec (SH) (default) (SH.v) (fun x w'=>aD w' x (scP (inW m e) r))
  | 15=>.spec (SH) (default) (SH.v) (fun x w'=>aD w' x (inD (m:Int).toNat e r))
  | 17=>.alloc 64 #[.bool false,.slice none 0 0,.slice none 0 0,.slice none 0 0,.int .i64 0,.slice none 0 0]
  | _=>.quiet) (fun|7=>[3]|15=>[11,14]|_=>[]) kZ kZ (fun w0 he0 hz0 hc0 hf0=>?_)
 replace he0:=Hi he0;simp only [pT]
 repeat (refine wpq fun K h=>?_;go_big_quiet_op;refine h _ ?_;clear h K;(try simp only [hrI,hrJ,hqI,hqJ]))
 refine wps he0 (fun w1 hW hG=>?_) fun x40=>?_
 ·exact spc [RH.v ⟨tn,ta,tl,tc,tb,tm,td⟩] Tryz.func78 (cG ⟨tn,ta,tl,tc,tb,tm,td⟩ r _ (HT.out.ext hW))
 simp only [pS]
 repeat (refine wpq fun K h=>?_;go_big_quiet_op;refine h _ ?_;clear h K;(try simp only [hrI,hrJ,hqI,hqJ]))
 refine wps he0 (fun w1 hW hG=>?_) fun x41=>?_
 ·exact spc [.int .i64 (m:Nat)] Tryz.func163 (vM m _ hm1 hm8)
 simp only [pS]
 repeat (refine wpq fun K h=>?_;go_big_quiet_op;refine h _ ?_;clear h K;(try simp only [hrI,hrJ,hqI,hqJ]))
 refine wps he0 (fun w1 hW hG=>?_) fun x42=>?_
 ·have g41:=gS (hG 3 dZ);exact spc [x41.v,.int .i64 (m2:Nat),RH.v ⟨bn,ba,bl,bc,bb,bm,bd⟩] Tryz.func162 ((jO x41 (rtP m) ⟨bn,ba,bl,bc,bb,bm,bd⟩ (bkV e) m2 1 (2*K+8) _ g41 (RB.out.ext hW) LG2.out hm28 ZG.out dZ dZ zo zo ZB.out).weak (fun _ _ _ h=>by rw [HE.out];exact h.can))
 simp only [pS]
 repeat (refine wpq fun K h=>?_;go_big_quiet_op;refine h _ ?_;clear h K;(try simp only [hrI,hrJ,hqI,hqJ]))
 refine wps he0 (fun w1 hW hG=>?_) fun x43=>?_
 ·exact spc [.int .i64 (m:Nat)] Tryz.func117 (dC m _ zo)
 simp only [pS]
 repeat (refine wpq fun K h=>?_;go_big_quiet_op;refine h _ ?_;clear h K;(try simp only [hrI,hrJ,hqI,hqJ]))
 refine wps he0 (fun w1 hW hG=>?_) fun x44=>?_
 ·exact spc [.slice wa wn wc,RH.v ⟨tn,ta,tl,tc,tb,tm,td⟩] Tryz.func102 ((bK wa wn wc (inW m e) ⟨tn,ta,tl,tc,tb,tm,td⟩ r _ ((LW.out.ext hW).raw ZIn.out dZ) (HT.out.ext hW) zo (ZIn.out.mono dZ) (ZR.out.mono zo)).weak (fun _ _ _ h=>h.can))
 simp only [pS]
 repeat (refine wpq fun K h=>?_;go_big_quiet_op;refine h _ ?_;clear h K;(try simp only [hrI,hrJ,hqI,hqJ]))
 refine wps he0 (fun w1 hW hG=>?_) fun x45=>?_
 ·have g43:=gS (hG 11 dZ);have g44:=gS (hG 14 dZ);exact spc [x43.v,x44.v] Tryz.func119 ((eG x43.a x44.a x43.n x43.c x44.n x44.c _ _ _ (g43.raw FM.out.sz dZ) (g44.raw ZSc.out zo) (by have h:=g43.len;have h2:=LM.out;omega) (by have h:=g44.len;have h2:=LSc.out;omega) (FM.out.sz.mono dZ) (ZSc.out.mono zo)).weak (fun _ _ _ h=>by rw [HD.out];exact h.can))
 simp only [pS]
 repeat (refine wpq fun K h=>?_;go_big_quiet_op;refine h _ ?_;clear h K;(try simp only [hrI,hrJ,hqI,hqJ]))
 refine aQ rfl rfl (fun w=>by simp [execOp,go_sem,ptr]) (fun b46 hb46 hl46=>?_);simp only [pS]
 repeat (refine wpq fun K h=>?_;go_big_quiet_op;refine h _ ?_;clear h K;(try simp only [hrI,hrJ,hqI,hqJ]))
 refine aj ?_;intro w8 hI;have hE:=he0.out.trans hI.ext;have G40:=gT (hI.facts 1);have G42:=gT (hI.facts 7);have G45:=gT (hI.facts 15);have A46:Hid (w8.heap[b46]?=some (.cells #[.bool false,.slice none 0 0,.slice none 0 0,.slice none 0 0,.int .i64 0,.slice none 0 0] 64 (0,0))):=hI.facts 17;rw [hz0] at hl46;clear hI he0 hz0 hc0 hf0;refine mV6 hE ?_ HX B5 B6 B9 RC HT;clear HX B5 B6 B9 RC HT;intro HX B5 B6 B9 RC HT;replace b_A46:=bX3 A46;simp only [pD,ptr];have AE1:=Hi (G42.out.apz A46.out);have AD1:=Hi (G45.out.apz A46.out);have AE2:=Hi (G42.out.apz B6.out);have AD2:=Hi (G45.out.apz B6.out);obtain ⟨ea,en,ec⟩:=x42;obtain ⟨da,dn,dc⟩:=x45;have LE:=G42;have LD:=G45;clear G42 G45;clear LW;simp only [SH.v]
 go_upto_region 8 with fail
 refine bh A46.out rfl ?_;intro w9 T;have LE9:=Hi (LE.out.puta AE1.out T);have LD9:=Hi (LD.out.puta AD1.out T);clear LE LD;replace HX:=Hi (T.ext HX.out zo);replace HT:=Hi (HT.out.keep T.keep);replace B5:=Hi (T.rest _ _ zo B5.out);replace B6:=Hi (T.rest _ _ zo B6.out);replace B9:=Hi (T.rest _ _ zo B9.out);replace RC:=Hi (RC.out.keep T.keep);replace G40:=Hi (G40.out.keep T.keep);replace A46:=Hi (T.bx);clear T;replace b_B5:=bX3 B5;replace b_B6:=bX3 B6;replace b_B9:=bX3 B9;replace b_A46:=bX3 A46;rcases hr21 with hr0|hr0
 ·subst hr0;have HQ2:Hid (inQ (m:Int).toNat e r=r):=Hi (by rw [HQ.out,if_neg dZ]);go_wp2;refine bh (F:=fun W=>bodyPost _ _ _ _ _ W) B6.out rfl ?_;intro w10 T;have LE2:=Hi (LE9.out.puta AE2.out T);have LD2:=Hi (LD9.out.puta AD2.out T);clear LE9;clear LD9;replace HX:=Hi (T.ext HX.out zo);replace B6:=Hi (T.bx);replace G40:=Hi (G40.out.keep T.keep);clear T;replace b_B6:=bX3 B6;exact nXa (v:=PE (⟨x40,⟨ea,en,ec⟩,((0:Nat):Int),⟨da,dn,dc⟩⟩,0)) (by simp [results,Tryz.results99,go_sem,b_B6.1]) rfl ⟨(⟨x40,⟨ea,en,ec⟩,((0:Nat):Int),⟨da,dn,dc⟩⟩,0),rfl,HX.out,rfl,fun h=>absurd rfl h,fun _=>⟨by first|(rw [HQ2.out];exact G40.out)|(have h:=HQ2.out;simp only [Int.toNat_natCast] at h;rw [h];exact G40.out),LE2.out,by first|rfl|rw [HP.out],LD2.out⟩⟩
 subst hr0;have HQ2:Hid (inQ (m:Int).toNat e r=r / aG e):=Hi (by rw [HQ.out,if_pos rfl])
 go_wp2_with fail
 refine cM (bZ ⟨tn,ta,tl,tc,tb,tm,td⟩ ⟨cn,ca,cl,cc,cb,cm,cd⟩ r (aG e) _ HT.out RC.out KN.out) fun x50 w50 hE G50=>?_
 refine mV5 hE ?_ LE9 LD9 A46 HX B6;clear LE9 LD9 A46 HX B6;intro LE9 LD9 A46 HX B6;replace b_A46:=bX3 A46
 go_upto_region 10 with fail
 refine zU A46.out rfl ?_;intro w11 T;have LE10:=Hi (LE9.out.puta AE1.out T);have LD10:=Hi (LD9.out.puta AD1.out T);have G51:=Hi (G50.out.keep T.keep);clear G50;clear LE9;clear LD9;replace HX:=Hi (T.ext HX.out zo);replace B6:=Hi (T.rest _ _ zo B6.out);replace A46:=Hi (T.bx);clear T;replace b_B6:=bX3 B6;replace b_A46:=bX3 A46;go_wp2;refine bh (F:=fun W=>bodyPost _ _ _ _ _ W) B6.out rfl ?_;intro w12 T;have LE2:=Hi (LE10.out.puta AE2.out T);have LD2:=Hi (LD10.out.puta AD2.out T);clear LE10 LD10;replace HX:=Hi (T.ext HX.out zo);replace B6:=Hi (T.bx);replace G51:=Hi (G51.out.keep T.keep);clear T;replace b_B6:=bX3 B6;exact nXa (v:=PE (⟨x50,⟨ea,en,ec⟩,((1:Nat):Int),⟨da,dn,dc⟩⟩,0)) (by simp [results,Tryz.results99,go_sem,b_B6.1]) rfl ⟨(⟨x50,⟨ea,en,ec⟩,((1:Nat):Int),⟨da,dn,dc⟩⟩,0),rfl,HX.out,rfl,fun h=>absurd rfl h,fun _=>⟨by first|(rw [HQ2.out];exact G51.out)|(have h:=HQ2.out;simp only [Int.toNat_natCast] at h;rw [h];exact G51.out),LE2.out,by first|rfl|rw [HP.out],LD2.out⟩⟩
theorem ug(n:Int)(s t u:RH)(w:World)(h2:n≠2)(h4:n≠4) :
  ak 55 [.int .i64 n,s.v,t.v,u.v] w PE (fun x _=>x.2=12∧x.1=PH0):=by
 obtain ⟨sn,sa,sl,sc,sb,sm,sd⟩:=s;obtain ⟨tn,ta,tl,tc,tb,tm,td⟩:=t;obtain ⟨un,ua,ul,uc,ub,um,ud⟩:=u;have HX:=Hi (Ext.refl w);have hb2:(n != 2)=true:=bne_iff_ne.2 h2;have hb4:(n != 4)=true:=bne_iff_ne.2 h4

 unfold ak;go_enter Tryz.func55,Tryz.ntmps55
 go_upto_region 1 with fail
 refine pF ?_;intro w1 hE hB0 hB1 hB2 hB3 hz;have hz_w1:=nle hz;have hr_w1:=nle hz.symm;clear hz;replace HX:=hE.tr HX;clear hB0;clear hB1;clear hB2;have B8:=Hi hB3;clear hB3;replace b_B8:=bX3 B8;go_wp2;refine bh (F:=fun W=>bodyPost _ _ _ _ _ W) B8.out rfl ?_;intro w2 T;replace HX:=Hi (T.ext HX.out zo);replace B8:=Hi (T.bx);clear T;replace b_B8:=bX3 B8;exact nXa (v:=PE (PH0,12)) (by simp [results,Tryz.results55,go_sem,b_B8.1,PH0]) rfl ⟨(PH0,12),rfl,HX.out,rfl,rfl⟩
theorem lH(ao:Option Addr)(n cap:Nat)(l:List Rat)(S D:Nat)(w:World)(h:ct w ⟨ao,n,cap⟩ l)(hn:n≤1000000)(hS:1≤S)(hS2:S≤30000000)(hD:0<D)(hl:D<W32 ^ S)(hf:∀ x ∈ l,Fr S D x) :
  ak 77 [.slice ao n cap] w SH.v (fun x w'=>eD w.heap.size w' x (av l)):=by
 obtain ⟨i0,hi0,hz0,hz1,hz2⟩:=info_parts jk;have HX:=Hi (Ext.refl w);have LP:=Hi h;have hle:=h.le;have hmx:=h.max;have Hlen:=Hi h.len;simp only at hle hmx Hlen;clear h;unfold ak;go_enter Tryz.func77,Tryz.ntmps77
 go_wp2_with fail
 refine cM (nS ao n cap l _ (LP.out.ext HX.out)) fun x2 w2 hE G2=>?_
 replace HX:=hE.tr HX;have hs_w2:=hE.size;obtain ⟨q1,q2⟩:=G2.out;obtain ⟨P,hP⟩:∃ P,P=(tz l).length:=⟨_,rfl⟩;obtain ⟨p,hp⟩:∃ p,p=tz l:=⟨_,rfl⟩;have LQ:Hid (ct w ⟨ao,P,cap⟩ p):=Hi (by rw [hp,q1,hP];exact LP.out.take q2);have HPl:Hid (p.length=P):=Hi (by rw [hp,hP]);have HSL:Hid (av l=p.map (· / bA p)):=Hi (by rw [hp];rfl);have HM0:Hid (p≠[]→bA p≠0):=Hi (fun h0=>by
  rw [hp] at h0 ⊢;have:=bM h0;exact fun h1=>by rw [show aM l=0 from h1] at this;exact absurd this Rat.lt_irrefl)
 have HFp:Hid (∀ x ∈ p,Fr S D x):=Hi (fun x hx=>hf x (by rw [hp,q1] at hx;exact List.mem_of_mem_take hx));have hPn:P≤n:=zo;rw [←hP];clear hP hp q1 q2 G2 hf Hlen;clear LP
 go_wp2_with fail
 refine cM (aL 0 _ dZ dZ) fun x3 w3 hE G3=>?_
 replace HX:=hE.tr HX;have hs_w3:=hE.size
 go_upto_region 3 with fail
 refine nmA ?_;intro w4 hE B4 hz_w4 hr_w4;refine mV2 hE ?_ G3 HX;clear G3 HX;intro G3 HX;obtain ⟨b4,hb4⟩:∃ b4,b4=w3.heap.size:=⟨_,rfl⟩;have hb4w:w.heap.size≤b4:=zo;rw [←hb4] at B4 ⊢;clear hb4;go_wp2
 go_loopg [18] P (fun g v wr=>∃ (i:Nat) (m:RH),i+g=P∧v=.int .i64 (i:Nat)∧Ext w wr∧wr.heap[b4]?=some (.cells #[.bool m.neg,.slice m.a m.n m.c,.slice m.b m.m m.d] 34 (0,0))∧aA wr m (bA (p.take i)))
 case atStart=>exact ⟨0,x3,zo,rfl,HX.out,B4.out,G3.out⟩
 case round =>
  obtain ⟨i,m,hi,rfl,g1,g4,g5⟩:=hrel;obtain ⟨mn,ma,ml,mc,mb,mm,md⟩:=m;clear HX B4 G3;have HX:=Hi g1;have B4:=Hi g4;have HM2:=Hi g5;clear g1 g4 g5;replace b_B4:=bX3 B4;by_cases h0:gk=0
  case neg =>
   have hin:(i:Int)<P:=zo;obtain ⟨b,off,r,hao,hbl,⟨hc1,hc2,hc3⟩,hPc⟩:=(LQ.out.ext HX.out).cells' (k:=i) zo;obtain ⟨rneg,ra,rn,rc,rb,rm,rd⟩:=r;simp only at hc1 hc2 hc3;have HC:=Hi hPc;clear hPc;have HAO:=Hi hao;subst hao
   go_upto_region 6 with fail
   clear hc1 hc2 hc3;refine nmA ?_;intro w6 hE B6 hz_w6 hr_w6;refine mV4 hE ?_ HX B4 HM2 HC;clear HX B4 HM2 HC;intro HX B4 HM2 HC;replace b_B4:=bX3 B4;have Zm:Hid (Sz S (bA (p.take i))):=Hi ((gD fun x hx=>HFp.out x (List.mem_of_mem_take hx)).sz hS hD hl);have Zc:Hid (Sz S (p.getD i 0)):=Hi ((ew hS hD hl HFp.out).at (by rw [HPl.out];omega));obtain ⟨c,hc⟩:∃ c,c=p.getD i 0:=⟨_,rfl⟩;obtain ⟨a,ha⟩:∃ a,a=bA (p.take i):=⟨_,rfl⟩;have HMs:Hid (bA (p.take (i+1))=gU a c):=Hi (by rw [iO (by rw [HPl.out];omega),eU,ha,hc]);rw [←hc] at HC Zc;rw [←ha] at HM2 Zm;clear hc ha
   go_wp2_with fail
   refine cM (cW ⟨mn,ma,ml,mc,mb,mm,md⟩ a _ (HM2.out.raw Zm.out zo)) fun x7 w7 hE _=>?_
   refine mV5 hE ?_ B6 HX B4 HM2 HC;clear B6 HX B4 HM2 HC;intro B6 HX B4 HM2 HC;replace b_B4:=bX3 B4;replace b_B6:=bX3 B6;have HZ:=Hi (eO a);obtain ⟨cc,hcc⟩:∃ cc,cc=dq a 0:=⟨_,rfl⟩;rw [←hcc] at HZ ⊢;clear hcc;by_cases hz:cc=0
   case pos =>
    subst hz;have HV:Hid (gU a c=c.abs):=Hi (by unfold gU;rw [if_pos (HZ.out.1 rfl)]);clear HZ
    go_wp2_with fail
    refine cM (kQ ⟨rneg,ra,rn,rc,rb,rm,rd⟩ c _ HC.out) fun x8 w8 hE G8=>?_
    refine mV2 hE ?_ HX B4;clear HX B4;intro HX B4;replace b_B4:=bX3 B4
    go_upto_region 13 with fail
    refine aU B4.out rfl ?_;intro y1 T;replace HX:=Hi (T.ext HX.out zo);replace B4:=Hi (T.bx);replace G8:=Hi (G8.out.keep T.keep);clear T;have HMn:Hid (aA y1 x8 (bA (p.take (i+1)))):=Hi (by rw [HMs.out,HV.out];exact G8.out);go_wp2
    go_roundg (gk-1)
    case measure=>omega
    case rel=>exact ⟨i+1,x8,zo,by go_num,HX.out,B4.out,HMn.out⟩
   have hzb:(cc == 0)=false:=by simpa using hz
   have Ha0:Hid (a≠0):=Hi (fun h=>hz (HZ.out.2 h));clear hz HZ;by_cases hb0:c=0
   case pos =>
    have HV:Hid (gU a c=a):=Hi (by unfold gU;rw [if_neg Ha0.out,if_pos hb0]);have Hb0:=Hi hb0;clear hb0
    go_wp2_with fail
    refine cM (po ⟨mn,ma,ml,mc,mb,mm,md⟩ ⟨rneg,ra,rn,rc,rb,rm,rd⟩ a c _ (HM2.out.raw Zm.out zo) HC.out Hb0.out) fun x8 w8 hE _=>?_
    refine mV3 hE ?_ HM2 HX B4;clear HM2 HX B4;intro HM2 HX B4
    go_upto_region 9 with fail
    refine fo ?_;intro y1 hE hB0 hz;have hz_y1:=nle hz;have hr_y1:=nle hz.symm;clear hz;refine mV3 hE ?_ HM2 HX B4;clear HM2 HX B4;intro HM2 HX B4;clear hB0;go_wp2
    go_roundg (gk-1)
    case measure=>omega
    case rel=>exact ⟨i+1,⟨mn,ma,ml,mc,mb,mm,md⟩,zo,by go_num,HX.out,B4.out,by rw [HMs.out,HV.out];exact HM2.out⟩
   have Hb0:=Hi hb0;clear hb0;obtain ⟨q,hq⟩:∃ q,q=a / c:=⟨_,rfl⟩;have Hq0:Hid (q≠0):=Hi (fun h=>by
    have h1:=dJ (a:=a) Hb0.out;rw [←hq,h] at h1;exact Ha0.out (by rw [←h1];grind))
   have ZQ:Hid (Sz (S+S) q):=Hi (by rw [hq];exact Zm.out.div Zc.out);have HV:Hid (gU a c=(a / (q.num:Rat)).abs):=Hi (by unfold gU;rw [if_neg Ha0.out,if_neg Hb0.out,←hq])
   go_wp2_with fail
   refine cM (bZ ⟨mn,ma,ml,mc,mb,mm,md⟩ ⟨rneg,ra,rn,rc,rb,rm,rd⟩ a c _ (HM2.out.raw Zm.out zo) HC.out Hb0.out) fun x8 w8 hE G8=>?_
   refine mV3 hE ?_ HM2 HX B4;clear HM2 HX B4;intro HM2 HX B4;rw [←hq] at G8;clear hq
   go_upto_region 9 with fail
   refine nmA ?_;intro y1 hE B7 hz_y1 hr_y1;refine mV4 hE ?_ G8 HM2 HX B4;clear G8 HM2 HX B4;intro G8 HM2 HX B4;replace b_B7:=bX3 B7
   go_wp2_with fail
   refine cM (ki x8 q _ G8.out) fun x9 w9 hE G9=>?_
   refine mV3 hE ?_ HM2 HX B4;clear HM2 HX B4;intro HM2 HX B4;obtain ⟨x9,x0⟩:=x9;have G9a:=Hi G9.out.1;clear G9;simp only [PT]
   go_upto_region 11 with fail
   refine eS ?_;intro y2 hE hB0 hB1 hz;have hz_y2:=nle hz;have hr_y2:=nle hz.symm;clear hz;refine mV4 hE ?_ HM2 HX B4 G9a;clear HM2 HX B4 G9a;intro HM2 HX B4 G9a;replace b_B4:=bX3 B4;have B8:=Hi hB0;clear hB0;replace b_B8:=bX3 B8;clear hB1
   go_wp2_with fail
   refine cM (bZ ⟨mn,ma,ml,mc,mb,mm,md⟩ x9 a (q.num:Rat) _ (HM2.out.raw Zm.out zo) (G9a.out.raw ZQ.out.numz zo) (nm Hq0.out)) fun x10 w10 hE G10=>?_
   refine mV2 hE ?_ HX B4;clear HX B4;intro HX B4;replace b_B4:=bX3 B4
   go_upto_region 12 with fail
   refine aU B4.out rfl ?_;intro y3 T;replace HX:=Hi (T.ext HX.out zo);replace B4:=Hi (T.bx);replace G10:=Hi (G10.out.keep T.keep);clear T;replace b_B4:=bX3 B4
   go_wp2_with fail
   refine cM (kQ x10 _ _ (G10.out.raw (Zm.out.div ZQ.out.numz) zo)) fun x11 w11 hE G11=>?_
   refine mV2 hE ?_ HX B4;clear HX B4;intro HX B4;replace b_B4:=bX3 B4
   go_upto_region 13 with fail
   refine aU B4.out rfl ?_;intro y4 T;replace HX:=Hi (T.ext HX.out zo);replace B4:=Hi (T.bx);replace G11:=Hi (G11.out.keep T.keep);clear T;have HMn:Hid (aA y4 x11 (bA (p.take (i+1)))):=Hi (by rw [HMs.out,HV.out];exact G11.out);go_wp2
   go_roundg (gk-1)
   case measure=>omega
   case rel=>exact ⟨i+1,x11,zo,by go_num,HX.out,B4.out,HMn.out⟩
  subst h0;obtain rfl:i=P:=by omega
  have hin:¬ (i:Int)<i:=zo;have HM3:Hid (aA wr ⟨mn,ma,ml,mc,mb,mm,md⟩ (bA p)):=Hi (by
   have:=HM2.out;rw [nXm (by rw [HPl.out];exact nXe _)] at this;exact this)
  clear HM2;have hXr:=HX.out.size;have hb4r:b4<wr.heap.size:=b_B4.2.2
  go_upto_region 15 with (refine aB rfl (.tmp 50) (.tmp 50) 24 rfl 34 i0 (RH.v default) 3 Tryz.underlying24 hi0 hz0 hz1 _ _ i rfl rfl zo zo (by rw [hz2];omega) zo ?_;intro y1 hnew hE)
  have KB:=Hi (RBk.make rfl hnew);clear hnew;refine mV3 hE ?_ HX B4 HM3;clear HX B4 HM3;intro HX B4 HM3;obtain ⟨L,hL⟩:∃ L,L=wr.heap.size:=⟨_,rfl⟩;have hLw:w.heap.size≤L:=zo;have hL4:b4≠L:=zo;rw [←hL] at KB ⊢;clear hL;go_wp2
  go_loopg [54] i (fun g v wr=>∃ (j:Nat) (rs:List RH),j+g=i∧v=.int .i64 (j:Nat)∧Ext w wr∧wr.heap[b4]?=some (.cells #[.bool mn,.slice ma ml mc,.slice mb mm md] 34 (0,0))∧aA wr ⟨mn,ma,ml,mc,mb,mm,md⟩ (bA p)∧RBk wr L rs #[]∧rs.length=i∧iZ wr rs ((p.take j).map (· / bA p)))
  case atStart=>exact ⟨0,_,zo,rfl,HX.out,B4.out,HM3.out,KB.out,by simp,fun j hj=>by simp at hj⟩
  case round =>
   obtain ⟨j,rs,hj,rfl,g1,g4,g5,g6,g7,g8⟩:=hrel;clear HX B4 HM3 KB;have HX:=Hi g1;have B4:=Hi g4;have HM3:=Hi g5;have KB:=Hi g6;have HRl:=Hi g7;have PC:=Hi g8;clear g1 g4 g5 g6 g7 g8;by_cases h0:gk=0
   case neg =>
    have hin2:(j:Int)<i:=zo;obtain ⟨b,off,r,hao,hbl,⟨hc1,hc2,hc3⟩,hPc⟩:=(LQ.out.ext HX.out).cells' (k:=j) zo;obtain ⟨rneg,ra,rn,rc,rb,rm,rd⟩:=r;simp only at hc1 hc2 hc3;have HC:=Hi hPc;clear hPc;subst hao
    go_upto_region 18 with fail
    clear hc1 hc2 hc3;refine nmA ?_;intro y6 hE B9 hz_y6 hr_y6;refine mV6 hE ?_ HX B4 HM3 KB PC HC;clear HX B4 HM3 KB PC HC;intro HX B4 HM3 KB PC HC;replace b_B4:=bX3 B4;replace b_B9:=bX3 B9;have Zm:Hid (Sz S (bA p)):=Hi ((gD HFp.out).sz hS hD hl);have Hm0:Hid (bA p≠0):=Hi (HM0.out fun h=>by have:=HPl.out;rw [h] at this;simp at this;omega)
    go_wp2_with fail
    refine cM (bZ ⟨rneg,ra,rn,rc,rb,rm,rd⟩ ⟨mn,ma,ml,mc,mb,mm,md⟩ (p.getD j 0) (bA p) _ HC.out (HM3.out.raw Zm.out zo) Hm0.out) fun x7 w7 hE G7=>?_
    refine mV5 hE ?_ HX B4 HM3 KB PC;clear HX B4 HM3 KB PC;intro HX B4 HM3 KB PC
    try clear f_KB l_KB
    have f_KB:=ah KB.out;have l_KB:=(nXb.1 KB.out).1;obtain ⟨f1,f2,f3⟩:=RBk.at (re:=#[]) KB.out (k:=j) (by rw [HRl.out];omega)
    go_upto_region 19 with fail
    refine dQ (k:=j) KB.out rfl (by rw [HRl.out];omega) ?_;intro y8 T;clear f1 f2 f3;replace HX:=Hi (T.ext HX.out zo);replace B4:=Hi (T.rest _ _ zo B4.out);replace HM3:=Hi (HM3.out.keep T.keep);replace PC:=Hi (PC.out.keep T.keep);replace KB:=Hi (T.bx);replace G7:=Hi (G7.out.keep T.keep);clear T;replace PC:=Hi (PC.out.snoc (x:=x7) (i:=j) (by rw [nXl,nXk,HPl.out];omega) (by rw [HRl.out];omega) G7.out);have HRp:Hid ((p.take j).map (· / bA p)++[p.getD j 0 / bA p]=(p.take (j+1)).map (· / bA p)):=Hi (by rw [iO (by rw [HPl.out];omega),List.map_append];rfl);rw [HRp.out] at PC;go_wp2
    go_roundg (gk-1)
    case measure=>omega
    case rel=>exact ⟨j+1,_,zo,by go_num,HX.out,B4.out,HM3.out,KB.out,by rw [nXo];exact HRl.out,PC.out⟩
   subst h0;obtain rfl:j=i:=by omega
   have hin:¬ (j:Int)<j:=zo;have HO:Hid (bS wr L (av l)):=Hi (by
    have:=PC.out;rw [nXm (by rw [HPl.out];exact nXe _),←HSL.out] at this;exact this.row KB.out HRl.out (by rw [HSL.out,nXl,HPl.out]))
   go_wp2
   go_ret
   exact ⟨⟨some ⟨L,0,none⟩,j,j⟩,rfl,HX.out,L,hLw,by rw [HSL.out,nXl,HPl.out],HO.out⟩
theorem o6(ao:Option Addr)(n cap:Nat)(l:List Rat)(S D:Nat)(w:World)(h:aD w ⟨ao,n,cap⟩ l)(hn:n≤1000000)(hS:1≤S)(hS2:S≤30000000)(hD:0<D)(hl:D<W32 ^ S)(hf:∀ x ∈ l,Fr S D x) :
  ak 77 [.slice ao n cap] w SH.v (fun x w'=>eD w.heap.size w' x (av l)):=lH ao n cap l S D w (h.raw (ew hS hD hl hf) zo) hn hS hS2 hD hl hf
end Go.Proofs.YtafgmcimcbhhjaaGreat
