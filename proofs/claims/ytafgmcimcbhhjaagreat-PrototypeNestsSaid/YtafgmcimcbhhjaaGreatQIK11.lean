/- Package prototype: Inverse, and Elliptic for other orders. -/
import Derived.Test.YtafgmcimcbhhjaaGreatQIK10
import Derived.Test.YtafgmcimcbhhjaaGreatQIK9
set_option linter.unusedVariables false
set_option maxHeartbeats 16000000
set_option maxRecDepth 8000
namespace Go.Proofs.YtafgmcimcbhhjaaGreat
open Go.RowKit Go.Front Go.Num Stab
attribute [local go_sem] XW.cell XW.frozen
def ApB(s:SH)(B:Nat):Prop:=s.n=0∨∀ o,s.a≠some ⟨B,o,none⟩
theorem aG.apz{w:World}{s:SH}{qs:List Rat}{B:Nat}{T:TypeId}(h:aG w s qs)(hB:w.heap[B]?=some (.cells #[.bool false,.slice none 0 0,.slice none 0 0,.slice none 0 0,.int .i64 0,.slice none 0 0] T (0,0))):ApB s B:=by
 rcases Nat.eq_zero_or_pos s.n with h0|h0
 ·exact Or.inl h0
 right
 intro o ho;obtain ⟨sa,sn,sc⟩:=s;simp only at ho h0;obtain ⟨b,off,r,e,⟨c1,c2,c3⟩,hc⟩:=h.at (k:=0) h0;rw [ho] at e;simp only [Option.some.injEq,Addr.mk.injEq] at e;obtain ⟨rfl,rfl,-⟩:=e;rw [Nat.zero_mul,Nat.add_zero,ab hB] at c1 c3;rcases o with _|_|_|_|_|_|o <;> simp at c1 c3
 obtain ⟨rneg,ra,rn,rc,rb,rm,rd⟩:=r;simp only at c3;have h1:=hc.2.2.len;simp only at h1;rw [←c3.2.1] at h1;exact absurd (bC.1 (nXi.1 h1)) (Rat.den_nz _)
theorem aG.puta{w1 w2:World}{s:SH}{qs:List Rat}{B:Nat}{T:TypeId}{cs:Array Value}(h:aG w1 s qs)(ha:ApB s B)(T2:fj w1 B T cs w2):aG w2 s qs:=by
 obtain ⟨rs,h1,h2⟩:=h;refine ⟨rs,⟨h1.len,h1.le,h1.max,?_⟩,h2.keep T2.keep⟩;rcases h1.at' with h0|⟨b,off,e,hc⟩
 ·exact Or.inl h0
 ·rcases ha with h0|h0
  ·exact Or.inl h0
  ·have hb:b≠B:=fun hb=>h0 off (by rw [←hb];exact e)
   exact Or.inr ⟨b,off,e,fun k hk=>⟨T2.cell hb (hc k hk).1,T2.cell hb (hc k hk).2.1,T2.cell hb (hc k hk).2.2⟩⟩
theorem vC{w1:World}{b:Nat}{T:TypeId}{c0 c1 c2 c3 c4 c5 v0 v1 v2:Value}{F:World→Prop}(hb:w1.heap[b]?=some (.cells #[c0,c1,c2,c3,c4,c5] T (0,0)))(hn:#[c0,c1,c2,c3,c4,c5].toList.all gv=true)(h:∀ w2,fj w1 b T #[v0,v1,v2,c3,c4,c5] w2→F w2) :
  F (((w1.setCell ⟨b,0,none⟩ v0).setCell ⟨b,1,none⟩ v1).setCell ⟨b,2,none⟩ v2) :=
 h _ (fj.of (nXa.1 hb).1 (ah hb hn) (((bh.setCell w1 ⟨b,0,none⟩ v0).trans (bh.setCell _ ⟨b,1,none⟩ v1)).trans (bh.setCell _ ⟨b,2,none⟩ v2)) (by simp [World.setCell]) (aL (aL (aL hb 0 v0) 1 v1) 2 v2))
theorem sE{w:World}{a b c d:Obj}{F:World→Prop}(h:∀ w2,Ext w w2→w2.heap[w.heap.size]?=some a→w2.heap[w.heap.size+1]?=some b→w2.heap[w.heap.size+2]?=some c→w2.heap[w.heap.size+3]?=some d→w2.heap.size=w.heap.size+4→F w2):F ((((w.alloc a).alloc b).alloc c).alloc d):=by
 have e3:(((w.alloc a).alloc b).alloc c).heap.size=w.heap.size+3:=by simp
 have hx:Ext (((w.alloc a).alloc b).alloc c) ((((w.alloc a).alloc b).alloc c).alloc d):=Ext.alloc _ _;refine h _ (Ext.al3.trans hx) (hx.block uo) (hx.block oE) (hx.block zK) ?_ (by simp);rw [←e3];exact heap_alloc_new _ _
theorem Co{w:World}{a b c d:Obj}{F:World→Prop}(h:∀ w2,Ext w w2→RowKit.Hid (w2.heap[w.heap.size]?=some a)→RowKit.Hid (w2.heap[w.heap.size+1]?=some b)→RowKit.Hid (w2.heap[w.heap.size+2]?=some c)→RowKit.Hid (w2.heap[w.heap.size+3]?=some d)→w2.heap.size≤w.heap.size+4→w.heap.size+4≤w2.heap.size→F w2):F ((((w.alloc a).alloc b).alloc c).alloc d):=sE fun w2 e h0 h1 h2 h3 hz=>h w2 e h0 h1 h2 h3 (Nat.le_of_eq hz) (Nat.le_of_eq hz.symm)
def bkV(e:Rat):Rat:=((1:Int):Rat) / aM e
def inQ(n:Nat)(e r:Rat):Rat:=if n % 2=1 then r / aM e else r
def inE(n:Nat)(e:Rat):List Rat:=jo plQ miQ (rtP n) (n / 2) (bkV e) (rtP n).length
def inW(n:Nat)(e:Rat):List Rat:=jo plQ miQ (sqP n) n (bkV e) (sqP n).length
def inD(n:Nat)(e r:Rat):List Rat:=bf (bE miQ n) (scP (inW n e) r)
theorem xM{e:Rat}(h1:-1<e)(h2:e<1):aM e≠0:=fun h=>by
 unfold aM at h;have h0:(((1:Int):Rat)-e)≠0:=gS h2;rw [Rat.div_def] at h;have e1:((1:Int):Rat)=1:=rfl;rcases nXq.1 h with h3|h3
 ·rw [e1] at h3;grind
 ·exact h0 (by rw [←Rat.inv_inv (((1:Int):Rat)-e),h3,Rat.inv_zero])
theorem Ca{e:Rat}{K:Nat}(h:Sz K e)(hK:1≤K):Sz (2*K+8) (bkV e):=((Sz.int (z:=1) (by decide)).div (gU h hK)).mono (by omega)
theorem vp(n:Int)(s t:RH)(e r:Rat)(K:Nat)(w:World)(hs:aW w s e)(ht:aW w t r)(ze:Sz K e)(zr:Sz K r)(hK:1≤K)(hK2:K≤1000) :
  aq 99 [.int .i64 n,s.v,t.v] w PE (MkP (dm n e r) (inQ n.toNat e r) (inE n.toNat e) ((n.toNat % 2:Nat):Int) (inD n.toNat e r)):=by
 obtain ⟨sn,sa,sl,sc,sb,sm,sd⟩:=s;obtain ⟨tn,ta,tl,tc,tb,tm,td⟩:=t;have HX:=Hi (Ext.refl w);have HS:=Hi hs;have HT:=Hi ht;have ZE:=Hi ze;have ZR:=Hi zr;have HO:=Hi (gQ (n:=n) (e:=e) (r:=r));obtain ⟨wv,hw⟩:∃ v,v=dm n e r:=⟨_,rfl⟩;rw [←hw] at HO ⊢;have HW:=Hi hw;clear hs ht ze zr hw;unfold aq;go_enter Tryz.func99,Tryz.ntmps99
 go_upto_region 1 with fail
 refine pg ?_;intro w1 hE B4 B5 B6 hz_w1 hr_w1;refine mV3 hE ?_ HX HS HT;clear HX HS HT;intro HX HS HT;have hs_w1:=hE.size;clear hE;replace b_B4:=bX3 B4;replace b_B5:=bX3 B5;replace b_B6:=bX3 B6
 go_wp2_with fail
 refine cM (eJ n ⟨sn,sa,sl,sc,sb,sm,sd⟩ ⟨tn,ta,tl,tc,tb,tm,td⟩ e r _ HS.out HT.out) fun x2 w2 hE _=>?_
 refine mV6 hE ?_ B4 B5 B6 HX HS HT;clear B4 B5 B6 HX HS HT;intro B4 B5 B6 HX HS HT;have hs_w2:=hE.size;clear hE;replace b_B4:=bX3 B4;replace b_B5:=bX3 B5;replace b_B6:=bX3 B6;rw [←HW.out];by_cases h0:wv=0
 case neg =>
  have hb:((wv:Int) == 0)=false:=by rw [nXr];exact h0
  have HN:=Hi h0;go_wp2;refine bY (F:=fun W=>bodyPost _ _ _ _ _ W) B6.out rfl ?_;intro w3 T;replace HX:=Hi (T.ext HX.out (by omega));replace HS:=Hi (HS.out.keep T.keep);replace HT:=Hi (HT.out.keep T.keep);replace B4:=Hi (T.rest _ _ (by omega) B4.out);replace B5:=Hi (T.rest _ _ (by omega) B5.out);replace B6:=Hi (T.bx);have hs_w3:=nle T.size;have hr_w3:=nle T.size.symm;clear T;replace b_B4:=bX3 B4;replace b_B5:=bX3 B5;replace b_B6:=bX3 B6;exact bodyPost_ret (v:=PE (PH0,wv)) (by simp [results,Tryz.results99,go_sem,b_B6.1,PH0]) rfl ⟨(PH0,wv),rfl,HX.out,rfl,fun _=>rfl,fun h=>absurd h HN.out⟩
 obtain ⟨k1,k2,k3,k4,k5⟩:=HO.out h0;subst h0;obtain ⟨m,rfl⟩:∃ m:Nat,n=(m:Nat):=⟨n.toNat,by omega⟩;have hm1:1≤m:=by omega
 have hm8:m≤8:=by omega
 have KD:=Hi (gS k4);have KN:=Hi (xM k3 k4);have ZW:=Hi (gU ZE.out hK);have ZB:=Hi (Ca ZE.out hK);have ZQ:=Hi (wP hm8);have LQ:=Hi (rI hm8);have ZG:=Hi (Aq (n:=m) (by omega));have LG:=Hi (nle (xW m));have ZIn:Hid (SzL 1000000 (inW m e)):=Hi ((lT cr ct ZQ.out (by decide) ZB.out hm8 (sqP m).length LQ.out).mono (by have:=nXw (show (sqP m).length≤9 by have:=LQ.out;omega) (show 30+(60+((2*K+8)*8+1))+1≤16160 by omega);omega));have LIn:Hid ((inW m e).length≤m+1):=Hi (jn cr ct _ _ m _ LQ.out);have ZSc:=Hi (rS ZIn.out ZR.out);have LSc:=Hi (cN (inW m e) r LIn.out);have FM:=Hi (xg (n:=m) (by omega));have LM:=Hi (i9 m);obtain ⟨r2,hr2⟩:∃ r,r=m % 2:=⟨_,rfl⟩;obtain ⟨m2,hm2⟩:∃ k,k=m / 2:=⟨_,rfl⟩;have hrI:(m:Int).tmod 2=r2:=by have h2:(m:Int).tmod 2=((m % 2:Nat):Int):=rfl;omega
 have hrJ:(m:Int) % 2=r2:=by omega
 have hqI:(m:Int).tdiv 2=m2:=by have h2:(m:Int).tdiv 2=((m / 2:Nat):Int):=rfl;omega
 have hqJ:(m:Int) / 2=m2:=by omega
 have hr21:r2=0∨r2=1:=by omega
 have hm28:m2≤8:=by omega
 have HQ:Hid (inQ (m:Int).toNat e r=if r2=1 then r / aM e else r):=Hi (by rw [Int.toNat_natCast,hr2];rfl);have HE:Hid (inE (m:Int).toNat e=jo plQ miQ (rtP m) m2 (bkV e) (rtP m).length):=Hi (by rw [Int.toNat_natCast,hm2];rfl);have HD:Hid (inD (m:Int).toNat e r=bf (bE miQ m) (scP (inW m e) r)):=Hi (by rw [Int.toNat_natCast];rfl);have HP:Hid (((m:Int).toNat % 2:Nat)=r2):=Hi (by rw [Int.toNat_natCast,hr2]);have LG2:Hid ((rtP m).length≤m2+1):=Hi (by rw [hm2];exact LG.out);clear hr2 hm2 HO k1 k2 k3 k4 k5;have hmi8:(m:Int)≤8:=by omega
 go_wp2_with fail
 refine cM (fG ⟨sn,sa,sl,sc,sb,sm,sd⟩ e K _ HS.out ZE.out hK (by omega) KD.out) fun x3 w3 hE G3=>?_
 refine mV6 hE ?_ HX HS HT B4 B5 B6;clear HX HS HT B4 B5 B6;intro HX HS HT B4 B5 B6;have hs_w3:=hE.size;clear hE;replace b_B4:=bX3 B4;replace b_B5:=bX3 B5;replace b_B6:=bX3 B6
 go_upto_region 5 with fail
 refine nmA ?_;intro w4 hE B9 hz_w4 hr_w4;refine mV7 hE ?_ G3 HX HS HT B4 B5 B6;clear G3 HX HS HT B4 B5 B6;intro G3 HX HS HT B4 B5 B6;have hs_w4:=hE.size;clear hE;replace b_B4:=bX3 B4;replace b_B5:=bX3 B5;replace b_B6:=bX3 B6;replace b_B9:=bX3 B9;have RC:Hid (aW w4 x3 (aM e)):=Hi (G3.out.raw ZW.out (by omega));clear G3;clear HS
 (try clear b_B4);clear B4
 obtain ⟨cn,ca,cl,cc,cb,cm,cd⟩:=x3;obtain ⟨b9,hb9⟩:∃ b9,b9=w3.heap.size:=⟨_,rfl⟩;have hb9w:w.heap.size+2<b9:=by omega
 rw [←hb9] at B9 ⊢;clear hb9 b_B9;replace b_B5:=bX3 B5;replace b_B6:=bX3 B6;replace b_B9:=bX3 B9;have Z1:Hid (Sz 1 ((1:Int):Rat)):=Hi (Sz.int (by decide));have hb9l:b9<w4.heap.size:=b_B9.2.2;refine aQ [(7,5)] _ (by simp only [gy,kk,List.push_toArray,List.cons_append,List.nil_append];exact rfl) (by intro c a d v w h;cases d <;> exact h) 7 (fun opIx=>match opIx with
  | 0=>.spec RH default RH.v (fun s w'=>av w' s (((1:Int):Rat)))
  | 2=>.spec (RH) (default) (fun s=>.tuple #[s.v,.int .i64 0]) (fun x w'=>av w' x (bkV e))
  | 6=>.alloc 34 #[.bool false,.slice none 0 0,.slice none 0 0]
  | _=>.quiet) (fun|2=>[0]|_=>[]) (by kernel_rfl) (by kernel_rfl) (by kernel_rfl) (fun w0 he0 hz0 hc0 hf0=>?_)
 replace he0:=Hi he0;simp only [pT];refine qQ ?_;refine wps he0.out rfl rfl (fun w1 hW hG=>?_) fun x20=>?_
 ·exact spc [.int .i64 1] Tryz.func84 (aI 1 _ (by decide) (by decide))
 refine qZ ?_;refine wps he0.out rfl rfl (fun w1 hW hG=>?_) fun x21=>?_
 ·have g20:=(hG 0 (by decide):aw _ _).get fun _ e g=>g.ext e
  exact spc [x20.v,RH.v ⟨cn,ca,cl,cc,cb,cm,cd⟩] Tryz.func121 (bO x20 _ _ _ _ (g20.raw Z1.out (by decide)) (RC.out.ext hW) KN.out)
 refine qZ ?_;refine aH rfl rfl (fun w=>by simp [execOp,go_sem,ptr]) (fun b22 hb22 hl22=>?_);refine qZ ?_;refine aj ?_;intro w5 hI;have hE:=he0.out.trans hI.ext;have G20:=gT (hI.facts 0);have G21:=gT (hI.facts 2);have A22:Hid (w5.heap[b22]?=some (.cells #[.bool false,.slice none 0 0,.slice none 0 0] 34 (0,0))):=hI.facts 6;rw [hz0] at hl22;clear hI he0 hz0 hc0 hf0;refine mV6 hE ?_ B9 HX HT B5 B6 RC;clear B9 HX HT B5 B6 RC;intro B9 HX HT B5 B6 RC;have hs_w5:=hE.size;clear hE;replace b_B5:=bX3 B5;replace b_B6:=bX3 B6;replace b_B9:=bX3 B9;replace b_A22:=bX3 A22;simp only [pD,ptr];have RB:Hid (aW w5 x21 (bkV e)):=Hi (G21.out.raw ZB.out (by omega));clear G21;clear G20;obtain ⟨bn,ba,bl,bc,bb,bm,bd⟩:=x21
 go_upto_region 6 with fail
 refine aY A22.out rfl ?_;intro w6 T;replace HX:=Hi (T.ext HX.out (by omega));replace HT:=Hi (HT.out.keep T.keep);replace B5:=Hi (T.rest _ _ (by omega) B5.out);replace B6:=Hi (T.rest _ _ (by omega) B6.out);replace B9:=Hi (T.rest _ _ (by omega) B9.out);replace RC:=Hi (RC.out.keep T.keep);replace A22:=Hi (T.bx);replace RB:=Hi (RB.out.keep T.keep);have hs_w6:=nle T.size;have hr_w6:=nle T.size.symm;clear T;replace b_B5:=bX3 B5;replace b_B6:=bX3 B6;replace b_B9:=bX3 B9;replace b_A22:=bX3 A22;refine wpG 5 (fun opIx=>match opIx with
  | 1=>.spec (SH) (default) (SH.v) (fun x w'=>aG w' x (sqP m))
  | 4=>.spec (SH) (default) (SH.v) (fun x w'=>aG w' x (inW m e))
  | _=>.quiet) (fun|4=>[1]|_=>[]) fun w0 he0 hz0 hc0 hf0=>?_
 refine wps he0.out rfl rfl (fun w1 hW hG=>?_) fun x30=>?_
 ·exact spc [.int .i64 (m:Nat)] Tryz.func161 (jL m _ hm1 hm8)
 refine qZ ?_;refine wps he0.out rfl rfl (fun w1 hW hG=>?_) fun x31=>?_
 ·have g30:=(hG 1 (by decide):aw _ _).get fun _ e g=>g.ext e
  exact spc [x30.v,.int .i64 (m:Nat),RH.v ⟨bn,ba,bl,bc,bb,bm,bd⟩] Tryz.func162 ((ij x30 (sqP m) ⟨bn,ba,bl,bc,bb,bm,bd⟩ (bkV e) m 60 (2*K+8) _ g30 (RB.out.ext hW) LQ.out hm8 ZQ.out (by decide) (by decide) (by omega) (by omega) ZB.out).weak (fun _ _ _ h=>h.can))
 refine qZ ?_;refine aj ?_;intro w7 hI;have hE:=he0.out.trans hI.ext;have G30:=gT (hI.facts 1);have G31:=gT (hI.facts 4);clear hI he0 hz0 hc0 hf0;refine mV8 hE ?_ HX HT B5 B6 B9 RC A22 RB;clear HX HT B5 B6 B9 RC A22 RB;intro HX HT B5 B6 B9 RC A22 RB;have hs_w7:=hE.size;clear hE;replace b_B5:=bX3 B5;replace b_B6:=bX3 B6;replace b_B9:=bX3 B9;replace b_A22:=bX3 A22;simp only [pD];obtain ⟨wa,wn,wc⟩:=x31;have LW:=Hi G31.out;have hwn:=LW.out.len;simp only at hwn;have hwn9:wn≤9:=by have:=LIn.out;omega
 clear G30 G31 hwn;simp only [SH.v]
 go_upto_region 7 with fail
 have hb22l:b22<w7.heap.size:=b_A22.2.2;refine ag 18 (fun opIx=>match opIx with
  | 1=>.spec RH default RH.v (fun s w'=>av w' s (r))
  | 3=>.spec (SH) (default) (SH.v) (fun x w'=>aG w' x (rtP m))
  | 7=>.spec (SH) (default) (SH.v) (fun x w'=>aG w' x (inE (m:Int).toNat e))
  | 11=>.spec (SH) (default) (SH.v) (fun x w'=>aG w' x (bE miQ m))
  | 14=>.spec (SH) (default) (SH.v) (fun x w'=>aG w' x (scP (inW m e) r))
  | 15=>.spec (SH) (default) (SH.v) (fun x w'=>aG w' x (inD (m:Int).toNat e r))
  | 17=>.alloc 64 #[.bool false,.slice none 0 0,.slice none 0 0,.slice none 0 0,.int .i64 0,.slice none 0 0]
  | _=>.quiet) (fun|7=>[3]|15=>[11,14]|_=>[]) (by kernel_rfl) (by kernel_rfl) (fun w0 he0 hz0 hc0 hf0=>?_)
 replace he0:=Hi he0;simp only [pT]
 repeat (refine wpq fun K h=>?_;go_big_quiet_op;refine h _ ?_;clear h K;(try simp only [hrI,hrJ,hqI,hqJ]))
 refine wps he0.out rfl rfl (fun w1 hW hG=>?_) fun x40=>?_
 ·exact spc [RH.v ⟨tn,ta,tl,tc,tb,tm,td⟩] Tryz.func78 (bX ⟨tn,ta,tl,tc,tb,tm,td⟩ r _ (HT.out.ext hW))
 simp only [pS]
 repeat (refine wpq fun K h=>?_;go_big_quiet_op;refine h _ ?_;clear h K;(try simp only [hrI,hrJ,hqI,hqJ]))
 refine wps he0.out rfl rfl (fun w1 hW hG=>?_) fun x41=>?_
 ·exact spc [.int .i64 (m:Nat)] Tryz.func163 (sk m _ hm1 hm8)
 simp only [pS]
 repeat (refine wpq fun K h=>?_;go_big_quiet_op;refine h _ ?_;clear h K;(try simp only [hrI,hrJ,hqI,hqJ]))
 refine wps he0.out rfl rfl (fun w1 hW hG=>?_) fun x42=>?_
 ·have g41:=(hG 3 (by decide):aw _ _).get fun _ e g=>g.ext e
  exact spc [x41.v,.int .i64 (m2:Nat),RH.v ⟨bn,ba,bl,bc,bb,bm,bd⟩] Tryz.func162 ((ij x41 (rtP m) ⟨bn,ba,bl,bc,bb,bm,bd⟩ (bkV e) m2 1 (2*K+8) _ g41 (RB.out.ext hW) LG2.out hm28 ZG.out (by decide) (by decide) (by omega) (by omega) ZB.out).weak (fun _ _ _ h=>by rw [HE.out];exact h.can))
 simp only [pS]
 repeat (refine wpq fun K h=>?_;go_big_quiet_op;refine h _ ?_;clear h K;(try simp only [hrI,hrJ,hqI,hqJ]))
 refine wps he0.out rfl rfl (fun w1 hW hG=>?_) fun x43=>?_
 ·exact spc [.int .i64 (m:Nat)] Tryz.func117 (cS m _ (by omega))
 simp only [pS]
 repeat (refine wpq fun K h=>?_;go_big_quiet_op;refine h _ ?_;clear h K;(try simp only [hrI,hrJ,hqI,hqJ]))
 refine wps he0.out rfl rfl (fun w1 hW hG=>?_) fun x44=>?_
 ·exact spc [.slice wa wn wc,RH.v ⟨tn,ta,tl,tc,tb,tm,td⟩] Tryz.func102 ((br wa wn wc (inW m e) ⟨tn,ta,tl,tc,tb,tm,td⟩ r _ ((LW.out.ext hW).raw ZIn.out (by decide)) (HT.out.ext hW) (by omega) (ZIn.out.mono (by decide)) (ZR.out.mono (by omega))).weak (fun _ _ _ h=>h.can))
 simp only [pS]
 repeat (refine wpq fun K h=>?_;go_big_quiet_op;refine h _ ?_;clear h K;(try simp only [hrI,hrJ,hqI,hqJ]))
 refine wps he0.out rfl rfl (fun w1 hW hG=>?_) fun x45=>?_
 ·have g43:=(hG 11 (by decide):aw _ _).get fun _ e g=>g.ext e
  have g44:=(hG 14 (by decide):aw _ _).get fun _ e g=>g.ext e
  exact spc [x43.v,x44.v] Tryz.func119 ((dP x43.a x44.a x43.n x43.c x44.n x44.c _ _ _ (g43.raw FM.out.sz (by decide)) (g44.raw ZSc.out (by omega)) (by have h:=g43.len;have h2:=LM.out;omega) (by have h:=g44.len;have h2:=LSc.out;omega) (FM.out.sz.mono (by decide)) (ZSc.out.mono (by omega))).weak (fun _ _ _ h=>by rw [HD.out];exact h.can))
 simp only [pS]
 repeat (refine wpq fun K h=>?_;go_big_quiet_op;refine h _ ?_;clear h K;(try simp only [hrI,hrJ,hqI,hqJ]))
 refine aH rfl rfl (fun w=>by simp [execOp,go_sem,ptr]) (fun b46 hb46 hl46=>?_);simp only [pS]
 repeat (refine wpq fun K h=>?_;go_big_quiet_op;refine h _ ?_;clear h K;(try simp only [hrI,hrJ,hqI,hqJ]))
 refine aj ?_;intro w8 hI;have hE:=he0.out.trans hI.ext;have G40:=gT (hI.facts 1);have G41:=gT (hI.facts 3);have G42:=gT (hI.facts 7);have G43:=gT (hI.facts 11);have G44:=gT (hI.facts 14);have G45:=gT (hI.facts 15);have A46:Hid (w8.heap[b46]?=some (.cells #[.bool false,.slice none 0 0,.slice none 0 0,.slice none 0 0,.int .i64 0,.slice none 0 0] 64 (0,0))):=hI.facts 17;rw [hz0] at hl46;clear hI he0 hz0 hc0 hf0;refine mV8 hE ?_ HX B5 B6 B9 RC A22 RB LW;clear HX B5 B6 B9 RC A22 RB LW;intro HX B5 B6 B9 RC A22 RB LW;replace HT:=mV hE HT;have hs_w8:=hE.size;clear hE;replace b_B5:=bX3 B5;replace b_B6:=bX3 B6;replace b_B9:=bX3 B9;replace b_A22:=bX3 A22;replace b_A46:=bX3 A46;simp only [pD,ptr];have AE1:=Hi (G42.out.apz A46.out);have AD1:=Hi (G45.out.apz A46.out);have AE2:=Hi (G42.out.apz B6.out);have AD2:=Hi (G45.out.apz B6.out);obtain ⟨ea,en,ec⟩:=x42;obtain ⟨da,dn,dc⟩:=x45;have LE:=G42;have LD:=G45;clear G41 G42 G43 G44 G45;clear LW;simp only [SH.v]
 go_upto_region 8 with fail
 refine bY A46.out rfl ?_;intro w9 T;have LE9:=Hi (LE.out.puta AE1.out T);have LD9:=Hi (LD.out.puta AD1.out T);clear LE LD;replace HX:=Hi (T.ext HX.out (by omega));replace HT:=Hi (HT.out.keep T.keep);replace B5:=Hi (T.rest _ _ (by omega) B5.out);replace B6:=Hi (T.rest _ _ (by omega) B6.out);replace B9:=Hi (T.rest _ _ (by omega) B9.out);replace RC:=Hi (RC.out.keep T.keep);replace A22:=Hi (T.rest _ _ (by omega) A22.out);replace RB:=Hi (RB.out.keep T.keep);replace G40:=Hi (G40.out.keep T.keep);replace A46:=Hi (T.bx);have hs_w9:=nle T.size;have hr_w9:=nle T.size.symm;clear T;replace b_B5:=bX3 B5;replace b_B6:=bX3 B6;replace b_B9:=bX3 B9;replace b_A22:=bX3 A22;replace b_A46:=bX3 A46;rcases hr21 with hr0|hr0
 ·subst hr0;have HQ2:Hid (inQ (m:Int).toNat e r=r):=Hi (by rw [HQ.out,if_neg (by decide)]);go_wp2;refine bY (F:=fun W=>bodyPost _ _ _ _ _ W) B6.out rfl ?_;intro w10 T;have LE2:=Hi (LE9.out.puta AE2.out T);have LD2:=Hi (LD9.out.puta AD2.out T);clear LE9;clear LD9;replace HX:=Hi (T.ext HX.out (by omega));replace HT:=Hi (HT.out.keep T.keep);replace B5:=Hi (T.rest _ _ (by omega) B5.out);replace B6:=Hi (T.bx);replace B9:=Hi (T.rest _ _ (by omega) B9.out);replace RC:=Hi (RC.out.keep T.keep);replace A22:=Hi (T.rest _ _ (by omega) A22.out);replace RB:=Hi (RB.out.keep T.keep);replace G40:=Hi (G40.out.keep T.keep);replace A46:=Hi (T.rest _ _ (by omega) A46.out);have hs_w10:=nle T.size;have hr_w10:=nle T.size.symm;clear T;replace b_B5:=bX3 B5;replace b_B6:=bX3 B6;replace b_B9:=bX3 B9;replace b_A22:=bX3 A22;replace b_A46:=bX3 A46;exact bodyPost_ret (v:=PE (⟨x40,⟨ea,en,ec⟩,((0:Nat):Int),⟨da,dn,dc⟩⟩,0)) (by simp [results,Tryz.results99,go_sem,b_B6.1]) rfl ⟨(⟨x40,⟨ea,en,ec⟩,((0:Nat):Int),⟨da,dn,dc⟩⟩,0),rfl,HX.out,rfl,fun h=>absurd rfl h,fun _=>⟨by first|(rw [HQ2.out];exact G40.out)|(have h:=HQ2.out;simp only [Int.toNat_natCast] at h;rw [h];exact G40.out),LE2.out,by first|rfl|rw [HP.out],LD2.out⟩⟩
 subst hr0;have HQ2:Hid (inQ (m:Int).toNat e r=r / aM e):=Hi (by rw [HQ.out,if_pos rfl])
 go_wp2_with fail
 refine cM (bO ⟨tn,ta,tl,tc,tb,tm,td⟩ ⟨cn,ca,cl,cc,cb,cm,cd⟩ r (aM e) _ HT.out RC.out KN.out) fun x50 w50 hE G50=>?_
 refine mV8 hE ?_ LE9 LD9 HX HT B5 B6 B9 RC;clear LE9 LD9 HX HT B5 B6 B9 RC;intro LE9 LD9 HX HT B5 B6 B9 RC;refine mV4 hE ?_ A22 RB A46 G40;clear A22 RB A46 G40;intro A22 RB A46 G40;have hs_w50:=hE.size;clear hE;replace b_B5:=bX3 B5;replace b_B6:=bX3 B6;replace b_B9:=bX3 B9;replace b_A22:=bX3 A22;replace b_A46:=bX3 A46
 go_upto_region 10 with fail
 refine vC A46.out rfl ?_;intro w11 T;have LE10:=Hi (LE9.out.puta AE1.out T);have LD10:=Hi (LD9.out.puta AD1.out T);have G51:=Hi (G50.out.keep T.keep);clear G50;clear LE9;clear LD9;replace HX:=Hi (T.ext HX.out (by omega));replace HT:=Hi (HT.out.keep T.keep);replace B5:=Hi (T.rest _ _ (by omega) B5.out);replace B6:=Hi (T.rest _ _ (by omega) B6.out);replace B9:=Hi (T.rest _ _ (by omega) B9.out);replace RC:=Hi (RC.out.keep T.keep);replace A22:=Hi (T.rest _ _ (by omega) A22.out);replace RB:=Hi (RB.out.keep T.keep);replace G40:=Hi (G40.out.keep T.keep);replace A46:=Hi (T.bx);have hs_w11:=nle T.size;have hr_w11:=nle T.size.symm;clear T;replace b_B5:=bX3 B5;replace b_B6:=bX3 B6;replace b_B9:=bX3 B9;replace b_A22:=bX3 A22;replace b_A46:=bX3 A46;go_wp2;refine bY (F:=fun W=>bodyPost _ _ _ _ _ W) B6.out rfl ?_;intro w12 T;have LE2:=Hi (LE10.out.puta AE2.out T);have LD2:=Hi (LD10.out.puta AD2.out T);clear LE10 LD10;replace HX:=Hi (T.ext HX.out (by omega));replace HT:=Hi (HT.out.keep T.keep);replace B5:=Hi (T.rest _ _ (by omega) B5.out);replace B6:=Hi (T.bx);replace B9:=Hi (T.rest _ _ (by omega) B9.out);replace RC:=Hi (RC.out.keep T.keep);replace A22:=Hi (T.rest _ _ (by omega) A22.out);replace RB:=Hi (RB.out.keep T.keep);replace G40:=Hi (G40.out.keep T.keep);replace A46:=Hi (T.rest _ _ (by omega) A46.out);replace G51:=Hi (G51.out.keep T.keep);have hs_w12:=nle T.size;have hr_w12:=nle T.size.symm;clear T;replace b_B5:=bX3 B5;replace b_B6:=bX3 B6;replace b_B9:=bX3 B9;replace b_A22:=bX3 A22;replace b_A46:=bX3 A46;exact bodyPost_ret (v:=PE (⟨x50,⟨ea,en,ec⟩,((1:Nat):Int),⟨da,dn,dc⟩⟩,0)) (by simp [results,Tryz.results99,go_sem,b_B6.1]) rfl ⟨(⟨x50,⟨ea,en,ec⟩,((1:Nat):Int),⟨da,dn,dc⟩⟩,0),rfl,HX.out,rfl,fun h=>absurd rfl h,fun _=>⟨by first|(rw [HQ2.out];exact G51.out)|(have h:=HQ2.out;simp only [Int.toNat_natCast] at h;rw [h];exact G51.out),LE2.out,by first|rfl|rw [HP.out],LD2.out⟩⟩
theorem qH(n:Int)(s t u:RH)(w:World)(h2:n≠2)(h4:n≠4) :
  aq 55 [.int .i64 n,s.v,t.v,u.v] w PE (fun x _=>x.2=12∧x.1=PH0):=by
 obtain ⟨sn,sa,sl,sc,sb,sm,sd⟩:=s;obtain ⟨tn,ta,tl,tc,tb,tm,td⟩:=t;obtain ⟨un,ua,ul,uc,ub,um,ud⟩:=u;have HX:=Hi (Ext.refl w);have hb2:(n != 2)=true:=bne_iff_ne.2 h2;have hb4:(n != 4)=true:=bne_iff_ne.2 h4

 unfold aq;go_enter Tryz.func55,Tryz.ntmps55
 go_upto_region 1 with fail
 refine Co ?_;intro w1 hE B5 B6 B7 B8 hz_w1 hr_w1;replace HX:=hE.tr HX;have hs_w1:=hE.size;clear hE;replace b_B5:=bX3 B5;replace b_B6:=bX3 B6;replace b_B7:=bX3 B7;replace b_B8:=bX3 B8;go_wp2;refine bY (F:=fun W=>bodyPost _ _ _ _ _ W) B8.out rfl ?_;intro w2 T;replace HX:=Hi (T.ext HX.out (by omega));replace B5:=Hi (T.rest _ _ (by omega) B5.out);replace B6:=Hi (T.rest _ _ (by omega) B6.out);replace B7:=Hi (T.rest _ _ (by omega) B7.out);replace B8:=Hi (T.bx);have hs_w2:=nle T.size;have hr_w2:=nle T.size.symm;clear T;replace b_B5:=bX3 B5;replace b_B6:=bX3 B6;replace b_B7:=bX3 B7;replace b_B8:=bX3 B8;exact bodyPost_ret (v:=PE (PH0,12)) (by simp [results,Tryz.results55,go_sem,b_B8.1,PH0]) rfl ⟨(PH0,12),rfl,HX.out,rfl,rfl⟩
theorem jB(ao:Option Addr)(n cap:Nat)(l:List Rat)(S D:Nat)(w:World)(h:cV w ⟨ao,n,cap⟩ l)(hn:n≤1000000)(hS:1≤S)(hS2:S≤30000000)(hD:0<D)(hl:D<W32 ^ S)(hf:∀ x ∈ l,Fr S D x) :
  aq 77 [.slice ao n cap] w SH.v (fun x w'=>dN w.heap.size w' x (ax l)):=by
 obtain ⟨i0,hi0,hz0,hz1,hz2⟩:=info_parts iW;have HX:=Hi (Ext.refl w);have LP:=Hi h;have hle:=h.le;have hmx:=h.max;have Hlen:=Hi h.len;simp only at hle hmx Hlen;have HSz:=Hi (cI hS hD hl hf);clear h;unfold aq;go_enter Tryz.func77,Tryz.ntmps77
 go_wp2_with fail
 refine cM (lw ao n cap l _ (LP.out.ext HX.out)) fun x2 w2 hE G2=>?_
 replace HX:=hE.tr HX;have hs_w2:=hE.size;clear hE;obtain ⟨q1,q2⟩:=G2.out;obtain ⟨P,hP⟩:∃ P,P=(tz l).length:=⟨_,rfl⟩;obtain ⟨p,hp⟩:∃ p,p=tz l:=⟨_,rfl⟩;have LQ:Hid (cV w ⟨ao,P,cap⟩ p):=Hi (by rw [hp,q1,hP];exact LP.out.take q2);have HPl:Hid (p.length=P):=Hi (by rw [hp,hP]);have HSL:Hid (ax l=p.map (· / aZ p)):=Hi (by rw [hp];rfl);have HM0:Hid (p≠[]→aZ p≠0):=Hi (fun h0=>by
  rw [hp] at h0 ⊢;have:=bF h0;exact fun h1=>by rw [show aK l=0 from h1] at this;exact absurd this Rat.lt_irrefl)
 have HFp:Hid (∀ x ∈ p,Fr S D x):=Hi (fun x hx=>hf x (by rw [hp,q1] at hx;exact List.mem_of_mem_take hx));have hPn:P≤n:=by omega
 rw [←hP];clear hP hp q1 q2 G2 hf HSz Hlen;clear LP
 go_wp2_with fail
 refine cM (aI 0 _ (by decide) (by decide)) fun x3 w3 hE G3=>?_
 replace HX:=hE.tr HX;have hs_w3:=hE.size;clear hE
 go_upto_region 3 with fail
 refine nmA ?_;intro w4 hE B4 hz_w4 hr_w4;refine mV2 hE ?_ G3 HX;clear G3 HX;intro G3 HX;have hs_w4:=hE.size;clear hE;replace b_B4:=bX3 B4;obtain ⟨b4,hb4⟩:∃ b4,b4=w3.heap.size:=⟨_,rfl⟩;have hb4w:w.heap.size≤b4:=by omega
 rw [←hb4] at B4 ⊢;clear hb4 b_B4;go_wp2
 go_loopg [18] P (fun g v wr=>∃ (i:Nat) (m:RH),i+g=P∧v=.int .i64 (i:Nat)∧Ext w wr∧wr.heap[b4]?=some (.cells #[.bool m.neg,.slice m.a m.n m.c,.slice m.b m.m m.d] 34 (0,0))∧av wr m (aZ (p.take i)))
 case atStart=>exact ⟨0,x3,by omega,rfl,HX.out,B4.out,G3.out⟩
 case round =>
  obtain ⟨i,m,hi,rfl,g1,g4,g5⟩:=hrel;obtain ⟨mn,ma,ml,mc,mb,mm,md⟩:=m;clear HX B4 G3;have HX:=Hi g1;have B4:=Hi g4;have HM2:=Hi g5;clear g1 g4 g5;replace b_B4:=bX3 B4;by_cases h0:gk=0
  case neg =>
   have hin:(i:Int)<P:=by omega
   obtain ⟨b,off,r,hao,hbl,⟨hc1,hc2,hc3⟩,hPc⟩:=(LQ.out.ext HX.out).cells' (k:=i) (by omega);obtain ⟨rneg,ra,rn,rc,rb,rm,rd⟩:=r;simp only at hc1 hc2 hc3;have HC:=Hi hPc;clear hPc;have HAO:=Hi hao;subst hao
   go_upto_region 6 with fail
   clear hc1 hc2 hc3;have hb4r:b4<wr.heap.size:=b_B4.2.2;refine nmA ?_;intro w6 hE B6 hz_w6 hr_w6;refine mV4 hE ?_ HX B4 HM2 HC;clear HX B4 HM2 HC;intro HX B4 HM2 HC;have hs_w6:=hE.size;clear hE;replace b_B4:=bX3 B4;replace b_B6:=bX3 B6;have Zm:Hid (Sz S (aZ (p.take i))):=Hi ((eU fun x hx=>HFp.out x (List.mem_of_mem_take hx)).sz hS hD hl);have Zc:Hid (Sz S (p.getD i 0)):=Hi ((cI hS hD hl HFp.out).at (by rw [HPl.out];omega));obtain ⟨c,hc⟩:∃ c,c=p.getD i 0:=⟨_,rfl⟩;obtain ⟨a,ha⟩:∃ a,a=aZ (p.take i):=⟨_,rfl⟩;have HMs:Hid (aZ (p.take (i+1))=fk a c):=Hi (by rw [f5 (by rw [HPl.out];omega),eh,ha,hc]);rw [←hc] at HC Zc;rw [←ha] at HM2 Zm;clear hc ha
   go_wp2_with fail
   refine cM (cE ⟨mn,ma,ml,mc,mb,mm,md⟩ a _ (HM2.out.raw Zm.out (by omega))) fun x7 w7 hE _=>?_
   refine mV5 hE ?_ B6 HX B4 HM2 HC;clear B6 HX B4 HM2 HC;intro B6 HX B4 HM2 HC;have hs_w7:=hE.size;clear hE;replace b_B4:=bX3 B4;replace b_B6:=bX3 B6;have HZ:=Hi (dX a);obtain ⟨cc,hcc⟩:∃ cc,cc=dl a 0:=⟨_,rfl⟩;rw [←hcc] at HZ ⊢;clear hcc;have h0b:((gk:Int) == 0)=false:=by simpa using h0
   by_cases hz:cc=0
   case pos =>
    subst hz;have HV:Hid (fk a c=c.abs):=Hi (by unfold fk;rw [if_pos (HZ.out.1 rfl)]);clear HZ
    go_wp2_with fail
    refine cM (ji ⟨rneg,ra,rn,rc,rb,rm,rd⟩ c _ HC.out) fun x8 w8 hE G8=>?_
    refine mV5 hE ?_ B6 HX B4 HM2 HC;clear B6 HX B4 HM2 HC;intro B6 HX B4 HM2 HC;have hs_w8:=hE.size;clear hE;replace b_B4:=bX3 B4;replace b_B6:=bX3 B6
    go_upto_region 13 with fail
    refine aY B4.out rfl ?_;intro y1 T;replace HX:=Hi (T.ext HX.out (by omega));replace B4:=Hi (T.bx);replace HM2:=Hi (HM2.out.keep T.keep);replace HC:=Hi (HC.out.keep T.keep);replace B6:=Hi (T.rest _ _ (by omega) B6.out);replace G8:=Hi (G8.out.keep T.keep);have hs_y1:=nle T.size;have hr_y1:=nle T.size.symm;clear T;replace b_B4:=bX3 B4;replace b_B6:=bX3 B6;have HMn:Hid (av y1 x8 (aZ (p.take (i+1)))):=Hi (by rw [HMs.out,HV.out];exact G8.out);go_wp2
    go_roundg (gk-1)
    case measure=>omega
    case rel=>exact ⟨i+1,x8,by omega,by go_num,HX.out,B4.out,HMn.out⟩
   have hzb:(cc == 0)=false:=by simpa using hz
   have Ha0:Hid (a≠0):=Hi (fun h=>hz (HZ.out.2 h));clear hz HZ;by_cases hb0:c=0
   case pos =>
    have HV:Hid (fk a c=a):=Hi (by unfold fk;rw [if_neg Ha0.out,if_pos hb0]);have Hb0:=Hi hb0;clear hb0
    go_wp2_with fail
    refine cM (mG ⟨mn,ma,ml,mc,mb,mm,md⟩ ⟨rneg,ra,rn,rc,rb,rm,rd⟩ a c _ (HM2.out.raw Zm.out (by omega)) HC.out Hb0.out) fun x8 w8 hE _=>?_
    refine mV5 hE ?_ HX B4 HM2 HC B6;clear HX B4 HM2 HC B6;intro HX B4 HM2 HC B6;have hs_w8:=hE.size;clear hE;replace b_B4:=bX3 B4;replace b_B6:=bX3 B6
    go_upto_region 9 with fail
    refine nmA ?_;intro y1 hE B7 hz_y1 hr_y1;refine mV5 hE ?_ HX B4 HM2 HC B6;clear HX B4 HM2 HC B6;intro HX B4 HM2 HC B6;have hs_y1:=hE.size;clear hE;replace b_B4:=bX3 B4;replace b_B6:=bX3 B6;replace b_B7:=bX3 B7;go_wp2
    go_roundg (gk-1)
    case measure=>omega
    case rel=>exact ⟨i+1,⟨mn,ma,ml,mc,mb,mm,md⟩,by omega,by go_num,HX.out,B4.out,by rw [HMs.out,HV.out];exact HM2.out⟩
   have Hb0:=Hi hb0;clear hb0;obtain ⟨q,hq⟩:∃ q,q=a / c:=⟨_,rfl⟩;have Hq0:Hid (q≠0):=Hi (fun h=>by
    have h1:=cF (a:=a) Hb0.out;rw [←hq,h] at h1;exact Ha0.out (by rw [←h1];grind))
   have ZQ:Hid (Sz (S+S) q):=Hi (by rw [hq];exact Zm.out.div Zc.out);have HV:Hid (fk a c=(a / (q.num:Rat)).abs):=Hi (by unfold fk;rw [if_neg Ha0.out,if_neg Hb0.out,←hq])
   go_wp2_with fail
   refine cM (bO ⟨mn,ma,ml,mc,mb,mm,md⟩ ⟨rneg,ra,rn,rc,rb,rm,rd⟩ a c _ (HM2.out.raw Zm.out (by omega)) HC.out Hb0.out) fun x8 w8 hE G8=>?_
   refine mV5 hE ?_ HX B4 HM2 HC B6;clear HX B4 HM2 HC B6;intro HX B4 HM2 HC B6;have hs_w8:=hE.size;clear hE;replace b_B4:=bX3 B4;replace b_B6:=bX3 B6;rw [←hq] at G8;clear hq
   go_upto_region 9 with fail
   refine nmA ?_;intro y1 hE B7 hz_y1 hr_y1;refine mV6 hE ?_ G8 HX B4 HM2 HC B6;clear G8 HX B4 HM2 HC B6;intro G8 HX B4 HM2 HC B6;have hs_y1:=hE.size;clear hE;replace b_B4:=bX3 B4;replace b_B6:=bX3 B6;replace b_B7:=bX3 B7
   go_wp2_with fail
   refine cM (iO x8 q _ G8.out) fun x9 w9 hE G9=>?_
   refine mV7 hE ?_ B7 G8 HX B4 HM2 HC B6;clear B7 G8 HX B4 HM2 HC B6;intro B7 G8 HX B4 HM2 HC B6;have hs_w9:=hE.size;clear hE;replace b_B4:=bX3 B4;replace b_B6:=bX3 B6;replace b_B7:=bX3 B7;obtain ⟨x9,x0⟩:=x9;have G9a:=Hi G9.out.1;have G9b:=Hi G9.out.2;clear G9;simp only [PT]
   go_upto_region 11 with fail
   refine iU ?_;intro y2 hE B8 B9 hz_y2 hr_y2;refine mV8 hE ?_ B7 G8 HX B4 HM2 HC B6 G9a;clear B7 G8 HX B4 HM2 HC B6 G9a;intro B7 G8 HX B4 HM2 HC B6 G9a;replace G9b:=mV hE G9b;have hs_y2:=hE.size;clear hE;replace b_B4:=bX3 B4;replace b_B6:=bX3 B6;replace b_B7:=bX3 B7;replace b_B8:=bX3 B8;replace b_B9:=bX3 B9
   go_wp2_with fail
   refine cM (bO ⟨mn,ma,ml,mc,mb,mm,md⟩ x9 a (q.num:Rat) _ (HM2.out.raw Zm.out (by omega)) (G9a.out.raw ZQ.out.numz (by omega)) (kM Hq0.out)) fun x10 w10 hE G10=>?_
   refine mV8 hE ?_ B8 B9 B7 G8 HX B4 HM2 HC;clear B8 B9 B7 G8 HX B4 HM2 HC;intro B8 B9 B7 G8 HX B4 HM2 HC;refine mV3 hE ?_ B6 G9a G9b;clear B6 G9a G9b;intro B6 G9a G9b;have hs_w10:=hE.size;clear hE;replace b_B4:=bX3 B4;replace b_B6:=bX3 B6;replace b_B7:=bX3 B7;replace b_B8:=bX3 B8;replace b_B9:=bX3 B9
   go_upto_region 12 with fail
   refine aY B4.out rfl ?_;intro y3 T;replace HX:=Hi (T.ext HX.out (by omega));replace B4:=Hi (T.bx);replace HM2:=Hi (HM2.out.keep T.keep);replace HC:=Hi (HC.out.keep T.keep);replace B6:=Hi (T.rest _ _ (by omega) B6.out);replace G8:=Hi (G8.out.keep T.keep);replace B7:=Hi (T.rest _ _ (by omega) B7.out);replace G9a:=Hi (G9a.out.keep T.keep);replace G9b:=Hi (G9b.out.keep T.keep);replace B8:=Hi (T.rest _ _ (by omega) B8.out);replace B9:=Hi (T.rest _ _ (by omega) B9.out);replace G10:=Hi (G10.out.keep T.keep);have hs_y3:=nle T.size;have hr_y3:=nle T.size.symm;clear T;replace b_B4:=bX3 B4;replace b_B6:=bX3 B6;replace b_B7:=bX3 B7;replace b_B8:=bX3 B8;replace b_B9:=bX3 B9
   go_wp2_with fail
   refine cM (ji x10 _ _ (G10.out.raw (Zm.out.div ZQ.out.numz) (by omega))) fun x11 w11 hE G11=>?_
   refine mV8 hE ?_ HX B4 HM2 HC B6 G8 B7 G9a;clear HX B4 HM2 HC B6 G8 B7 G9a;intro HX B4 HM2 HC B6 G8 B7 G9a;refine mV4 hE ?_ G9b B8 B9 G10;clear G9b B8 B9 G10;intro G9b B8 B9 G10;have hs_w11:=hE.size;clear hE;replace b_B4:=bX3 B4;replace b_B6:=bX3 B6;replace b_B7:=bX3 B7;replace b_B8:=bX3 B8;replace b_B9:=bX3 B9
   go_upto_region 13 with fail
   refine aY B4.out rfl ?_;intro y4 T;replace HX:=Hi (T.ext HX.out (by omega));replace B4:=Hi (T.bx);replace HM2:=Hi (HM2.out.keep T.keep);replace HC:=Hi (HC.out.keep T.keep);replace B6:=Hi (T.rest _ _ (by omega) B6.out);replace G8:=Hi (G8.out.keep T.keep);replace B7:=Hi (T.rest _ _ (by omega) B7.out);replace G9a:=Hi (G9a.out.keep T.keep);replace G9b:=Hi (G9b.out.keep T.keep);replace B8:=Hi (T.rest _ _ (by omega) B8.out);replace B9:=Hi (T.rest _ _ (by omega) B9.out);replace G10:=Hi (G10.out.keep T.keep);replace G11:=Hi (G11.out.keep T.keep);have hs_y4:=nle T.size;have hr_y4:=nle T.size.symm;clear T;replace b_B4:=bX3 B4;replace b_B6:=bX3 B6;replace b_B7:=bX3 B7;replace b_B8:=bX3 B8;replace b_B9:=bX3 B9;have HMn:Hid (av y4 x11 (aZ (p.take (i+1)))):=Hi (by rw [HMs.out,HV.out];exact G11.out);go_wp2
   go_roundg (gk-1)
   case measure=>omega
   case rel=>exact ⟨i+1,x11,by omega,by go_num,HX.out,B4.out,HMn.out⟩
  subst h0;obtain rfl:i=P:=by omega
  have hin:¬ (i:Int)<i:=by omega
  have HM3:Hid (av wr ⟨mn,ma,ml,mc,mb,mm,md⟩ (aZ p)):=Hi (by
   have:=HM2.out;rw [nXl (by rw [HPl.out];exact nXd _)] at this;exact this)
  clear HM2;have hXr:=HX.out.size;have hb4r:b4<wr.heap.size:=b_B4.2.2
  go_upto_region 15 with (refine ay rfl (.tmp 50) (.tmp 50) 24 rfl 34 i0 (RH.v default) 3 Tryz.underlying24 hi0 hz0 hz1 _ _ i rfl rfl (by omega) (by omega) (by rw [hz2];omega) (by omega) ?_;intro y1 hnew hE)
  have KB:=Hi (RBk.make rfl hnew);clear hnew;refine mV3 hE ?_ HX B4 HM3;clear HX B4 HM3;intro HX B4 HM3;have hs_y1:=hE.size;clear hE;replace b_B4:=bX3 B4;obtain ⟨L,hL⟩:∃ L,L=wr.heap.size:=⟨_,rfl⟩;have hLw:w.heap.size≤L:=by omega
  have hL4:b4≠L:=by omega
  rw [←hL] at KB ⊢;clear hL hs_y1 b_B4;go_wp2
  go_loopg [54] i (fun g v wr=>∃ (j:Nat) (rs:List RH),j+g=i∧v=.int .i64 (j:Nat)∧Ext w wr∧wr.heap[b4]?=some (.cells #[.bool mn,.slice ma ml mc,.slice mb mm md] 34 (0,0))∧av wr ⟨mn,ma,ml,mc,mb,mm,md⟩ (aZ p)∧RBk wr L rs #[]∧rs.length=i∧gA wr rs ((p.take j).map (· / aZ p)))
  case atStart=>exact ⟨0,_,by omega,rfl,HX.out,B4.out,HM3.out,KB.out,by simp,fun j hj=>by simp at hj⟩
  case round =>
   obtain ⟨j,rs,hj,rfl,g1,g4,g5,g6,g7,g8⟩:=hrel;clear HX B4 HM3 KB;have HX:=Hi g1;have B4:=Hi g4;have HM3:=Hi g5;have KB:=Hi g6;have HRl:=Hi g7;have PC:=Hi g8;clear g1 g4 g5 g6 g7 g8;replace b_B4:=bX3 B4
   try clear f_KB l_KB
   have f_KB:=ae KB.out;have l_KB:=(nXa.1 KB.out).1;by_cases h0:gk=0
   case neg =>
    have hin2:(j:Int)<i:=by omega
    obtain ⟨b,off,r,hao,hbl,⟨hc1,hc2,hc3⟩,hPc⟩:=(LQ.out.ext HX.out).cells' (k:=j) (by omega);obtain ⟨rneg,ra,rn,rc,rb,rm,rd⟩:=r;simp only at hc1 hc2 hc3;have HC:=Hi hPc;clear hPc;subst hao
    go_upto_region 18 with fail
    clear hc1 hc2 hc3;have hLr:L<wr.heap.size:=l_KB;refine nmA ?_;intro y6 hE B9 hz_y6 hr_y6;refine mV6 hE ?_ HX B4 HM3 KB PC HC;clear HX B4 HM3 KB PC HC;intro HX B4 HM3 KB PC HC;have hs_y6:=hE.size;clear hE;replace b_B4:=bX3 B4
    try clear f_KB l_KB
    have f_KB:=ae KB.out;have l_KB:=(nXa.1 KB.out).1;replace b_B9:=bX3 B9;have Zm:Hid (Sz S (aZ p)):=Hi ((eU HFp.out).sz hS hD hl);have Zc:Hid (Sz S (p.getD j 0)):=Hi ((cI hS hD hl HFp.out).at (by rw [HPl.out];omega));have Hm0:Hid (aZ p≠0):=Hi (HM0.out fun h=>by have:=HPl.out;rw [h] at this;simp at this;omega)
    go_wp2_with fail
    refine cM (bO ⟨rneg,ra,rn,rc,rb,rm,rd⟩ ⟨mn,ma,ml,mc,mb,mm,md⟩ (p.getD j 0) (aZ p) _ HC.out (HM3.out.raw Zm.out (by omega)) Hm0.out) fun x7 w7 hE G7=>?_
    refine mV7 hE ?_ B9 HX B4 HM3 KB PC HC;clear B9 HX B4 HM3 KB PC HC;intro B9 HX B4 HM3 KB PC HC;have hs_w7:=hE.size;clear hE;replace b_B4:=bX3 B4
    try clear f_KB l_KB
    have f_KB:=ae KB.out;have l_KB:=(nXa.1 KB.out).1;replace b_B9:=bX3 B9;obtain ⟨f1,f2,f3⟩:=RBk.at (re:=#[]) KB.out (k:=j) (by rw [HRl.out];omega)
    go_upto_region 19 with fail
    refine dH (k:=j) KB.out rfl (by rw [HRl.out];omega) ?_;intro y8 T;clear f1 f2 f3;replace HX:=Hi (T.ext HX.out (by omega));replace B4:=Hi (T.rest _ _ (by omega) B4.out);replace HM3:=Hi (HM3.out.keep T.keep);replace PC:=Hi (PC.out.keep T.keep);replace KB:=Hi (T.bx);replace HC:=Hi (HC.out.keep T.keep);replace B9:=Hi (T.rest _ _ (by omega) B9.out);replace G7:=Hi (G7.out.keep T.keep);have hs_y8:=nle T.size;have hr_y8:=nle T.size.symm;clear T;replace b_B4:=bX3 B4
    try clear f_KB l_KB
    have f_KB:=ae KB.out;have l_KB:=(nXa.1 KB.out).1;replace b_B9:=bX3 B9;replace PC:=Hi (PC.out.snoc (x:=x7) (i:=j) (by rw [nXk,nXj,HPl.out];omega) (by rw [HRl.out];omega) G7.out);have HRp:Hid ((p.take j).map (· / aZ p)++[p.getD j 0 / aZ p]=(p.take (j+1)).map (· / aZ p)):=Hi (by rw [f5 (by rw [HPl.out];omega),List.map_append];rfl);rw [HRp.out] at PC;go_wp2
    go_roundg (gk-1)
    case measure=>omega
    case rel=>exact ⟨j+1,_,by omega,by go_num,HX.out,B4.out,HM3.out,KB.out,by rw [nXn];exact HRl.out,PC.out⟩
   subst h0;obtain rfl:j=i:=by omega
   have hin:¬ (j:Int)<j:=by omega
   have HO:Hid (bg wr L (ax l)):=Hi (by
    have:=PC.out;rw [nXl (by rw [HPl.out];exact nXd _),←HSL.out] at this;exact this.row KB.out HRl.out (by rw [HSL.out,nXk,HPl.out]))
   go_wp2
   go_ret
   exact ⟨⟨some ⟨L,0,none⟩,j,j⟩,rfl,HX.out,L,hLw,by rw [HSL.out,nXk,HPl.out],HO.out⟩
theorem mx(ao:Option Addr)(n cap:Nat)(l:List Rat)(S D:Nat)(w:World)(h:aG w ⟨ao,n,cap⟩ l)(hn:n≤1000000)(hS:1≤S)(hS2:S≤30000000)(hD:0<D)(hl:D<W32 ^ S)(hf:∀ x ∈ l,Fr S D x) :
  aq 77 [.slice ao n cap] w SH.v (fun x w'=>dN w.heap.size w' x (ax l)):=jB ao n cap l S D w (h.raw (cI hS hD hl hf) (by omega)) hn hS hS2 hD hl hf
end Go.Proofs.YtafgmcimcbhhjaaGreat
