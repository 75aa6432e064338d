import Derived.Test.YtafgmcimcbhhjaaGreatQJK4
import Derived.Test.YtafgmcimcbhhjaaGreatQJM17
set_option linter.unusedVariables false
set_option maxHeartbeats 4000000
set_option maxRecDepth 8000
namespace Go.Proofs.YtafgmcimcbhhjaaGreat
open Go.RowKit Go.Front Go.Num
attribute [local go_sem] XW.cell XW.frozen
def bs(w:World)(L:Nat)(os:List Rat):Prop:=∃ rs re,RBk w L rs re∧re.toList.all fj=true∧dX aB w rs os
theorem bs.ext{w w':World}{L:Nat}{os:List Rat}(h:bs w L os)(he:Ext w w'):bs w' L os:=let ⟨rs,re,h1,h0,h2⟩:=h;⟨rs,re,h1.ext he,h0,h2.can_ext he⟩
instance {w w':World} {L:Nat} {os:List Rat}:Go.Front.Mv w w' (bs w L os) (bs w' L os):=⟨fun e h=>bs.ext h e⟩

theorem bs.lt{w:World}{L:Nat}{os:List Rat}(h:bs w L os):L<w.heap.size:=let ⟨_,_,h1,_⟩:=h;h1.lt
theorem bs.frozen{w:World}{L:Nat}{os:List Rat}(h:bs w L os)(i:Nat):w.frozen? ⟨L,i,none⟩=false:=let ⟨_,_,h1,_⟩:=h;h1.frozen i
theorem bs.cells{w:World}{L:Nat}{os:List Rat}(h:bs w L os){k:Nat}(hk:k<os.length):∃ r,RAt w L (k*3) r∧aB w r (os.getD k 0):=by
 obtain ⟨rs,re,h1,h0,h2⟩:=h;exact ⟨_,h1.at (by rw [h2.1];exact hk),h2.2 k hk⟩
theorem bs.can{w:World}{L M c:Nat}{os:List Rat}(h:bs w L os)(hl:os.length=M)(hc:M≤c)(hM:c≤9223372036854775807):bw w ⟨some ⟨L,0,none⟩,M,c⟩ os:=by
 obtain ⟨rs,re,h1,h0,h2⟩:=h;exact ⟨rs,h1.rs (by rw [h2.1,hl]) hc hM,h2⟩
theorem bs.put{w1 w2:World}{L b:Nat}{os:List Rat}{T:TypeId}{cs:Array Value}(h:bs w1 L os)(T2:dK w1 b T cs w2)(hb:b≠L):bs w2 L os:=by
 obtain ⟨rs,re,h1,h0,h2⟩:=h;exact ⟨rs,re,T2.rest L _ (Ne.symm hb) h1,h0,h2.keep T2.keep⟩
theorem gZ{w1:World}{L k:Nat}{os:List Rat}{q:Rat}{F:World→Prop}{x:RH}(h:bs w1 L os)(hk:k<os.length)(hx:aB w1 x q)
 (H:∀ w2,(∃ cs,dK w1 L 34 cs w2)→bs w2 L (os.set k q)→F w2) :
  F (((w1.setCell ⟨L,k*3,none⟩ (.bool x.neg)).setCell ⟨L,k*3+1,none⟩ (.slice x.a x.n x.c)).setCell ⟨L,k*3+2,none⟩ (.slice x.b x.m x.d)):=by
 obtain ⟨rs,re,h1,h0,h2⟩:=h;refine jc h1 h0 (by rw [h2.1];exact hk) fun w2 T=>H w2 ⟨_,T⟩ ⟨rs.set k x,re,T.bx,h0,(h2.keep T.keep).set (hx.keep T.keep) k⟩
theorem jV.row{w:World}{L M:Nat}{rs:List RH}{ts:List Rat}(h:jV w rs ts)(hb:RBk w L rs #[])(hl:rs.length=M)(ht:ts.length=M):bs w L ts:=⟨rs,#[],hb,rfl,by rw [hl,ht],h⟩
def dF(B:Nat)(w:World)(x:SH)(os:List Rat):Prop:=∃ L,B≤L∧x=⟨some ⟨L,0,none⟩,os.length,os.length⟩∧bs w L os
theorem dF.ext{B:Nat}{w w':World}{x:SH}{os:List Rat}(h:dF B w x os)(he:Ext w w'):dF B w' x os:=let ⟨L,h1,h2,h3⟩:=h;⟨L,h1,h2,h3.ext he⟩
instance {B:Nat} {w w':World} {x:SH} {os:List Rat}:Go.Front.Mv w w' (dF B w x os) (dF B w' x os):=⟨fun e h=>dF.ext h e⟩

theorem sC(M:Nat)(w:World)(hM:M≤1000000):au 165 [.int .i64 (M:Nat)] w SH.v (fun x w'=>dF w.heap.size w' x (List.replicate M 0)):=by
 obtain ⟨i0,hi0,hz0,hz1,hz2⟩:=info_parts k9;have HX:=Hi (Ext.refl w);unfold au;go_enter Tryz.func165,Tryz.ntmps165
 go_upto_region 2 with (refine aF rfl (.tmp 5) (.tmp 5) 24 rfl 34 i0 (RH.v default) 3 Tryz.underlying24 hi0 hz0 hz1 _ _ M rfl rfl zo zo (by rw [hz2];omega) zo ?_;intro w3 hnew hE)
 have KB:=Hi (RBk.make rfl hnew);clear hnew;replace HX:=hE.tr HX;have hs_w3:=hE.size;obtain ⟨L,hL⟩:∃ L,L=w.heap.size:=⟨_,rfl⟩;have hLw:w.heap.size≤L:=zo;rw [←hL] at KB ⊢;clear hL;go_wp2
 go_loopg [9] M (fun g v wr=>∃ (i:Nat) (rs:List RH),i+g=M∧v=.int .i64 (i:Nat)∧Ext w wr∧RBk wr L rs #[]∧rs.length=M∧jV wr rs (List.replicate i 0))
 case atStart=>exact ⟨0,_,zo,rfl,HX.out,KB.out,by simp,fun j hj=>by simp at hj⟩
 case round =>
  obtain ⟨i,rs,hi,rfl,g1,g4,g5,g6⟩:=hrel;clear HX KB;have HX:=Hi g1;have KB:=Hi g4;have HRl:=Hi g5;have PC:=Hi g6;clear g1 g4 g5 g6
  try clear f_KB l_KB
  have f_KB:=af KB.out;have l_KB:=(nXb.1 KB.out).1;by_cases h0:gk=0
  case neg =>
   have hin:(i:Int)<M:=zo
   go_wp2_with fail
   refine cM (d9 0 _ dZ dZ) fun x2 w2 hE G2=>?_
   refine mV3 hE ?_ HX KB PC;clear HX KB PC;intro HX KB PC;have hs_w2:=hE.size
   try clear f_KB l_KB
   have f_KB:=af KB.out;have l_KB:=(nXb.1 KB.out).1;obtain ⟨f1,f2,f3⟩:=RBk.at (re:=#[]) KB.out (k:=i) (by rw [HRl.out];omega)
   go_upto_region 6 with fail
   refine jc (k:=i) KB.out rfl (by rw [HRl.out];omega) ?_;intro y6 T;clear f1 f2 f3;replace HX:=Hi (T.ext HX.out zo);replace KB:=Hi (T.bx);replace PC:=Hi (PC.out.keep T.keep);replace G2:=Hi (G2.out.keep T.keep);have hs_y6:=nle T.size;have hr_y6:=nle T.size.symm;clear T
   try clear f_KB l_KB
   have f_KB:=af KB.out;have l_KB:=(nXb.1 KB.out).1;replace PC:=Hi (PC.out.snoc (x:=x2) (i:=i) (by simp) (by rw [HRl.out];omega) G2.out);have HRp:Hid (List.replicate i (0:Rat)++[((0:Int):Rat)]=List.replicate (i+1) 0):=Hi (by rw [List.replicate_succ'];rfl);rw [HRp.out] at PC;go_wp2
   go_roundg (gk-1)
   case measure=>omega
   case rel=>exact ⟨i+1,_,zo,by go_num,HX.out,KB.out,by rw [nXo];exact HRl.out,PC.out⟩
  subst h0;obtain rfl:i=M:=by omega
  have hin:¬ (i:Int)<i:=zo;have HO:Hid (bs wr L (List.replicate i 0)):=Hi (PC.out.row KB.out HRl.out (by simp));go_wp2
  go_ret
  exact ⟨⟨some ⟨L,0,none⟩,i,i⟩,rfl,HX.out,L,hLw,by simp,HO.out⟩
theorem j6{w:World}{L:Nat}{T:TypeId}(h:w.heap[L]?=some (.cells #[.int .u32 1] T (0,0))):U32 w (some ⟨L,0,none⟩) 1 1 (digs 1):=by
 rw [ji];refine ⟨rfl,nXe _,dZ,fun d hd=>?_,Or.inr ⟨L,0,rfl,fun k hk=>?_⟩⟩
 ·obtain rfl:d=1:=by simpa using hd
  decide
 ·obtain rfl:k=0:=by omega
  rw [ae h];rfl
theorem mQ{w1:World}{b b':Nat}{T T':TypeId}{c0 c1 c2 v0 v1 v2 c0' c1' c2' v0' v1' v2':Value}{F:World→Prop}(hb:w1.heap[b]?=some (.cells #[c0,c1,c2] T (0,0)))(hn:#[c0,c1,c2].toList.all fj=true)
 (hb':w1.heap[b']?=some (.cells #[c0',c1',c2'] T' (0,0)))(hn':#[c0',c1',c2'].toList.all fj=true)(hne:b'≠b)
 (H:∀ w2 w3 w4,dK w1 b T #[v0,v1,v2] w2→dK w2 b' T' #[v0',v1',v2'] w3→Ext w3 w4→F w4) :
  F ((((((w1.setCell ⟨b,0,none⟩ v0).setCell ⟨b,1,none⟩ v1).setCell ⟨b,2,none⟩ v2).setCell ⟨b',0,none⟩ v0').setCell ⟨b',1,none⟩ v1').setCell ⟨b',2,none⟩ v2').drew :=
 bi (v0:=v0) (v1:=v1) (v2:=v2) (F:=fun W=>F ((((W.setCell ⟨b',0,none⟩ v0').setCell ⟨b',1,none⟩ v1').setCell ⟨b',2,none⟩ v2').drew)) hb hn fun w2 T2 =>
  bi (v0:=v0') (v1:=v1') (v2:=v2') (F:=fun W=>F W.drew) (T2.rest _ _ hne hb') hn' fun w3 T3=>H w2 w3 _ T2 T3 (Ext.drew _)
abbrev PT(x:RH×RH):Value:=.tuple #[x.1.v,x.2.v]
theorem lT(t:RH)(q:Rat)(w:World)(h:aB w t q):au 212 [t.v] w PT (fun x w'=>aB w' x.1 (q.num:Rat)∧aB w' x.2 ((q.den:Int):Rat)):=by
 obtain ⟨neg,a,n,c,b,m,d⟩:=t;have H:=Hi h;have HX:=Hi (Ext.refl w);clear h;unfold au;go_enter Tryz.func212,Tryz.ntmps212
 go_upto_region 1 with fail
 refine rX ?_;intro w1 hE B1 B2 B3 hz_w1 hr_w1;replace HX:=hE.tr HX;have hs_w1:=hE.size;replace b_B1:=bX3 B1;replace b_B2:=bX3 B2;replace b_B3:=bX3 B3
 go_upto_region 2 with fail
 refine nmA ?_;intro w2 hE BO hz_w2 hr_w2;refine mV4 hE ?_ B1 B2 B3 HX;clear B1 B2 B3 HX;intro B1 B2 B3 HX;have hs_w2:=hE.size;replace b_B1:=bX3 B1;replace b_B2:=bX3 B2;replace b_B3:=bX3 B3;replace b_BO:=bX3 BO
 go_region
 refine mQ B2.out rfl B3.out rfl zo ?_;intro y3 y4 y5 T3 T4 E5;have HY:Hid (Ext w y5):=Hi ((T4.ext (T3.ext HX.out zo) zo).trans E5);have HO:=Hi (E5.block (T4.rest _ _ zo (T3.rest _ _ zo BO.out)));have HA:=Hi (H.out.ext HY.out);have C2:=Hi (E5.block (T4.rest _ _ zo T3.bx));have C3:=Hi (E5.block T4.bx);have c_C2:=ae C2.out;have c_C3:=ae C3.out;have f_C2:=af C2.out;have f_C3:=af C3.out;clear T3 T4 E5 b_B1 b_B2 b_B3 b_BO;go_wp2;exact nXa (v:=PT (⟨neg,a,n,c,some ⟨w1.heap.size,0,none⟩,1,1⟩,⟨false,b,m,d,some ⟨w1.heap.size,0,none⟩,1,1⟩)) (by simp [results,Tryz.results212,go_sem,PT,c_C2,c_C3]) rfl
  ⟨(⟨neg,a,n,c,some ⟨w1.heap.size,0,none⟩,1,1⟩,⟨false,b,m,d,some ⟨w1.heap.size,0,none⟩,1,1⟩),rfl,HY.out,
   ⟨by rw [Rat.num_intCast];exact HA.out.1,by rw [Rat.num_intCast];exact HA.out.2.1,by rw [Rat.den_intCast];exact j6 HO.out⟩,
   ⟨by rw [Rat.num_intCast];exact (decide_eq_false zo).symm,by rw [Rat.num_intCast];exact HA.out.2.2,by rw [Rat.den_intCast];exact j6 HO.out⟩⟩
theorem Sz.numz{k:Nat}{q:Rat}(h:Sz k q):Sz k (q.num:Rat):=⟨by rw [Rat.num_intCast];exact h.1,by rw [Rat.den_intCast];exact Nat.one_lt_pow (by have:=h.one_le;omega) dZ⟩
theorem pe(s t:RH)(a b:Rat)(K:Nat)(w:World)(h:aB w s a)(k:aS w t b)(ha:Sz K a)(hb:Sz K b)(hK:K≤30000000):au 199 [s.v,t.v] w RH.v (fun x w'=>aB w' x (fH a b)):=by
 obtain ⟨sneg,sa,sn,sc,sb,sm,sd⟩:=s;obtain ⟨tneg,ta,tn,tc,tb,tm,td⟩:=t;have H:=Hi h;have K2:=Hi k;have HX:=Hi (Ext.refl w);have ZA:=Hi ha;have ZB:=Hi hb;clear h k ha hb;unfold au;go_enter Tryz.func199,Tryz.ntmps199
 go_upto_region 1 with fail
 refine rX ?_;intro w1 hE B2 B3 B4 hz_w1 hr_w1;refine mV3 hE ?_ H K2 HX;clear H K2 HX;intro H K2 HX;have hs_w1:=hE.size;replace b_B2:=bX3 B2;replace b_B3:=bX3 B3;replace b_B4:=bX3 B4
 go_wp2_with fail
 refine cM (fU ⟨sneg,sa,sn,sc,sb,sm,sd⟩ a _ (H.out.raw ZA.out zo)) fun x2 w2 hE _=>?_
 refine mV6 hE ?_ B2 B3 B4 H K2 HX;clear B2 B3 B4 H K2 HX;intro B2 B3 B4 H K2 HX;have hs_w2:=hE.size;replace b_B2:=bX3 B2;replace b_B3:=bX3 B3;replace b_B4:=bX3 B4;have HZ:=Hi (eV a);obtain ⟨cc,hcc⟩:∃ cc,cc=dJ a 0:=⟨_,rfl⟩;rw [←hcc] at HZ ⊢;clear hcc;by_cases hz:cc=0
 case pos =>
  subst hz;have HV:Hid (fH a b=b.abs):=Hi (by unfold fH;rw [if_pos (HZ.out.1 rfl)]);clear HZ
  go_wp2_with fail
  refine cM (j5 ⟨tneg,ta,tn,tc,tb,tm,td⟩ b _ K2.out) fun x3 w3 hE G3=>?_
  refine mV6 hE ?_ B2 B3 B4 H K2 HX;clear B2 B3 B4 H K2 HX;intro B2 B3 B4 H K2 HX;have hs_w3:=hE.size;replace b_B2:=bX3 B2;replace b_B3:=bX3 B3;replace b_B4:=bX3 B4;go_wp2;have hF:=((((Fin.start (L:=w.heap.size+2) HX.out (aj B4.out rfl)).set zo (i:=0) (v:=.bool x3.neg) rfl).set zo (i:=1) (v:=.slice x3.a x3.n x3.c) rfl).set zo (i:=2) (v:=.slice x3.b x3.m x3.d) rfl);exact nXa (v:=x3.v) (by simp [results,Tryz.results199,go_sem,ae B4.out]) rfl ⟨x3,rfl,hF.ext,(by rw [HV.out];exact G3.out.keep hF.keep)⟩
 have hzb:(cc == 0)=false:=by simpa using hz
 have Ha0:Hid (a≠0):=Hi (fun h=>hz (HZ.out.2 h));clear hz HZ;by_cases hb0:b=0
 case pos =>
  have HV:Hid (fH a b=a):=Hi (by unfold fH;rw [if_neg Ha0.out,if_pos hb0]);have Hb0:=Hi hb0;clear hb0
  go_wp2_with fail
  refine cM (nP ⟨sneg,sa,sn,sc,sb,sm,sd⟩ ⟨tneg,ta,tn,tc,tb,tm,td⟩ a b _ (H.out.raw ZA.out zo) K2.out Hb0.out) fun x3 w3 hE _=>?_
  refine mV6 hE ?_ B2 B3 B4 H K2 HX;clear B2 B3 B4 H K2 HX;intro B2 B3 B4 H K2 HX;have hs_w3:=hE.size;replace b_B2:=bX3 B2;replace b_B3:=bX3 B3;replace b_B4:=bX3 B4
  go_upto_region 4 with fail
  refine nmA ?_;intro y4 hE B5 hz_y4 hr_y4;refine mV6 hE ?_ B2 B3 B4 H K2 HX;clear B2 B3 B4 H K2 HX;intro B2 B3 B4 H K2 HX;have hs_y4:=hE.size;replace b_B2:=bX3 B2;replace b_B3:=bX3 B3;replace b_B4:=bX3 B4;replace b_B5:=bX3 B5;go_wp2;have hF:=((((Fin.start (L:=w.heap.size+2) HX.out (aj B4.out rfl)).set zo (i:=0) (v:=.bool (⟨sneg,sa,sn,sc,sb,sm,sd⟩:RH).neg) rfl).set zo (i:=1) (v:=.slice (⟨sneg,sa,sn,sc,sb,sm,sd⟩:RH).a (⟨sneg,sa,sn,sc,sb,sm,sd⟩:RH).n (⟨sneg,sa,sn,sc,sb,sm,sd⟩:RH).c) rfl).set zo (i:=2) (v:=.slice (⟨sneg,sa,sn,sc,sb,sm,sd⟩:RH).b (⟨sneg,sa,sn,sc,sb,sm,sd⟩:RH).m (⟨sneg,sa,sn,sc,sb,sm,sd⟩:RH).d) rfl);exact nXa (v:=(⟨sneg,sa,sn,sc,sb,sm,sd⟩:RH).v) (by simp [results,Tryz.results199,go_sem,ae B4.out]) rfl ⟨(⟨sneg,sa,sn,sc,sb,sm,sd⟩:RH),rfl,hF.ext,(by rw [HV.out];exact H.out.keep hF.keep)⟩
 have Hb0:=Hi hb0;clear hb0;obtain ⟨q,hq⟩:∃ q,q=a / b:=⟨_,rfl⟩;have Hq0:Hid (q≠0):=Hi (fun h=>by
  have h1:=cm (a:=a) Hb0.out;rw [←hq,h] at h1;exact Ha0.out (by rw [←h1];grind))
 have ZQ:Hid (Sz (K+K) q):=Hi (by rw [hq];exact ZA.out.div ZB.out);have HV:Hid (fH a b=(a / (q.num:Rat)).abs):=Hi (by unfold fH;rw [if_neg Ha0.out,if_neg Hb0.out,←hq])
 go_wp2_with fail
 refine cM (cF ⟨sneg,sa,sn,sc,sb,sm,sd⟩ ⟨tneg,ta,tn,tc,tb,tm,td⟩ a b _ (H.out.raw ZA.out zo) K2.out Hb0.out) fun x3 w3 hE G3=>?_
 refine mV6 hE ?_ B2 B3 B4 H K2 HX;clear B2 B3 B4 H K2 HX;intro B2 B3 B4 H K2 HX;have hs_w3:=hE.size;replace b_B2:=bX3 B2;replace b_B3:=bX3 B3;replace b_B4:=bX3 B4;rw [←hq] at G3;clear hq
 go_upto_region 4 with fail
 refine nmA ?_;intro y4 hE B5 hz_y4 hr_y4;refine mV7 hE ?_ G3 B2 B3 B4 H K2 HX;clear G3 B2 B3 B4 H K2 HX;intro G3 B2 B3 B4 H K2 HX;have hs_y4:=hE.size;replace b_B2:=bX3 B2;replace b_B3:=bX3 B3;replace b_B4:=bX3 B4;replace b_B5:=bX3 B5
 go_wp2_with fail
 refine cM (lT x3 q _ G3.out) fun x5 w5 hE G5=>?_
 refine mV8 hE ?_ B5 G3 B2 B3 B4 H K2 HX;clear B5 G3 B2 B3 B4 H K2 HX;intro B5 G3 B2 B3 B4 H K2 HX;have hs_w5:=hE.size;replace b_B2:=bX3 B2;replace b_B3:=bX3 B3;replace b_B4:=bX3 B4;replace b_B5:=bX3 B5;obtain ⟨x5,x6⟩:=x5;have G5a:=Hi G5.out.1;have G5b:=Hi G5.out.2;clear G5;simp only [PT]
 go_upto_region 7 with fail
 refine hZ ?_;intro y6 hE B7 B8 hz_y6 hr_y6;refine mV8 hE ?_ B5 G3 B2 B3 B4 H K2 HX;clear B5 G3 B2 B3 B4 H K2 HX;intro B5 G3 B2 B3 B4 H K2 HX;refine mV2 hE ?_ G5a G5b;clear G5a G5b;intro G5a G5b;have hs_y6:=hE.size;replace b_B2:=bX3 B2;replace b_B3:=bX3 B3;replace b_B4:=bX3 B4;replace b_B5:=bX3 B5;replace b_B7:=bX3 B7;replace b_B8:=bX3 B8
 go_wp2_with fail
 refine cM (cF ⟨sneg,sa,sn,sc,sb,sm,sd⟩ x5 a (q.num:Rat) _ (H.out.raw ZA.out zo) (G5a.out.raw ZQ.out.numz zo) (lX Hq0.out)) fun x7 w7 hE G7=>?_
 refine mV8 hE ?_ B7 B8 B5 G3 B2 B3 B4 H;clear B7 B8 B5 G3 B2 B3 B4 H;intro B7 B8 B5 G3 B2 B3 B4 H;refine mV4 hE ?_ K2 HX G5a G5b;clear K2 HX G5a G5b;intro K2 HX G5a G5b;have hs_w7:=hE.size;replace b_B2:=bX3 B2;replace b_B3:=bX3 B3;replace b_B4:=bX3 B4;replace b_B5:=bX3 B5;replace b_B7:=bX3 B7;replace b_B8:=bX3 B8
 go_upto_region 8 with fail
 refine nmA ?_;intro y8 hE B9 hz_y8 hr_y8;refine mV8 hE ?_ G7 B7 B8 B5 G3 B2 B3 B4;clear G7 B7 B8 B5 G3 B2 B3 B4;intro G7 B7 B8 B5 G3 B2 B3 B4;refine mV5 hE ?_ H K2 HX G5a G5b;clear H K2 HX G5a G5b;intro H K2 HX G5a G5b;have hs_y8:=hE.size;replace b_B2:=bX3 B2;replace b_B3:=bX3 B3;replace b_B4:=bX3 B4;replace b_B5:=bX3 B5;replace b_B7:=bX3 B7;replace b_B8:=bX3 B8;replace b_B9:=bX3 B9
 go_wp2_with fail
 refine cM (j5 x7 _ _ (G7.out.raw (ZA.out.div ZQ.out.numz) zo)) fun x9 w9 hE G9=>?_
 refine mV8 hE ?_ B9 G7 B7 B8 B5 G3 B2 B3;clear B9 G7 B7 B8 B5 G3 B2 B3;intro B9 G7 B7 B8 B5 G3 B2 B3;refine mV6 hE ?_ B4 H K2 HX G5a G5b;clear B4 H K2 HX G5a G5b;intro B4 H K2 HX G5a G5b;have hs_w9:=hE.size;replace b_B2:=bX3 B2;replace b_B3:=bX3 B3;replace b_B4:=bX3 B4;replace b_B5:=bX3 B5;replace b_B7:=bX3 B7;replace b_B8:=bX3 B8;replace b_B9:=bX3 B9;go_wp2;have hF:=((((Fin.start (L:=w.heap.size+2) HX.out (aj B4.out rfl)).set zo (i:=0) (v:=.bool x9.neg) rfl).set zo (i:=1) (v:=.slice x9.a x9.n x9.c) rfl).set zo (i:=2) (v:=.slice x9.b x9.m x9.d) rfl);exact nXa (v:=x9.v) (by simp [results,Tryz.results199,go_sem,ae B4.out]) rfl ⟨x9,rfl,hF.ext,(by rw [HV.out];exact G9.out.keep hF.keep)⟩
structure Mut (L:Nat) (w w':World):Prop where
 keep:gP w w'
 mods:aV (·=L) w w'
theorem Mut.refl(L:Nat)(w:World):Mut L w w:=⟨gP.refl w,aV.refl _ w⟩
theorem Mut.of_ext{L:Nat}{w w':World}(h:Ext w w'):Mut L w w':=⟨dR h,aV.of_ext h⟩
theorem Mut.trans{L:Nat}{a b c:World}(h:Mut L a b)(k:Mut L b c):Mut L a c:=⟨h.keep.trans k.keep,h.mods.trans k.mods⟩
theorem Mut.put{L b:Nat}{w w1 w2:World}{T:TypeId}{cs:Array Value}(h:Mut L w w1)(T2:dK w1 b T cs w2)(hb:b=L∨w.heap.size≤b):Mut L w w2:=⟨h.keep.trans T2.keep,aV.put h.mods T2 hb⟩
theorem Mut.rest{L:Nat}{w w':World}(h:Mut L w w')(k:Nat)(o:Obj)(hk:k≠L)(ho:w.heap[k]?=some o):w'.heap[k]?=some o:=h.mods.blk hk ho
theorem Mut.size{L:Nat}{w w':World}(h:Mut L w w'):w.heap.size≤w'.heap.size:=h.mods.size
theorem Mut.ext{L:Nat}{w0 w w':World}(h:Mut L w w')(hE:Ext w0 w)(hL:w0.heap.size≤L):Ext w0 w' :=
 Ext.of_below (N:=w0.heap.size) hE (h.mods.below hE.size fun k hk=>by have hk:k=L:=hk;omega) (nXe _)
theorem bs.mut{w w':World}{L M:Nat}{os:List Rat}(h:bs w L os)(T:Mut M w w')(hb:M≠L):bs w' L os:=by
 obtain ⟨rs,re,h1,h0,h2⟩:=h;exact ⟨rs,re,T.rest L _ (Ne.symm hb) h1,h0,h2.keep T.keep⟩
theorem RS.mut{w w':World}{M lo hi:Nat}{s:SH}{rs:List RH}(h:RS w s rs)(hp:s.n=0∨∃ b off,s.a=some ⟨b,off,none⟩∧lo≤b∧b<hi)(T:Mut M w w')(hb:M<lo∨hi≤M):RS w' s rs:=by
 refine ⟨h.len,h.le,h.max,?_⟩;rcases hp with h0|⟨x,o,e,h1,h2⟩
 ·exact Or.inl h0
 ·rcases h.at' with h0|⟨b,off,e2,hc⟩
  ·exact Or.inl h0
  ·rw [e] at e2;obtain ⟨rfl,rfl⟩:x=b∧o=off:=by simpa using e2
   refine Or.inr ⟨x,o,e,fun k hk=>?_⟩;have h3:=hc k hk;have hl:=nXq _ _ h3.1;simp only at hl;have hbk:w'.heap[x]?=w.heap[x]?:=by
    rw [Array.getElem?_eq_getElem hl];exact T.rest x _ zo (Array.getElem?_eq_getElem hl)
   have cc:∀ i,w'.cell? ⟨x,i,none⟩=w.cell? ⟨x,i,none⟩:=fun i=>World.cell?_of_block (w:=w) hbk
   exact ⟨(cc _).trans h3.1,(cc _).trans h3.2.1,(cc _).trans h3.2.2⟩
theorem LIn.mut{w w':World}{M lo hi:Nat}{s:SH}{qs:List Rat}(h:LIn w s qs lo hi)(T:Mut M w w')(hb:M<lo∨hi≤M):LIn w' s qs lo hi:=by
 obtain ⟨rs,h1,h2,h3⟩:=h;exact ⟨rs,h1.mut h3 T hb,h2.keep T.keep,h3⟩
theorem mT{os:List Rat}{q:Rat}{i:Nat}(hi:i<os.length):(cu os i q).set i (os.getD i 0*q)=cu os (i+1) q:=by
 unfold cu;have h1:((os.take i).map (·*q)).length=i:=by rw [nXl,nXk];omega
 rw [List.set_append_right _ _ zo,h1,Nat.sub_self,List.take_add_one,List.map_append,List.append_assoc]
 congr 1
 rw [List.drop_eq_getElem_cons hi,List.set_cons_zero,List.getElem?_eq_getElem hi,nXd,List.getElem?_eq_getElem hi];rfl
theorem qv(L n cp:Nat)(os:List Rat)(t:RH)(q:Rat)(S U:Nat)(w:World)(h:bs w L os)(hn:n≤os.length)(ht:aB w t q)(hM:os.length≤1000000)(hz:SzL S (os.take n))(hzq:Sz U q)(hSU:S≤60000000∧U≤60000000) :
  Calls Tryz.prog 213 #[.slice (some ⟨L,0,none⟩) n cp,t.v] w (fun e w'=>e=.returned (.tuple #[])∧Mut L w w'∧bs w' L (cu os n q)):=by
 obtain ⟨tn,ta,tl,tc,tb,tm,td⟩:=t;have HX:=Hi (Mut.refl L w);have HR:=Hi h;have HT:=Hi ht;have HZ:=Hi hz;have ZQ:=Hi hzq;have hLw:=h.lt;clear h ht hz hzq;go_enter Tryz.func213,Tryz.ntmps213
 go_upto_region 1 with fail
 refine nmA ?_;intro w1 hE B3 hz_w1 hr_w1;replace HX:=Hi (Mut.trans HX.out (Mut.of_ext hE));refine mV2 hE ?_ HR HT;clear HR HT;intro HR HT;have hs_w1:=hE.size;replace b_B3:=bX3 B3;obtain ⟨b3,hb3⟩:∃ b3,b3=w.heap.size:=⟨_,rfl⟩;have hbw:w.heap.size≤b3:=zo;rw [←hb3] at B3 ⊢;clear hb3 b_B3;go_wp2
 go_loopg [7] n (fun g v wr=>∃ (i:Nat),i+g=n∧v=.int .i64 (i:Nat)∧Mut L w wr∧aB wr ⟨tn,ta,tl,tc,tb,tm,td⟩ q∧wr.heap[b3]?=some (.cells #[.bool tn,.slice ta tl tc,.slice tb tm td] 34 (0,0))∧bs wr L (cu os i q))
 case atStart=>exact ⟨0,zo,rfl,HX.out,HT.out,B3.out,by simpa [cu] using HR.out⟩
 case round =>
  obtain ⟨i,hi,rfl,g1,g2,g3,g4⟩:=hrel;clear HX HR HT B3;have HX:=Hi g1;have HT:=Hi g2;have B3:=Hi g3;have HR:=Hi g4;clear g1 g2 g3 g4;replace b_B3:=bX3 B3;by_cases h0:gk=0
  case neg =>
   have hin:(i:Int)<n:=zo;have HL:Hid ((cu os i q).length=os.length):=Hi (by unfold cu;rw [nXi,nXl,nXk,nXz];omega);have HV:Hid ((cu os i q).getD i 0=os.getD i 0):=Hi (by
    unfold cu;have h1:((os.take i).map (·*q)).length=i:=by rw [nXl,nXk];omega
    rw [nXd,List.getElem?_append_right zo,h1,Nat.sub_self,List.getElem?_drop,Nat.add_zero,←nXd])
   obtain ⟨r,⟨f1,f2,f3⟩,hrc⟩:=bs.cells HR.out (k:=i) (by rw [HL.out];omega);rw [HV.out] at hrc;have HRC:=Hi hrc;clear hrc;have hfz:=bs.frozen HR.out;have hLl:=bs.lt HR.out;have Zi:Hid (Sz S (os.getD i 0)):=Hi (by have:=HZ.out.at (i:=i) (by rw [nXk];omega);rwa [bU zo] at this);obtain ⟨rn,ra,rl,rc,rb,rm,rd⟩:=r;simp only at f1 f2 f3
   go_upto_region 4 with fail
   refine wpG 8 (fun opIx=>match opIx with
    | 7=>sR (os.getD i 0*q)
    | _=>.quiet) (fun _=>[]) fun w0 he0 hz0 hc0 hf0=>?_
   refine wps he0 (fun w1 hW hG=>?_) fun x7=>?_
   ·exact spc [RH.v ⟨rn,ra,rl,rc,rb,rm,rd⟩,RH.v ⟨tn,ta,tl,tc,tb,tm,td⟩] Tryz.func85 (bQ _ _ _ _ _ ((HRC.out.ext hW).raw Zi.out zo) ((HT.out.ext hW).raw ZQ.out zo))
   refine qZ ?_;refine aq ?_;intro w5 hI;have hE:=he0.out.trans hI.ext;have G7:=gT (hI.facts 7);clear hI he0 hz0 hc0 hf0;replace HX:=Hi (Mut.trans HX.out (Mut.of_ext hE));refine mV3 hE ?_ B3 HR HT;clear B3 HR HT;intro B3 HR HT;have hs_w5:=hE.size;replace b_B3:=bX3 B3;simp only [pD];clear f1 f2 f3 hfz hLl;obtain ⟨r2,⟨f1,f2,f3⟩,-⟩:=bs.cells HR.out (k:=i) (by rw [HL.out];omega);have hfz:=bs.frozen HR.out
   go_upto_region 5 with fail
   refine gZ (k:=i) HR.out (by rw [HL.out];omega) G7.out ?_;rintro y6 ⟨cs,T⟩ TN;rw [mT zo] at TN;clear f1 f2 f3 hfz HL HV;clear HR;replace HX:=Hi (Mut.put HX.out T (by first|exact Or.inl rfl|exact Or.inr zo));replace HT:=Hi (HT.out.keep T.keep);replace B3:=Hi (T.rest _ _ zo B3.out);replace G7:=Hi (G7.out.keep T.keep);have hs_y6:=nle T.size;have hr_y6:=nle T.size.symm;clear T;replace b_B3:=bX3 B3;have HR:=Hi TN;clear TN;go_wp2
   go_roundg (gk-1)
   case measure=>omega
   case rel=>exact ⟨i+1,zo,by go_num,HX.out,HT.out,B3.out,HR.out⟩
  subst h0;obtain rfl:i=n:=by omega
  have hin:¬ (i:Int)<i:=zo;go_wp2;exact bodyPost_end (results_none rfl _ _ _) rfl ⟨rfl,HX.out,HR.out⟩
open Stab
theorem bw.celx{w:World}{ao:Option Addr}{n c:Nat}{qs:List Rat}(h:bw w ⟨ao,n,c⟩ qs){k:Nat}(hk:k<n):∃ b off r,ao=some ⟨b,off,none⟩∧b<w.heap.size∧RAt w b (off+k*3) r∧aB w r (qs.getD k 0):=by
 have hl:=h.len;obtain ⟨rs,h1,h2⟩:=h;obtain ⟨b,off,e1,e2⟩:∃ b off,ao=some ⟨b,off,none⟩∧RAt w b (off+k*3) (rs.getD k default):=by
  rcases h1.at' with h0|⟨b,off,e,hc⟩
  ·have h0:n=0:=h0;omega
  ·exact ⟨b,off,e,hc k hk⟩
 exact ⟨b,off,_,e1,nXq _ _ e2.1,e2,h2.2 k (by rw [hl];exact hk)⟩
theorem LIn.celx{w:World}{ao:Option Addr}{n c lo hi:Nat}{qs:List Rat}(h:LIn w ⟨ao,n,c⟩ qs lo hi){k:Nat}(hk:k<n):∃ b off r,ao=some ⟨b,off,none⟩∧b<w.heap.size∧RAt w b (off+k*3) r∧aB w r (qs.getD k 0):=h.can.celx hk
abbrev MT(x:RH×SH):Value:=.tuple #[x.1.v,x.2.v]
theorem bV{S D:Nat}{p:List Rat}(hS:1≤S)(hD:0<D)(hl:D<W32 ^ S)(h:∀ x ∈ p,Fr S D x):SzL S p:=fun x hx=>(h x hx).sz hS hD hl
theorem gC{p:List Rat}{i:Nat}(hi:i<p.length):p.take (i+1)=p.take i++[p.getD i 0]:=by
 rw [List.take_add_one,List.getElem?_eq_getElem hi,nXd,List.getElem?_eq_getElem hi];rfl
theorem jC(ao:Option Addr)(n cap:Nat)(l:List Rat)(S D:Nat)(w:World)(h:cD w ⟨ao,n,cap⟩ l)(hn:n≤1000000)(hS:1≤S)(hS2:S≤30000000)(hD:0<D)(hl:D<W32 ^ S)(hf:∀ x ∈ l,Fr S D x) :
  au 164 [.slice ao n cap] w MT (fun x w'=>aB w' x.1 (aK l)∧dF w.heap.size w' x.2 (ar l)):=by
 obtain ⟨i0,hi0,hz0,hz1,hz2⟩:=info_parts k9;have HX:=Hi (Ext.refl w);have LP:=Hi h;have hle:=h.le;have hmx:=h.max;have Hlen:=Hi h.len;simp only at hle hmx Hlen;have HSz:=Hi (bV hS hD hl hf);clear h;unfold au;go_enter Tryz.func164,Tryz.ntmps164
 go_upto_region 1 with fail
 refine nmA ?_;intro w1 hE B2 hz_w1 hr_w1;replace HX:=hE.tr HX;have hs_w1:=hE.size;replace b_B2:=bX3 B2
 go_wp2_with fail
 refine cM (fi ao n cap l _ (LP.out.ext HX.out)) fun x2 w2 hE G2=>?_
 refine mV2 hE ?_ B2 HX;clear B2 HX;intro B2 HX;have hs_w2:=hE.size;replace b_B2:=bX3 B2;obtain ⟨q1,q2⟩:=G2.out;obtain ⟨P,hP⟩:∃ P,P=(tz l).length:=⟨_,rfl⟩;obtain ⟨p,hp⟩:∃ p,p=tz l:=⟨_,rfl⟩;have LQ:Hid (cD w ⟨ao,P,cap⟩ p):=Hi (by rw [hp,q1,hP];exact LP.out.take q2);have HPl:Hid (p.length=P):=Hi (by rw [hp,hP]);have HM:Hid (aK l=bj p):=Hi (by rw [hp];rfl);have HSL:Hid (ar l=p.map (· / bj p)):=Hi (by rw [hp];rfl);have HM0:Hid (p≠[]→bj p≠0):=Hi (fun h0=>by
  rw [hp] at h0 ⊢;have:=aZ h0;exact fun h1=>by rw [show aK l=0 from h1] at this;exact absurd this Rat.lt_irrefl)
 have HFp:Hid (∀ x ∈ p,Fr S D x):=Hi (fun x hx=>hf x (by rw [hp,q1] at hx;exact List.mem_of_mem_take hx));have hPn:P≤n:=zo;rw [←hP];clear hP hp q1 q2 G2 hf HSz Hlen;clear LP
 go_wp2_with fail
 refine cM (d9 0 _ dZ dZ) fun x3 w3 hE G3=>?_
 refine mV2 hE ?_ B2 HX;clear B2 HX;intro B2 HX;have hs_w3:=hE.size;replace b_B2:=bX3 B2
 go_upto_region 3 with fail
 refine nmA ?_;intro w4 hE B4 hz_w4 hr_w4;refine mV3 hE ?_ G3 B2 HX;clear G3 B2 HX;intro G3 B2 HX;have hs_w4:=hE.size;replace b_B2:=bX3 B2;replace b_B4:=bX3 B4;obtain ⟨b2,hb2⟩:∃ b2,b2=w.heap.size:=⟨_,rfl⟩;obtain ⟨b4,hb4⟩:∃ b4,b4=w3.heap.size:=⟨_,rfl⟩;have hbw:w.heap.size≤b2:=zo;have hb24:b2≠b4:=zo;have hb4w:w.heap.size≤b4:=zo;rw [←hb2] at B2 ⊢;rw [←hb4] at B4 ⊢;clear hb2 hb4 b_B2 b_B4;go_wp2
 go_loopg [15] P (fun g v wr=>∃ (i:Nat) (m:RH),i+g=P∧v=.int .i64 (i:Nat)∧Ext w wr∧wr.heap[b2]?=some (.cells #[.bool false,.slice none 0 0,.slice none 0 0] 34 (0,0))∧wr.heap[b4]?=some (.cells #[.bool m.neg,.slice m.a m.n m.c,.slice m.b m.m m.d] 34 (0,0))∧aB wr m (bj (p.take i)))
 case atStart=>exact ⟨0,x3,zo,rfl,HX.out,B2.out,B4.out,G3.out⟩
 case round =>
  obtain ⟨i,m,hi,rfl,g1,g3,g4,g5⟩:=hrel;obtain ⟨mn,ma,ml,mc,mb,mm,md⟩:=m;clear HX B2 B4 G3;have HX:=Hi g1;have B2:=Hi g3;have B4:=Hi g4;have HM2:=Hi g5;clear g1 g3 g4 g5;replace b_B2:=bX3 B2;replace b_B4:=bX3 B4;by_cases h0:gk=0
  case neg =>
   have hin:(i:Int)<P:=zo;obtain ⟨b,off,r,hao,hbl,⟨hc1,hc2,hc3⟩,hPc⟩:=(LQ.out.ext HX.out).cells' (k:=i) zo;obtain ⟨rneg,ra,rn,rc,rb,rm,rd⟩:=r;simp only at hc1 hc2 hc3;have HC:=Hi hPc;clear hPc;have HAO:=Hi hao;subst hao
   go_upto_region 6 with fail
   clear hc1 hc2 hc3;have hb4r:b4<wr.heap.size:=b_B4.2.2;refine nmA ?_;intro w6 hE B6 hz_w6 hr_w6;refine mV5 hE ?_ HX B2 B4 HM2 HC;clear HX B2 B4 HM2 HC;intro HX B2 B4 HM2 HC;have hs_w6:=hE.size;replace b_B2:=bX3 B2;replace b_B4:=bX3 B4;replace b_B6:=bX3 B6;have Zm:Hid (Sz S (bj (p.take i))):=Hi ((ir fun x hx=>HFp.out x (List.mem_of_mem_take hx)).sz hS hD hl);have Zc:Hid (Sz S (p.getD i 0)):=Hi ((bV hS hD hl HFp.out).at (by rw [HPl.out];omega))
   go_wp2_with fail
   refine cM (pe ⟨mn,ma,ml,mc,mb,mm,md⟩ ⟨rneg,ra,rn,rc,rb,rm,rd⟩ (bj (p.take i)) (p.getD i 0) S _ HM2.out HC.out Zm.out Zc.out zo) fun x7 w7 hE G7=>?_
   refine mV6 hE ?_ B6 HX B2 B4 HM2 HC;clear B6 HX B2 B4 HM2 HC;intro B6 HX B2 B4 HM2 HC;have hs_w7:=hE.size;replace b_B2:=bX3 B2;replace b_B4:=bX3 B4;replace b_B6:=bX3 B6
   go_upto_region 7 with fail
   refine bi B4.out rfl ?_;intro w8 T;replace HX:=Hi (T.ext HX.out zo);replace B2:=Hi (T.rest _ _ zo B2.out);replace B4:=Hi (T.bx);replace HM2:=Hi (HM2.out.keep T.keep);replace HC:=Hi (HC.out.keep T.keep);replace B6:=Hi (T.rest _ _ zo B6.out);replace G7:=Hi (G7.out.keep T.keep);have hs_w8:=nle T.size;have hr_w8:=nle T.size.symm;clear T;replace b_B2:=bX3 B2;replace b_B4:=bX3 B4;replace b_B6:=bX3 B6;have HMn:Hid (aB w8 x7 (bj (p.take (i+1)))):=Hi (by rw [gC (by rw [HPl.out];omega),ep];exact G7.out);go_wp2
   go_roundg (gk-1)
   case measure=>omega
   case rel=>exact ⟨i+1,x7,zo,by go_num,HX.out,B2.out,B4.out,HMn.out⟩
  subst h0;obtain rfl:i=P:=by omega
  have hin:¬ (i:Int)<i:=zo;have HM3:Hid (aB wr ⟨mn,ma,ml,mc,mb,mm,md⟩ (bj p)):=Hi (by
   have:=HM2.out;rw [nXm (by rw [HPl.out];exact nXe _)] at this;exact this)
  clear HM2;have hXr:=HX.out.size;have hb2r:b2<wr.heap.size:=b_B2.2.2;have hb4r:b4<wr.heap.size:=b_B4.2.2
  go_upto_region 9 with (refine aF rfl (.tmp 24) (.tmp 24) 24 rfl 34 i0 (RH.v default) 3 Tryz.underlying24 hi0 hz0 hz1 _ _ i rfl rfl zo zo (by rw [hz2];omega) zo ?_;intro y1 hnew hE)
  have KB:=Hi (RBk.make rfl hnew);clear hnew;refine mV4 hE ?_ HX B2 B4 HM3;clear HX B2 B4 HM3;intro HX B2 B4 HM3;have hs_y1:=hE.size;replace b_B2:=bX3 B2;replace b_B4:=bX3 B4;obtain ⟨L,hL⟩:∃ L,L=wr.heap.size:=⟨_,rfl⟩;have hLw:w.heap.size≤L:=zo;have hL2:b2≠L:=zo;have hL4:b4≠L:=zo;rw [←hL] at KB ⊢;clear hL hs_y1 b_B2 b_B4;go_wp2
  go_loopg [28] i (fun g v wr=>∃ (j:Nat) (rs:List RH),j+g=i∧v=.int .i64 (j:Nat)∧Ext w wr∧wr.heap[b2]?=some (.cells #[.bool false,.slice none 0 0,.slice none 0 0] 34 (0,0))∧wr.heap[b4]?=some (.cells #[.bool mn,.slice ma ml mc,.slice mb mm md] 34 (0,0))∧aB wr ⟨mn,ma,ml,mc,mb,mm,md⟩ (bj p)∧RBk wr L rs #[]∧rs.length=i∧jV wr rs ((p.take j).map (· / bj p)))
  case atStart=>exact ⟨0,_,zo,rfl,HX.out,B2.out,B4.out,HM3.out,KB.out,by simp,fun j hj=>by simp at hj⟩
  case round =>
   obtain ⟨j,rs,hj,rfl,g1,g3,g4,g5,g6,g7,g8⟩:=hrel;clear HX B2 B4 HM3 KB;have HX:=Hi g1;have B2:=Hi g3;have B4:=Hi g4;have HM3:=Hi g5;have KB:=Hi g6;have HRl:=Hi g7;have PC:=Hi g8;clear g1 g3 g4 g5 g6 g7 g8;replace b_B2:=bX3 B2;replace b_B4:=bX3 B4
   try clear f_KB l_KB
   have f_KB:=af KB.out;have l_KB:=(nXb.1 KB.out).1;by_cases h0:gk=0
   case neg =>
    have hin2:(j:Int)<i:=zo;obtain ⟨b,off,r,hao,hbl,⟨hc1,hc2,hc3⟩,hPc⟩:=(LQ.out.ext HX.out).cells' (k:=j) zo;obtain ⟨rneg,ra,rn,rc,rb,rm,rd⟩:=r;simp only at hc1 hc2 hc3;have HC:=Hi hPc;clear hPc;subst hao
    go_upto_region 12 with fail
    clear hc1 hc2 hc3;have hLr:L<wr.heap.size:=l_KB;refine nmA ?_;intro y6 hE B9 hz_y6 hr_y6;refine mV7 hE ?_ HX B2 B4 HM3 KB PC HC;clear HX B2 B4 HM3 KB PC HC;intro HX B2 B4 HM3 KB PC HC;have hs_y6:=hE.size;replace b_B2:=bX3 B2;replace b_B4:=bX3 B4
    try clear f_KB l_KB
    have f_KB:=af KB.out;have l_KB:=(nXb.1 KB.out).1;replace b_B9:=bX3 B9;have Zm:Hid (Sz S (bj p)):=Hi ((ir HFp.out).sz hS hD hl);have Zc:Hid (Sz S (p.getD j 0)):=Hi ((bV hS hD hl HFp.out).at (by rw [HPl.out];omega));have Hm0:Hid (bj p≠0):=Hi (HM0.out fun h=>by have:=HPl.out;rw [h] at this;simp at this;omega)
    go_wp2_with fail
    refine cM (cF ⟨rneg,ra,rn,rc,rb,rm,rd⟩ ⟨mn,ma,ml,mc,mb,mm,md⟩ (p.getD j 0) (bj p) _ HC.out (HM3.out.raw Zm.out zo) Hm0.out) fun x7 w7 hE G7=>?_
    refine mV8 hE ?_ B9 HX B2 B4 HM3 KB PC HC;clear B9 HX B2 B4 HM3 KB PC HC;intro B9 HX B2 B4 HM3 KB PC HC;have hs_w7:=hE.size;replace b_B2:=bX3 B2;replace b_B4:=bX3 B4
    try clear f_KB l_KB
    have f_KB:=af KB.out;have l_KB:=(nXb.1 KB.out).1;replace b_B9:=bX3 B9;obtain ⟨f1,f2,f3⟩:=RBk.at (re:=#[]) KB.out (k:=j) (by rw [HRl.out];omega)
    go_upto_region 13 with fail
    refine jc (k:=j) KB.out rfl (by rw [HRl.out];omega) ?_;intro y8 T;clear f1 f2 f3;replace HX:=Hi (T.ext HX.out zo);replace B2:=Hi (T.rest _ _ zo B2.out);replace B4:=Hi (T.rest _ _ zo B4.out);replace HM3:=Hi (HM3.out.keep T.keep);replace PC:=Hi (PC.out.keep T.keep);replace KB:=Hi (T.bx);replace HC:=Hi (HC.out.keep T.keep);replace B9:=Hi (T.rest _ _ zo B9.out);replace G7:=Hi (G7.out.keep T.keep);have hs_y8:=nle T.size;have hr_y8:=nle T.size.symm;clear T;replace b_B2:=bX3 B2;replace b_B4:=bX3 B4
    try clear f_KB l_KB
    have f_KB:=af KB.out;have l_KB:=(nXb.1 KB.out).1;replace b_B9:=bX3 B9;replace PC:=Hi (PC.out.snoc (x:=x7) (i:=j) (by rw [nXl,nXk,HPl.out];omega) (by rw [HRl.out];omega) G7.out);have HRp:Hid ((p.take j).map (· / bj p)++[p.getD j 0 / bj p]=(p.take (j+1)).map (· / bj p)):=Hi (by rw [gC (by rw [HPl.out];omega),List.map_append];rfl);rw [HRp.out] at PC;go_wp2
    go_roundg (gk-1)
    case measure=>omega
    case rel=>exact ⟨j+1,_,zo,by go_num,HX.out,B2.out,B4.out,HM3.out,KB.out,by rw [nXo];exact HRl.out,PC.out⟩
   subst h0;obtain rfl:j=i:=by omega
   have hin:¬ (j:Int)<j:=zo;have HO:Hid (bs wr L (ar l)):=Hi (by
    have:=PC.out;rw [nXm (by rw [HPl.out];exact nXe _),←HSL.out] at this;exact this.row KB.out HRl.out (by rw [HSL.out,nXl,HPl.out]))
   have HOl:Hid ((ar l).length=j):=Hi (by rw [HSL.out,nXl,HPl.out]);clear KB;clear PC;go_wp2;refine bi (F:=fun W=>bodyPost _ _ _ _ _ W) B2.out rfl ?_;intro y9 T;replace HX:=Hi (T.ext HX.out zo);replace B2:=Hi (T.bx);replace B4:=Hi (T.rest _ _ zo B4.out);replace HM3:=Hi (HM3.out.keep T.keep);replace HO:=Hi (HO.out.put T zo);have hs_y9:=nle T.size;have hr_y9:=nle T.size.symm;clear T;replace b_B2:=bX3 B2;replace b_B4:=bX3 B4;exact nXa (v:=MT (⟨mn,ma,ml,mc,mb,mm,md⟩,⟨some ⟨L,0,none⟩,j,j⟩)) (by simp [results,Tryz.results164,go_sem,MT,b_B2.1]) rfl
    ⟨(⟨mn,ma,ml,mc,mb,mm,md⟩,⟨some ⟨L,0,none⟩,j,j⟩),rfl,HX.out,by rw [HM.out];exact HM3.out,L,hLw,by rw [HOl.out],HO.out⟩
theorem jD(ao:Option Addr)(n cap:Nat)(l:List Rat)(S D:Nat)(w:World)(h:bw w ⟨ao,n,cap⟩ l)(hn:n≤1000000)(hS:1≤S)(hS2:S≤30000000)(hD:0<D)(hl:D<W32 ^ S)(hf:∀ x ∈ l,Fr S D x) :
  au 164 [.slice ao n cap] w MT (fun x w'=>aB w' x.1 (aK l)∧dF w.heap.size w' x.2 (ar l)):=jC ao n cap l S D w (h.raw (bV hS hD hl hf) zo) hn hS hS2 hD hl hf
theorem kE{w:World}{b off n:Nat}{rs:List RH}(hl:rs.length=n)(hc:∀ k,k<n→RAt w b (off+k*3) (rs.getD k default)):∀ j u,(aA rs)[j]?=some u→w.cell? ((⟨b,off,none⟩:Addr).add j)=some u:=by
 intro j u hj;have hlt:j<(aA rs).length:=(List.getElem?_eq_some_iff.1 hj).1;rw [aL,hl] at hlt;obtain ⟨k,i,hk,hi,rfl⟩:∃ k i,k<n∧i<3∧j=k*3+i:=⟨j / 3,j % 3,zo,zo,zo⟩;rw [gB rs zo hi] at hj;obtain ⟨h1,h2,h3⟩:=hc k hk;rw [gO];have hi3:i=0∨i=1∨i=2:=by omega
 rcases hi3 with rfl|rfl|rfl
 ·have:u=.bool (rs.getD k default).neg:=by simpa [i9] using hj.symm
  rw [this,←h1];congr 2
 ·have:u=.slice (rs.getD k default).a (rs.getD k default).n (rs.getD k default).c:=by simpa [i9] using hj.symm
  rw [this,←h2];congr 2
 ·have:u=.slice (rs.getD k default).b (rs.getD k default).m (rs.getD k default).d:=by simpa [i9] using hj.symm
  rw [this,←h3];congr 2
theorem jq{w:World}{ops:Array Oper}{rest:List Oper}{o:Oper}{a:Act}{Q:Exit→Act→World→Prop}(hgd:o.guard=none)(s x:Operand)(T:TypeId)(hT:Tryz.prog.underlying T=some (.slice 34))
 (ho:o.op=.call { callee:=.builtin .append,args:=#[s,x],argTypes:=#[T,T] })(N:Nat)(hs:a.eval s=.slice (some ⟨N,0,none⟩) 0 0)(b off n c:Nat)(rs:List RH)(hx:a.eval x=.slice (some ⟨b,off,none⟩) n c)
 (hl:rs.length=n)(hn0:0<n)(hn:n≤1073741824)(hc:∀ k,k<n→RAt w b (off+k*3) (rs.getD k default))
 (h:∀ w' cap re,n≤cap→cap≤9223372036854775807→Ext w w'→RBk w' w.heap.size rs re→re.toList.all fj=true→wpList Tryz.prog ops Q rest (a.put o.dst (.slice (some ⟨w.heap.size,0,none⟩) n cap)) w'):wpList Tryz.prog ops Q (o :: rest) a w:=by
 obtain ⟨i0,hi0,hz0,hz1,hz2⟩:=info_parts k9;have hgc:∀ need old,need≤9223372036854775807→need≤grownCap w need old 34∧grownCap w need old 34≤9223372036854775807:=fun need old h=>⟨grownCap_ge _ _ _ _,by have:=grownCap_le_maxLen w need old 34 (by simpa [maxLen] using h);simpa [maxLen] using this⟩
 have hr:=run_append_grow (P:=Tryz.prog) w T o.type _ i0 _ hT hi0 hz0 ⟨N,0,none⟩ 0 0 [] (by simp) (fun j u hj=>by simp at hj) ⟨b,off,none⟩ n c (aA rs) (by rw [aL,hl,hz1]) (kE hl hc) zo zo (growslice_fits zo (by rw [hz2];omega));rw [show ([]:List Value).toArray++(aA rs).toArray=(aA rs).toArray from by simp] at hr;simp only [Nat.zero_add] at hr;obtain ⟨g1,g2⟩:=hgc n 0 zo;have he:Ext w (w.drew.alloc (.cells ((aA rs).toArray++Builtin.zeroCells (RH.v default).cells (grownCap w n 0 34-n)) 34)):=(Ext.drew w).trans (Ext.alloc _ _);have hb:RBk (w.drew.alloc (.cells ((aA rs).toArray++Builtin.zeroCells (RH.v default).cells (grownCap w n 0 34-n)) 34)) w.heap.size rs (Builtin.zeroCells (RH.v default).cells (grownCap w n 0 34-n)):=by
  unfold RBk;exact heap_alloc_new w.drew _
 have hh:=h _ _ _ g1 g2 he hb (dz _);refine wpList_plain hgd fun K hK=>?_
 unfold Oper.wp;simp [execOp,ho,resolve,invoke,builtin,hs,hx,hr,Result.andThen];exact hK _ _ hh
theorem C4(w:World)(a:Option Addr)(n c:Nat):(binOp .eql 24 (.slice a n c) (.slice none 0 0)).run Tryz.prog w=.ok (.bool a.isNone) w:=by
 have h:∀ d:Nat,(Op.equalIn (d+1) 24 (.slice a n c) (.slice none 0 0)).run Tryz.prog w=.ok a.isNone w:=fun d=>by
  cases a <;> simp [Op.equalIn,run_underlying Tryz.underlying24]
 simp only [binOp];simp [Op.equal,Op.maxDepth,h]
attribute [local go_sem] C4
theorem lV(ao:Option Addr)(n cap:Nat)(l:List Rat)(w:World)(h:bw w ⟨ao,n,cap⟩ l)(hn:n≤1000000)(h0:0<n) :
  au 206 [.slice ao n cap] w SH.v (fun x w'=>∃ L c,w.heap.size≤L∧n≤c∧c≤9223372036854775807∧x=⟨some ⟨L,0,none⟩,n,c⟩∧bs w' L l):=by
 obtain ⟨rs,h1,h2⟩:=h;have hl:rs.length=n:=h1.len;have H2:=Hi h2;obtain ⟨b,off,rfl,hc⟩:∃ b off,ao=some ⟨b,off,none⟩∧∀ k,k<n→RAt w b (off+k*3) (rs.getD k default):=by
  rcases h1.at' with h3|⟨b,off,e,hc⟩
  ·have h3:n=0:=h3;omega
  ·exact ⟨b,off,e,hc⟩
 have HC:=Hi hc;have hE:Hid (Ext w (w.alloc (.cells #[] 34))):=Hi (Ext.alloc _ _);clear h1 h2 hc;unfold au;go_enter Tryz.func206,Tryz.ntmps206
 go_wp2_with (at_builtin;refine jq rfl (.tmp 5) (.tmp 6) 24 Tryz.underlying24 rfl w.heap.size rfl b off n cap rs rfl hl h0 zo (fun k hk=>(HC.out k hk).ext hE.out) ?_;intro w' c re g1 g2 g3 g4 g5)
 rw [nXc] at g4
 go_ret
 exact ⟨⟨some ⟨w.heap.size+1,0,none⟩,n,c⟩,rfl,hE.out.trans g3,_,c,Nat.le_succ _,g1,g2,rfl,rs,re,g4,g5,H2.out.can_ext (hE.out.trans g3)⟩
theorem j8(ao:Option Addr)(n cap:Nat)(l:List Rat)(S:Nat)(w:World)(h:bw w ⟨ao,n,cap⟩ l)(hn:n≤1000000)(hS:S≤8000000)(hz:SzL S l) :
  au 136 [.slice ao n cap] w SH.v (fun x w'=>eL w.heap.size w' x (bq l)):=by
 have HX:=Hi (Ext.refl w);have LP:=Hi h.lin;have HSz:=Hi hz;have Hlen:=Hi h.len;simp only at Hlen;clear h hz;unfold au;go_enter Tryz.func136,Tryz.ntmps136
 go_wp2_with fail
 refine cM (bJ ao n cap l _ (LP.out.can.raw HSz.out zo) zo) fun x4 w4 hE G4=>?_
 refine mV2 hE ?_ HX LP;clear HX LP;intro HX LP;have hs_w4:=hE.size;obtain ⟨pa,P,pc⟩:=x4;have hP:=G4.out.len;simp only at hP;obtain ⟨p,hp⟩:∃ p,p=tz l:=⟨_,rfl⟩;rw [←hp] at G4 hP;have HTZ:=Hi hp;have HSp:Hid (SzL S p):=Hi (by rw [hp];exact SzL.tz HSz.out);have hPn:P≤n:=by rw [←hP,hp,←Hlen.out];exact ah l
 have hHP:=Hi hP;have HG:Hid (LIn w4 ⟨pa,P,pc⟩ p w.heap.size w4.heap.size):=Hi G4.out;clear hp hP Hlen;clear LP;clear G4;simp only [SH.v];by_cases h0:P=0
 case pos =>
  subst h0;have HV:Hid (bq l=[]):=Hi (by unfold bq;rw [if_pos (by rw [←HTZ.out];exact nXj.1 hHP.out)]);go_wp2
  go_ret
  exact ⟨⟨none,0,0⟩,rfl,HX.out,by rw [HV.out];exact eL.nil _ _⟩
 obtain ⟨m,rfl⟩:∃ m,P=m+1:=⟨P-1,zo⟩;have hz0:((m:Int)+1 == 0)=false:=by rw [nXs];omega
 have Hne:Hid (tz l≠[]):=Hi (by rw [←HTZ.out];intro h;have:=hHP.out;rw [h] at this;simp at this);have HL:Hid (aJ (tz l)=p.getD m 0):=Hi (by unfold aJ;rw [←HTZ.out,hHP.out];rfl);have Zc:Hid (Sz S (p.getD m 0)):=Hi (HSp.out.at (by rw [hHP.out];omega));have ZI:Hid (Sz (1+S) (((1:Int):Rat) / p.getD m 0)):=Hi ((Sz.int dZ).div Zc.out);have HV:Hid (bq l=bS p (((1:Int):Rat) / p.getD m 0)):=Hi (by unfold bq bS;rw [if_neg Hne.out,HL.out,←HTZ.out]);obtain ⟨b,off,r,hao,hbl,⟨hc1,hc2,hc3⟩,hPc⟩:=HG.out.celx (k:=m) zo;obtain ⟨rneg,ra,rn,rc,rb,rm,rd⟩:=r;simp only at hc1 hc2 hc3;have HC:=Hi hPc;clear hPc h0;subst hao
 go_upto_region 4 with fail
 refine wpG 10 (fun opIx=>match opIx with
  | 1=>sR (((1:Int):Rat))
  | 8=>sR (((1:Int):Rat) / p.getD m 0)
  | 9=>.spec (SH) (default) (SH.v) (fun x w'=>eL w.heap.size w' x (bS p (((1:Int):Rat) / p.getD m 0)))
  | _=>.quiet) (fun|8=>[1]|9=>[8]|_=>[]) fun w0 he0 hz0 hc0 hf0=>?_
 refine wps he0 (fun w1 hW hG=>?_) fun x20=>?_
 ·exact spc [.int .i64 1] Tryz.func36 (aO 1 _ dZ dZ)
 refine qZ ?_;refine wps he0 (fun w1 hW hG=>?_) fun x21=>?_
 ·have g20:=gS (hG 1 dZ);exact spc [x20.v,RH.v ⟨rneg,ra,rn,rc,rb,rm,rd⟩] Tryz.func35 (eQ x20 _ _ _ _ (g20.raw (Sz.int dZ) dZ) ((HC.out.ext hW).raw Zc.out zo))
 refine qZ ?_;refine wps he0 (fun w1 hW hG=>?_) fun x22=>?_
 ·have g21:=gS (hG 8 dZ);exact spc [.slice (some ⟨b,off,none⟩) (m+1:Nat) pc,x21.v] Tryz.func51 ((gy (some ⟨b,off,none⟩) (m+1) pc p x21 (((1:Int):Rat) / p.getD m 0) _ ((HG.out.ext hW).can.raw HSp.out zo) (g21.raw ZI.out zo) zo (HSp.out.mono zo) (ZI.out.mono zo)).wk (fun _ _ _ h=>h.mono (by have:=hW.size;omega)))
 refine qZ ?_;refine aq ?_;intro w5 hI;have hE:=he0.out.trans hI.ext;have G20:=gT (hI.facts 1);have G21:=gT (hI.facts 8);have G22:=gT (hI.facts 9);clear hI he0 hz0 hc0 hf0;refine mV3 hE ?_ HX HG HC;clear HX HG HC;intro HX HG HC;have hs_w5:=hE.size;simp only [pD];clear hc1 hc2 hc3;go_wp2
 go_ret
 exact ⟨x22,rfl,HX.out,by rw [HV.out];exact G22.out⟩
end Go.Proofs.YtafgmcimcbhhjaaGreat
