import Derived.Test.YtkcpmclnocmalaaGreatQMBn4
import Derived.Deep.DeepCutAuto
set_option linter.unusedVariables false
set_option maxRecDepth 8000
set_option maxHeartbeats 16000000
namespace Go.Proofs.YtkcpmclnocmalaaGreat
open Go.RowKit Go.Front Go.Num Stab
attribute [local go_sem] XW.cell XW.frozen
theorem DD{a b:Rat}{T:Nat}(za:Sz T a)(zb:Sz T b):SzL (2*T+1) [a,(b-a).abs]:=by
 have zw:Sz (2*T+1) (b-a).abs:=by
  have h:=(zb.sub za).mono (show T+T+1≤2*T+1 by omega);rcases oV (b-a) with e|e <;> rw [e]
  ·exact h
  ·exact h.neg
 intro x hx;rcases List.mem_cons.1 hx with rfl|h
 ·exact za.mono zo
 ·rw [nXv.1 h];exact zw
theorem uz{w:World}{N:Nat}{r t:RH}{n1 n2:Bool}{a b a' b':Option Addr}{n c m d n' c' m' d':Nat}(h:w.heap[N]?=some (.cells #[.bool n1,.slice a n c,.slice b m d,.bool n2,.slice a' n' c',.slice b' m' d'] 37 (0,0)))(hr:r=⟨n1,a,n,c,b,m,d⟩)(ht:t=⟨n2,a',n',c',b',m',d'⟩):RBk w N [r,t] #[]:=by
 subst hr ht;unfold RBk;rw [h];rfl
theorem wO{w:World}{N:Nat}{r t:RH}{x y:Rat}(h:RBk w N [r,t] #[])(h1:aA w r x)(h2:aA w t y):bg w ⟨some ⟨N,0,none⟩,2,2⟩ [x,y] :=
 ⟨[r,t],h.rs rfl (nXe _) dZ,rfl,fun k hk=>by
  have hk:k<2:=hk;have:k=0∨k=1:=by omega
  rcases this with rfl|rfl
  ·exact h1
  ·exact h2⟩
theorem Dn{w1:World}{b b':Nat}{T T':TypeId}{c0 c1 c2 v0 v1 v2 c0' c1' c2' v0' v1' v2':Value}{F:World→Prop}(hb:w1.heap[b]?=some (.cells #[c0,c1,c2] T (0,0)))(hn:#[c0,c1,c2].toList.all dL=true)
 (hb':w1.heap[b']?=some (.cells #[c0',c1',c2'] T' (0,0)))(hn':#[c0',c1',c2'].toList.all dL=true)(hne:b'≠b)
 (H:∀ w2 w3,cT w1 b T #[v0,v1,v2] w2→cT w2 b' T' #[v0',v1',v2'] w3→F w3) :
  F ((((((w1.setCell ⟨b,0,none⟩ v0).setCell ⟨b,1,none⟩ v1).setCell ⟨b,2,none⟩ v2).setCell ⟨b',0,none⟩ v0').setCell ⟨b',1,none⟩ v1').setCell ⟨b',2,none⟩ v2') :=
 aN (v0:=v0) (v1:=v1) (v2:=v2) (F:=fun W=>F (((W.setCell ⟨b',0,none⟩ v0').setCell ⟨b',1,none⟩ v1').setCell ⟨b',2,none⟩ v2')) hb hn fun w2 T2 =>
  aN (v0:=v0') (v1:=v1') (v2:=v2') (F:=F) (T2.rest _ _ hne hb') hn' fun w3 T3=>H w2 w3 T2 T3
def LcE(w:World)(b5 b7 b9 b10 b11:Nat)(xf xg xs xd:RH)(F G s d:Rat)(pl:SH)(p:List Rat)(H0 H1:Nat):Prop :=
 w.heap[b5]?=some (.cells #[.bool false,.slice none 0 0,.slice none 0 0] 37 (0,0)) ∧
 w.heap[b7]?=some (.cells #[.bool xf.neg,.slice xf.a xf.n xf.c,.slice xf.b xf.m xf.d] 37 (0,0)) ∧
 w.heap[b9]?=some (.cells #[.bool xg.neg,.slice xg.a xg.n xg.c,.slice xg.b xg.m xg.d] 37 (0,0)) ∧
 w.heap[b10]?=some (.cells #[.bool xs.neg,.slice xs.a xs.n xs.c,.slice xs.b xs.m xs.d] 37 (0,0)) ∧
 w.heap[b11]?=some (.cells #[.bool xd.neg,.slice xd.a xd.n xd.c,.slice xd.b xd.m xd.d] 37 (0,0)) ∧
 aA w xf F∧aA w xg G∧aA w xs s∧aA w xd d∧LIn w pl p H0 H1
theorem DE{a b:Rat}{T:Nat}(za:Sz T a)(zb:Sz T b):Wz (4*T+3) (grV a b)∧Wz (6*T+4) (a*grV a b)∧Wz (6*T+4) ((b-a).abs*grV a b):=by
 have zw:Sz (2*T+1) (b-a).abs:=by
  have h:=(zb.sub za).mono (show T+T+1≤2*T+1 by omega);rcases oV (b-a) with e|e <;> rw [e]
  ·exact h
  ·exact h.neg
 have hl:SzL (2*T+1) [a,(b-a).abs]:=by
  intro x hx;rcases List.mem_cons.1 hx with rfl|h
  ·exact za.mono zo
  ·rw [nXv.1 h];exact zw
 have h1:=wF hl 2 (nXe _);rw [show [a,(b-a).abs].take 2=[a,(b-a).abs] from rfl] at h1;have h2:=AQ [a,(b-a).abs];have e:cg (2*T+1) 2=4*T+3:=by unfold cg;omega
 rw [e] at h1;unfold grV;refine ⟨Wz.of h2.1 h1,?_,?_⟩
 ·rw [nYd];exact Wz.of (h2.2 a (by simp)) ((h1.mul za).mono zo)
 ·rw [nYd];exact Wz.of (h2.2 _ (by simp)) ((h1.mul zw).mono zo)
def lcU(S T:Nat):Nat:=9*S+32*T+26
theorem FM{p:List Rat}{S T:Nat}{G:Rat}(hp:SzL S p)(h8:p.length≤8)(hG:Wz (4*T+3) G):Wz (8*S+1) (fX p)∧(∀ k,k<p.length→Wz (9*S+1) (p.getD k 0*fX p))∧∀ j k,j<p.length→Wz (lcU S T) (p.getD k 0*fX p*G ^ j):=by
 have h1:=wF hp p.length (nXe _);rw [nXm (nXe _)] at h1;have hm:=nXh S h8;have h1':Sz (8*S+1) (fX p):=h1.mono (by unfold cg;omega);have h2:=AQ p;have h3:∀ k,k<p.length→Wz (9*S+1) (p.getD k 0*fX p):=fun k hk=>by
  have hx:p.getD k 0 ∈ p:=by rw [nXd,List.getElem?_eq_getElem hk];exact List.getElem_mem hk
  rw [nYd];exact Wz.of (h2.2 _ hx) ((h1'.mul (hp _ hx)).mono zo)
 refine ⟨Wz.of h2.1 h1',h3,fun j k hj=>?_⟩;have hg:Wz (32*T+25) (G ^ j):=(hG.pow j).mono (by have:=nXh (4*T+3) (show j≤8 by omega);omega);by_cases hk:k<p.length
 ·exact ((h3 k hk).mul hg).mono (by unfold lcU;omega)
 ·rw [bu zo,nYb,nYb];exact Wz.zero _
theorem BX{p:List Rat}{a w F G:Rat}{S T:Nat}(hF:F=fX p)(hp:SzL S p)(h8:p.length≤8)(hG:Wz (4*T+3) G)(ha:Wz (6*T+4) (a*G))(hw:Wz (6*T+4) (w*G)){j:Nat}(hj:j≤p.length):∀ k,Wz (9*S+80*T+66) (hc p a w F G j k):=fun k=>by
 subst hF;refine (Fj ha hw (FM hp h8 hG).2.2 j hj k).mono ?_;have:=nXh (6*T+4+1) (show j≤8 by omega);unfold lcU;omega
theorem qi{a b:Rat}(h:a≤b):(b-a).abs=b-a:=Rat.abs_of_nonneg (by grind)
theorem AD{p:List Rat}{a b:Rat}{S T:Nat}(hp:SzL S p)(h8:p.length≤8)(za:Sz T a)(zb:Sz T b)(hab:a≤b):∀ x ∈ lcW p a b,Wz (9*S+80*T+76) x:=by
 intro x hx;obtain ⟨i,hi,rfl⟩:=nYg.1 hx;have hi:=List.mem_range.1 hi;obtain ⟨g1,g2,g3⟩:=DE za zb;rw [qi hab] at g3;have:=AU (n:=p.length-1) zo (BX (p:=p) (a:=a) (w:=b-a) rfl hp h8 g1 g2 g3 (nXe _)) (p.length-1) i zo;rw [nB zo] at this;exact this.mono zo
theorem ow(p:List Rat)(a b:Rat):(lcW p a b).length=p.length:=aM _ _
def hc1(h h':Nat→Rat)(j k0 x:Nat):Rat:=if k0<x∧x≤j then h' x else h x
theorem vH(h h':Nat→Rat)(N j:Nat):row N (hc1 h h' j j)=row N h:=bh (fun x _=>by unfold hc1;rw [if_neg zo])
theorem yR{h h':Nat→Rat}{N j k0:Nat}(hk:k0+1≤j):(row N (hc1 h h' j (k0+1))).set (k0+1) (h' (k0+1))=row N (hc1 h h' j k0):=by
 rw [kx];refine bh (fun i _=>?_);unfold hc1;by_cases h1:i=k0+1
 ·rw [if_pos h1,if_pos zo,h1]
 ·rw [if_neg h1];by_cases h2:k0+1<i∧i≤j
  ·rw [if_pos h2,if_pos zo]
  ·rw [if_neg h2,if_neg zo]
theorem Ca{p:List Rat}{a w F G:Rat}{N j:Nat}:(row N (hc1 (hc p a w F G j) (hc p a w F G (j+1)) j 0)).set 0 (hc p a w F G (j+1) 0)=row N (hc p a w F G (j+1)):=by
 rw [kx];refine bh (fun i _=>?_);by_cases h1:i=0
 ·rw [if_pos h1,h1]
 ·rw [if_neg h1];unfold hc1;by_cases h2:0<i∧i≤j
  ·rw [if_pos h2]
  ·rw [if_neg h2,vF zo,vF zo]
abbrev LT(x:SH×RH):Value:=.tuple #[x.1.v,x.2.v]
theorem tk(ao:Option Addr)(n cap:Nat)(l:List Rat)(s t:RH)(a b:Rat)(w:World)(h:cN w ⟨ao,n,cap⟩ l)(hs:aX w s a)(ht:aX w t b)(hn:n≤1000)(h0:tz l=[]) :
  ar 239 [.slice ao n cap,IvV (s,t)] w LT (fun x w'=>x.1=⟨none,0,0⟩∧aA w' x.2 1):=by
 have HX:=Hi (Ext.refl w);have HS:=Hi hs;have HT:=Hi ht;have LA:=Hi h;have H0:=Hi h0;clear h hs ht h0;obtain ⟨sn,sa,sl,sc,sb,sm,sd⟩:=s;obtain ⟨tn,ta,tl,tc,tb,tm,td⟩:=t;unfold ar;go_enter Tryz.func239,Tryz.ntmps239
 go_upto_region 1 with fail
 refine eX ?_;intro y1 hE B3 B5 hz_y1 hr_y1;refine mV4 hE ?_ HX HS HT LA;clear HX HS HT LA;intro HX HS HT LA;have hs_y1:=hE.size;replace b_B3:=bX3 B3;replace b_B5:=bX3 B5;refine wpG 5 (fun opIx=>match opIx with
  | 1=>.spec (SH) (default) (SH.v) (fun s w'=>ct y1.heap.size w' s (tz l))
  | 3=>.spec (RH×RH) (default) (IvV) (fun x w'=>IvC w' x (loV a b) (hiV a b))
  | _=>.quiet) (fun _=>[]) fun w0 he0 hz0 hc0 hf0=>?_
 refine wps he0 (fun w1 hW hG=>?_) fun x20=>?_
 ·exact spc [.slice ao n cap] Tryz.func88 (((kB _ _ _ _ _ (LA.out.ext hW) zo).weak (fun x w' _ hx=>hx.mono hW.size)))
 refine qZ ?_;refine wps he0 (fun w1 hW hG=>?_) fun x21=>?_
 ·exact spc [IvV (⟨sn,sa,sl,sc,sb,sm,sd⟩,⟨tn,ta,tl,tc,tb,tm,td⟩)] Tryz.func77 (cE _ _ _ _ _ (HS.out.ext hW) (HT.out.ext hW))
 refine qZ ?_;refine aq ?_;intro w2 hI;have hE:=he0.out.trans hI.ext;have G20:=gT (hI.facts 1);have G21:=gT (hI.facts 3);clear hI he0 hz0 hc0 hf0;refine mV6 hE ?_ B3 B5 HX LA HS HT;clear B3 B5 HX LA HS HT;intro B3 B5 HX LA HS HT;have hs_w2:=hE.size;replace b_B3:=bX3 B3;replace b_B5:=bX3 B5;simp only [pD];obtain ⟨xa,xn,xc⟩:=x20;have hlen:xn=0:=by have:=G20.out.len;rw [H0.out] at this;exact this.symm
 subst hlen;clear LA;clear HS;clear HT
 go_upto_region 2 with fail
 refine dC B3.out rfl ?_;intro y3 T;replace HX:=Hi (T.ext HX.out zo);replace B3:=Hi (T.bx);replace B5:=Hi (T.rest _ _ zo B5.out);have hs_y3:=nle T.size;have hr_y3:=nle T.size.symm;clear T;replace b_B3:=bX3 B3;replace b_B5:=bX3 B5
 go_wp2_with fail
 refine cM (bO 1 _ dZ dZ) fun x27 w27 hE G27=>?_
 refine mV3 hE ?_ HX B3 B5;clear HX B3 B5;intro HX B3 B5;have hs_w27:=hE.size;replace b_B3:=bX3 B3;replace b_B5:=bX3 B5;go_wp2;refine aN (F:=fun W=>bodyPost _ _ _ _ _ W) B5.out rfl ?_;intro w10 T;replace HX:=Hi (T.ext HX.out zo);replace B3:=Hi (T.rest _ _ zo B3.out);replace B5:=Hi (T.bx);replace G27:=Hi (G27.out.keep T.keep);have hs_w10:=nle T.size;have hr_w10:=nle T.size.symm;clear T;replace b_B3:=bX3 B3;replace b_B5:=bX3 B5;exact nXa (v:=LT (⟨none,0,0⟩,x27)) (by simp [results,Tryz.results239,go_sem,LT,ae B5.out]) rfl ⟨(⟨none,0,0⟩,x27),rfl,HX.out,rfl,G27.out⟩
theorem mq(ao:Option Addr)(n cap:Nat)(l:List Rat)(s t:RH)(a b:Rat)(S T:Nat)(w:World)(h:cN w ⟨ao,n,cap⟩ l)(hs:aX w s a)(ht:aX w t b)(hn:n≤1000)(h0:tz l≠[])(h8:(tz l).length≤8)(hz:SzL S (tz l))(za:Sz T a)(zb:Sz T b)(hS:S≤1000)(hT:T≤450) :
  ar 239 [.slice ao n cap,IvV (s,t)] w LT (fun x w'=>cJ w.heap.size w' x.1 (lcW (tz l) (loV a b) (hiV a b))∧aA w' x.2 (((1:Int):Rat) / lcK (tz l) (loV a b) (hiV a b))):=by
 have HX:=Hi (Ext.refl w);have HS:=Hi hs;have HT:=Hi ht;have LA:=Hi h;have ZA:Hid (Sz T (loV a b)):=Hi (by rcases oo a b with e|e <;> rw [e] <;> assumption);have ZB:Hid (Sz T (hiV a b)):=Hi (by rcases oD a b with e|e <;> rw [e] <;> assumption);have HAB:=Hi (sV a b);obtain ⟨N,hN⟩:∃ N,(tz l).length=N+1:=⟨(tz l).length-1,by have:=nYh.2 h0;omega⟩;obtain ⟨p,hp⟩:∃ p,p=tz l:=⟨_,rfl⟩;rw [←hp] at hN hz h8 ⊢;have HP:=Hi hp;have HPl:=Hi hN;have HZ:=Hi hz;have hN8:N≤7:=zo;clear h hs ht za zb hz h0 hp;obtain ⟨sn,sa,sl,sc,sb,sm,sd⟩:=s;obtain ⟨tn,ta,tl,tc,tb,tm,td⟩:=t;unfold ar;go_enter Tryz.func239,Tryz.ntmps239
 go_upto_region 1 with fail
 refine eX ?_;intro y1 hE B3 B5 hz_y1 hr_y1;refine mV4 hE ?_ HX HS HT LA;clear HX HS HT LA;intro HX HS HT LA;have hs_y1:=hE.size;replace b_B3:=bX3 B3;replace b_B5:=bX3 B5;refine wpG 5 (fun opIx=>match opIx with
  | 1=>.spec (SH) (default) (SH.v) (fun s w'=>ct y1.heap.size w' s (tz l))
  | 3=>.spec (RH×RH) (default) (IvV) (fun x w'=>IvC w' x (loV a b) (hiV a b))
  | _=>.quiet) (fun _=>[]) fun w0 he0 hz0 hc0 hf0=>?_
 refine wps he0 (fun w1 hW hG=>?_) fun x20=>?_
 ·exact spc [.slice ao n cap] Tryz.func88 (((kB _ _ _ _ _ (LA.out.ext hW) zo).weak (fun x w' _ hx=>hx.mono hW.size)))
 refine qZ ?_;refine wps he0 (fun w1 hW hG=>?_) fun x21=>?_
 ·exact spc [IvV (⟨sn,sa,sl,sc,sb,sm,sd⟩,⟨tn,ta,tl,tc,tb,tm,td⟩)] Tryz.func77 (cE _ _ _ _ _ (HS.out.ext hW) (HT.out.ext hW))
 refine qZ ?_;refine aq ?_;intro y2 hI;have hE:=he0.out.trans hI.ext;have G20:=gT (hI.facts 1);have G21:=gT (hI.facts 3);clear hI he0 hz0 hc0 hf0;refine mV6 hE ?_ B3 B5 HX LA HS HT;clear B3 B5 HX LA HS HT;intro B3 B5 HX LA HS HT;have hs_y2:=hE.size;replace b_B3:=bX3 B3;replace b_B5:=bX3 B5;simp only [pD];rw [←HP.out] at G20;obtain ⟨xa,xn,xc⟩:=x20;simp only [SH.v];obtain ⟨⟨ln,la,ll,lc,lb,lm,ld⟩,⟨hn',ha,hl,hcc,hb,hm,hd⟩⟩:=x21;have HLo:=Hi G21.out.1;have HHi:=Hi G21.out.2;have HLP:Hid (LIn y2 ⟨xa,xn,xc⟩ p y1.heap.size y2.heap.size):=G20;have hlen:xn=N+1:=by have:=G20.out.len;rw [HPl.out] at this;exact this.symm
 subst hlen;clear G20 G21 HP;clear LA;clear HS;clear HT;obtain ⟨lo,hlo⟩:∃ lo,lo=loV a b:=⟨_,rfl⟩;obtain ⟨hi,hhi⟩:∃ hi,hi=hiV a b:=⟨_,rfl⟩;rw [←hlo] at HLo ZA HAB;rw [←hhi] at HHi ZB HAB;have HLV:=Hi hlo;have HHV:=Hi hhi;clear hlo hhi;obtain ⟨H0,hH0⟩:∃ H,H=y1.heap.size:=⟨_,rfl⟩;obtain ⟨H1,hH1⟩:∃ H,H=y2.heap.size:=⟨_,rfl⟩;rw [←hH0,←hH1] at HLP;have hH0a:H0≤y1.heap.size:=zo;have hH0b:y1.heap.size≤H0:=zo;have hH1a:H1≤y2.heap.size:=zo;have hH1b:y2.heap.size≤H1:=zo;clear hH0 hH1;have hn0:¬ ((N+1:Nat):Int)=0:=by omega
 have HN1:((N+1:Nat):Int)-1=(N:Nat):=zo
 go_upto_region 2 with fail
 refine dC B3.out rfl ?_;intro y3 T;replace HX:=Hi (T.ext HX.out zo);replace B3:=Hi (T.bx);replace B5:=Hi (T.rest _ _ zo B5.out);replace HLo:=Hi (HLo.out.keep T.keep);replace HHi:=Hi (HHi.out.keep T.keep);replace HLP:=Hi (HLP.out.put T zo);have hs_y3:=nle T.size;have hr_y3:=nle T.size.symm;clear T;replace b_B3:=bX3 B3;replace b_B5:=bX3 B5;have HZG:=Hi (DD ZA.out ZB.out);have HG3:=Hi (DE ZA.out ZB.out);rw [qi HAB.out] at HG3;have HF3:=Hi (FM HZ.out h8 HG3.out.1);obtain ⟨G,hG⟩:∃ G,G=grV lo hi:=⟨_,rfl⟩;obtain ⟨F,hF⟩:∃ F,F=fX p:=⟨_,rfl⟩;obtain ⟨wd,hwd⟩:∃ wd,wd=hi-lo:=⟨_,rfl⟩;rw [←hG] at HG3 HF3;rw [←hwd] at HG3;rw [←hF] at HF3;have HGV:=Hi hG;have HFV:=Hi hF;have HWV:=Hi hwd;clear hG hF hwd
 go_wp2_with fail
 refine cM (ls xa (N+1) xc p S _ HLP.out.can zo HZ.out zo) fun x32 w32 hE G32=>?_
 refine mV6 hE ?_ HX B3 B5 HLo HHi HLP;clear HX B3 B5 HLo HHi HLP;intro HX B3 B5 HLo HHi HLP;have hs_w32:=hE.size;replace b_B3:=bX3 B3;replace b_B5:=bX3 B5;rw [←HFV.out] at G32
 go_upto_region 6 with fail
 refine nmA ?_;intro y4 hE B7 hz_y4 hr_y4;refine mV7 hE ?_ G32 HX B3 B5 HLo HHi HLP;clear G32 HX B3 B5 HLo HHi HLP;intro G32 HX B3 B5 HLo HHi HLP;have hs_y4:=hE.size;replace b_B3:=bX3 B3;replace b_B5:=bX3 B5;replace b_B7:=bX3 B7
 go_wp2_with fail
 refine cM (vp ⟨ln,la,ll,lc,lb,lm,ld⟩ ⟨hn',ha,hl,hcc,hb,hm,hd⟩ lo hi T _ (HLo.out.raw ZA.out zo) (HHi.out.raw ZB.out zo) ZA.out ZB.out zo) fun x34 w34 hE G34=>?_
 refine mV8 hE ?_ B7 G32 HX B3 B5 HLo HHi HLP;clear B7 G32 HX B3 B5 HLo HHi HLP;intro B7 G32 HX B3 B5 HLo HHi HLP;have hs_w34:=hE.size;replace b_B3:=bX3 B3;replace b_B5:=bX3 B5;replace b_B7:=bX3 B7
 go_upto_region 7 with fail
 refine nmA ?_;intro y5 hE B8 hz_y5 hr_y5;refine mV8 hE ?_ G34 B7 G32 HX B3 B5 HLo HHi;clear G34 B7 G32 HX B3 B5 HLo HHi;intro G34 B7 G32 HX B3 B5 HLo HHi;replace HLP:=mV hE HLP;have hs_y5:=hE.size;replace b_B3:=bX3 B3;replace b_B5:=bX3 B5;replace b_B7:=bX3 B7;replace b_B8:=bX3 B8
 go_wp2_with fail
 refine nmA (F:=fun W=>Calls _ _ _ W _) ?_;intro y6 hE BS hz_y6 hr_y6;refine mV8 hE ?_ B8 G34 B7 G32 HX B3 B5 HLo;clear B8 G34 B7 G32 HX B3 B5 HLo;intro B8 G34 B7 G32 HX B3 B5 HLo;refine mV2 hE ?_ HHi HLP;clear HHi HLP;intro HHi HLP;have hs_y6:=hE.size;replace b_B3:=bX3 B3;replace b_B5:=bX3 B5;replace b_B7:=bX3 B7;replace b_B8:=bX3 B8;replace b_BS:=bX3 BS
 change Calls _ _ _ _ _
 refine cM (ls (some ⟨y5.heap.size,0,none⟩) 2 2 [lo,(hi-lo).abs] (2*T+1) _ (wO (uz BS.out rfl rfl) HLo.out G34.out) dZ HZG.out zo) fun x39 w39 hE G39=>?_
 refine mV8 hE ?_ BS B8 G34 B7 G32 HX B3 B5;clear BS B8 G34 B7 G32 HX B3 B5;intro BS B8 G34 B7 G32 HX B3 B5;refine mV3 hE ?_ HLo HHi HLP;clear HLo HHi HLP;intro HLo HHi HLP;have hs_w39:=hE.size;replace b_B3:=bX3 B3;replace b_B5:=bX3 B5;replace b_B7:=bX3 B7;replace b_B8:=bX3 B8;replace b_BS:=bX3 BS;rw [show fX [lo,(hi-lo).abs]=G from HGV.out.symm] at G39;rw [qi HAB.out,←HWV.out] at G34
 go_upto_region 8 with fail
 refine nmA ?_;intro y7 hE B9 hz_y7 hr_y7;refine mV8 hE ?_ G39 BS B8 G34 B7 G32 HX B3;clear G39 BS B8 G34 B7 G32 HX B3;intro G39 BS B8 G34 B7 G32 HX B3;refine mV4 hE ?_ B5 HLo HHi HLP;clear B5 HLo HHi HLP;intro B5 HLo HHi HLP;have hs_y7:=hE.size;replace b_B3:=bX3 B3;replace b_B5:=bX3 B5;replace b_B7:=bX3 B7;replace b_B8:=bX3 B8;replace b_BS:=bX3 BS;replace b_B9:=bX3 B9;have ZG:Hid (Sz (4*T+3) G):=Hi (HG3.out.1.sz zo);have ZW:Hid (Sz (2*T+1) wd):=Hi (by rw [HWV.out];exact (ZB.out.sub ZA.out).mono zo);refine wpG 9 (fun opIx=>match opIx with
  | 3=>sR (lo*G)
  | 6=>sR (wd*G)
  | 7=>.alloc 37 #[.bool false,.slice none 0 0,.slice none 0 0]
  | 8=>.alloc 37 #[.bool false,.slice none 0 0,.slice none 0 0]
  | _=>.quiet) (fun _=>[]) fun w0 he0 hz0 hc0 hf0=>?_
 refine wps he0 (fun w1 hW hG=>?_) fun x43=>?_
 ·exact spc [RH.v ⟨ln,la,ll,lc,lb,lm,ld⟩,x39.v] Tryz.func108 (aK _ x39 _ _ _ ((HLo.out.ext hW).raw ZA.out zo) ((G39.out.ext hW).raw ZG.out zo))
 refine qZ ?_;refine wps he0 (fun w1 hW hG=>?_) fun x46=>?_
 ·exact spc [x34.v,x39.v] Tryz.func108 (aK x34 x39 _ _ _ ((G34.out.ext hW).raw ZW.out zo) ((G39.out.ext hW).raw ZG.out zo))
 refine qZ ?_;refine aW rfl rfl (fun w=>by simp [execOp,go_sem,ptr]) (fun b10 hb10 hl10=>?_);refine qZ ?_;refine aW rfl rfl (fun w=>by simp [execOp,go_sem,ptr]) (fun b11 hb11 hl11=>?_);refine qZ ?_;refine aq ?_;intro y8 hI;have hE:=he0.out.trans hI.ext;have G43:=gT (hI.facts 3);have G46:=gT (hI.facts 6);have A10:Hid (y8.heap[b10]?=some (.cells #[.bool false,.slice none 0 0,.slice none 0 0] 37 (0,0))):=hI.facts 7;rw [hz0] at hl10;have A11:Hid (y8.heap[b11]?=some (.cells #[.bool false,.slice none 0 0,.slice none 0 0] 37 (0,0))):=hI.facts 8;rw [hz0] at hl11;clear hI he0 hz0 hc0 hf0;refine mV8 hE ?_ B9 BS B8 B7 G32 HX B3 B5;clear B9 BS B8 B7 G32 HX B3 B5;intro B9 BS B8 B7 G32 HX B3 B5;refine mV5 hE ?_ HHi HLP HLo G34 G39;clear HHi HLP HLo G34 G39;intro HHi HLP HLo G34 G39;have hs_y8:=hE.size;replace b_B3:=bX3 B3;replace b_B5:=bX3 B5;replace b_B7:=bX3 B7;replace b_B8:=bX3 B8;replace b_BS:=bX3 BS;replace b_B9:=bX3 B9;replace b_A10:=bX3 A10;replace b_A11:=bX3 A11;simp only [pD,ptr];have hne:b11≠b10:=fun h=>hb11 (Or.inl h)
 go_upto_region 9 with fail
 refine Dn A10.out rfl A11.out rfl hne ?_;intro y9 y10 T T4;replace HX:=Hi (T.ext HX.out zo);replace B3:=Hi (T.rest _ _ zo B3.out);replace B5:=Hi (T.rest _ _ zo B5.out);replace HLo:=Hi (HLo.out.keep T.keep);replace HHi:=Hi (HHi.out.keep T.keep);replace HLP:=Hi (HLP.out.put T zo);replace G32:=Hi (G32.out.keep T.keep);replace B7:=Hi (T.rest _ _ zo B7.out);replace G34:=Hi (G34.out.keep T.keep);replace B8:=Hi (T.rest _ _ zo B8.out);replace BS:=Hi (T.rest _ _ zo BS.out);replace G39:=Hi (G39.out.keep T.keep);replace B9:=Hi (T.rest _ _ zo B9.out);replace G43:=Hi (G43.out.keep T.keep);replace G46:=Hi (G46.out.keep T.keep);replace A10:=Hi (T.bx);replace A11:=Hi (T.rest _ _ zo A11.out);have hs_y9:=nle T.size;have hr_y9:=nle T.size.symm;clear T;replace b_B3:=bX3 B3;replace b_B5:=bX3 B5;replace b_B7:=bX3 B7;replace b_B8:=bX3 B8;replace b_BS:=bX3 BS;replace b_B9:=bX3 B9;replace b_A10:=bX3 A10;replace b_A11:=bX3 A11;have T:=T4;clear T4;replace HX:=Hi (T.ext HX.out zo);replace B3:=Hi (T.rest _ _ zo B3.out);replace B5:=Hi (T.rest _ _ zo B5.out);replace HLo:=Hi (HLo.out.keep T.keep);replace HHi:=Hi (HHi.out.keep T.keep);replace HLP:=Hi (HLP.out.put T zo);replace G32:=Hi (G32.out.keep T.keep);replace B7:=Hi (T.rest _ _ zo B7.out);replace G34:=Hi (G34.out.keep T.keep);replace B8:=Hi (T.rest _ _ zo B8.out);replace BS:=Hi (T.rest _ _ zo BS.out);replace G39:=Hi (G39.out.keep T.keep);replace B9:=Hi (T.rest _ _ zo B9.out);replace G43:=Hi (G43.out.keep T.keep);replace G46:=Hi (G46.out.keep T.keep);replace A10:=Hi (T.rest _ _ zo A10.out);replace A11:=Hi (T.bx);have hs_y10:=nle T.size;have hr_y10:=nle T.size.symm;clear T;replace b_B3:=bX3 B3;replace b_B5:=bX3 B5;replace b_B7:=bX3 B7;replace b_B8:=bX3 B8;replace b_BS:=bX3 BS;replace b_B9:=bX3 B9;replace b_A10:=bX3 A10;replace b_A11:=bX3 A11;have p10:b10<y10.heap.size:=b_A10.2.2;have p11:b11<y10.heap.size:=b_A11.2.2;obtain ⟨i0,hi0,hz0,hz1,hz2⟩:=info_parts ii
 go_upto_region 10 with (refine aB rfl (.tmp 48) (.tmp 48) 23 rfl 37 i0 (RH.v default) 3 Tryz.underlying23 hi0 hz0 hz1 _ _ (N+1) rfl rfl (by simp) (by simp) (by rw [hz2];omega) zo ?_;intro w2 hnew hE)
 have KB:=Hi (RBk.make rfl hnew);clear hnew;refine mV8 hE ?_ HX B3 B5 HLo HHi HLP G32 B7;clear HX B3 B5 HLo HHi HLP G32 B7;intro HX B3 B5 HLo HHi HLP G32 B7;refine mV8 hE ?_ G34 B8 BS G39 B9 G43 G46 A10;clear G34 B8 BS G39 B9 G43 G46 A10;intro G34 B8 BS G39 B9 G43 G46 A10;replace A11:=mV hE A11;have hs_w2:=hE.size;replace b_B3:=bX3 B3;replace b_B5:=bX3 B5;replace b_B7:=bX3 B7;replace b_B8:=bX3 B8;replace b_BS:=bX3 BS;replace b_B9:=bX3 B9;replace b_A10:=bX3 A10;replace b_A11:=bX3 A11;obtain ⟨L,hL⟩:∃ L,L=y10.heap.size:=⟨_,rfl⟩;obtain ⟨b5,hb5⟩:∃ b,b=w.heap.size+1:=⟨_,rfl⟩;obtain ⟨b7,hb7⟩:∃ b,b=w32.heap.size:=⟨_,rfl⟩;obtain ⟨b9,hb9⟩:∃ b,b=w39.heap.size:=⟨_,rfl⟩;have hLw:w.heap.size≤L:=zo;have q5:w.heap.size≤b5:=zo;have q7:w.heap.size≤b7:=zo;have q9:w.heap.size≤b9:=zo;have q10:w.heap.size≤b10:=zo;have q11:w.heap.size≤b11:=zo;have hH:H0≤H1:=zo;have n5:b5<H0:=zo;have n7:H1≤b7:=zo;have n79:b7<b9:=zo;have n910:b9<b10:=zo;have n911:b9<b11:=zo;have n10L:b10<L:=zo;have n11L:b11<L:=zo;rw [←hb5] at B5 ⊢;rw [←hb7] at B7 ⊢;rw [←hb9] at B9 ⊢;rw [←hL] at KB ⊢;have HE:Hid (LcE w2 b5 b7 b9 b10 b11 x32 x39 x43 x46 F G (lo*G) (wd*G) ⟨xa,N+1,xc⟩ p H0 H1):=Hi ⟨B5.out,B7.out,B9.out,A10.out,A11.out,G32.out,G39.out,G43.out,G46.out,HLP.out⟩;clear hb5 hb7 hb9 hL b_B3 b_B5 b_B7 b_B8 b_B9 b_A10 b_A11 b_BS B3 B5 B7 B8 B9 A10 A11 BS G32 G34 G39 G43 G46 HLo HHi HLP hb10 hb11 hl10 hl11;go_wp2
 go_loopg [52] (N+1) (fun g v wr=>∃ (i:Nat) (rs:List RH),i+g=N+1∧v=.int .i64 (i:Nat)∧Ext w wr∧LcE wr b5 b7 b9 b10 b11 x32 x39 x43 x46 F G (lo*G) (wd*G) ⟨xa,N+1,xc⟩ p H0 H1∧RBk wr L rs #[]∧rs.length=N+1∧iq wr rs (List.replicate i 0))
 case atStart=>exact ⟨0,_,zo,rfl,HX.out,HE.out,KB.out,by simp,fun j hj=>by simp at hj⟩
 case round =>
  obtain ⟨i,rs,hi',rfl,g1,⟨e5,e7,e9,e10,e11,k1,k2,k3,k4,kp⟩,g4,g5,g6⟩:=hrel;clear HX KB HE;have HX:=Hi g1;have B5:=Hi e5;have B7:=Hi e7;have B9:=Hi e9;have B10:=Hi e10;have B11:=Hi e11;have K1:=Hi k1;have K2:=Hi k2;have K3:=Hi k3;have K4:=Hi k4;have KP:=Hi kp;have KB:=Hi g4;have HRl:=Hi g5;have PC:=Hi g6;clear g1 e5 e7 e9 e10 e11 k1 k2 k3 k4 kp g4 g5 g6;replace b_B5:=bX3 B5;replace b_B7:=bX3 B7;replace b_B9:=bX3 B9;replace b_B10:=bX3 B10;replace b_B11:=bX3 B11
  try clear f_KB l_KB
  have f_KB:=af KB.out;have l_KB:=(nXb.1 KB.out).1;by_cases h0:gk=0
  case neg =>
   have hin:(i:Int)<((N+1:Nat):Int):=zo
   go_wp2_with fail
   refine cM (bO 0 _ dZ dZ) fun x57 w57 hE G57=>?_
   refine mV8 hE ?_ HX B5 B7 B9 B10 B11 K1 K2;clear HX B5 B7 B9 B10 B11 K1 K2;intro HX B5 B7 B9 B10 B11 K1 K2;refine mV5 hE ?_ K3 K4 KP KB PC;clear K3 K4 KP KB PC;intro K3 K4 KP KB PC;have hs_w57:=hE.size;replace b_B5:=bX3 B5;replace b_B7:=bX3 B7;replace b_B9:=bX3 B9;replace b_B10:=bX3 B10;replace b_B11:=bX3 B11
   try clear f_KB l_KB
   have f_KB:=af KB.out;have l_KB:=(nXb.1 KB.out).1;obtain ⟨f1,f2,f3⟩:=RBk.at (re:=#[]) KB.out (k:=i) (by rw [HRl.out];omega)
   go_upto_region 14 with fail
   refine eK (k:=i) KB.out rfl (by rw [HRl.out];omega) ?_;intro y6 T;clear f1 f2 f3;replace HX:=Hi (T.ext HX.out zo);replace B5:=Hi (T.rest _ _ zo B5.out);replace B7:=Hi (T.rest _ _ zo B7.out);replace B9:=Hi (T.rest _ _ zo B9.out);replace B10:=Hi (T.rest _ _ zo B10.out);replace B11:=Hi (T.rest _ _ zo B11.out);replace K1:=Hi (K1.out.keep T.keep);replace K2:=Hi (K2.out.keep T.keep);replace K3:=Hi (K3.out.keep T.keep);replace K4:=Hi (K4.out.keep T.keep);replace PC:=Hi (PC.out.keep T.keep);replace KP:=Hi (KP.out.put T zo);replace KB:=Hi (T.bx);replace G57:=Hi (G57.out.keep T.keep);have hs_y6:=nle T.size;have hr_y6:=nle T.size.symm;clear T;replace b_B5:=bX3 B5;replace b_B7:=bX3 B7;replace b_B9:=bX3 B9;replace b_B10:=bX3 B10;replace b_B11:=bX3 B11
   try clear f_KB l_KB
   have f_KB:=af KB.out;have l_KB:=(nXb.1 KB.out).1;replace PC:=Hi (PC.out.snoc (x:=x57) (i:=i) (by simp) (by rw [HRl.out];omega) G57.out);have HRp:Hid (List.replicate i (0:Rat)++[((0:Int):Rat)]=List.replicate (i+1) 0):=Hi (by rw [List.replicate_succ'];rfl);rw [HRp.out] at PC;go_wp2
   go_roundg (gk-1)
   case measure=>omega
   case rel=>exact ⟨i+1,_,zo,by go_num,HX.out,⟨B5.out,B7.out,B9.out,B10.out,B11.out,K1.out,K2.out,K3.out,K4.out,KP.out⟩,KB.out,by rw [nXo];exact HRl.out,PC.out⟩
  subst h0;obtain rfl:i=N+1:=by omega
  have hin:¬ ((N+1:Nat):Int)<((N+1:Nat):Int):=zo;have HR:Hid (aH wr L (row (N+1) (hc p lo wd F G 0))):=Hi (by
   rw [show row (N+1) (hc p lo wd F G 0)=List.replicate (N+1) 0 by rw [←xY];exact bh (fun k _=>vE _ _ _ _ _ _)];exact PC.out.row KB.out HRl.out (by simp))
  clear KB;clear PC
  go_wp2_with fail
  refine cM (bO 1 _ dZ dZ) fun x60 w60 hE G60=>?_
  refine mV8 hE ?_ HX B5 B7 B9 B10 B11 K1 K2;clear HX B5 B7 B9 B10 B11 K1 K2;intro HX B5 B7 B9 B10 B11 K1 K2;refine mV4 hE ?_ K3 K4 KP HR;clear K3 K4 KP HR;intro K3 K4 KP HR;have hs_w60:=hE.size;replace b_B5:=bX3 B5;replace b_B7:=bX3 B7;replace b_B9:=bX3 B9;replace b_B10:=bX3 B10;replace b_B11:=bX3 B11
  go_upto_region 16 with fail
  refine nmA ?_;intro y14 hE B14 hz_y14 hr_y14;refine mV8 hE ?_ G60 HX B5 B7 B9 B10 B11 K1;clear G60 HX B5 B7 B9 B10 B11 K1;intro G60 HX B5 B7 B9 B10 B11 K1;refine mV5 hE ?_ K2 K3 K4 KP HR;clear K2 K3 K4 KP HR;intro K2 K3 K4 KP HR;have hs_y14:=hE.size;replace b_B5:=bX3 B5;replace b_B7:=bX3 B7;replace b_B9:=bX3 B9;replace b_B10:=bX3 B10;replace b_B11:=bX3 B11;replace b_B14:=bX3 B14;obtain ⟨b14,hb14⟩:∃ b,b=w60.heap.size:=⟨_,rfl⟩;have q14:w.heap.size≤b14:=zo;have n14:L<b14:=by have:=aH.lt HR.out;omega
  rw [←hb14] at B14 ⊢;have HHC:Hid (∀ j,j≤N+1→∀ k,Sz (9*S+80*T+66) (hc p lo wd F G j k)):=Hi (fun j hj k=>(BX HFV.out HZ.out h8 HG3.out.1 HG3.out.2.1 HG3.out.2.2 (by rw [HPl.out];exact hj) k).sz zo);have HGP:Hid (∀ j,j≤N+1→Sz (32*T+25) (G ^ j)):=Hi (fun j hj=>((HG3.out.1.pow j).mono (by have:=nXh (4*T+3) (show j≤8 by omega);omega)).sz zo);have GX:Hid (aA y14 x60 (G ^ (0-1))):=Hi (by show aA y14 x60 (G ^ 0);rw [Rat.pow_zero];exact G60.out);have HE:Hid (LcE y14 b5 b7 b9 b10 b11 x32 x39 x43 x46 F G (lo*G) (wd*G) ⟨xa,N+1,xc⟩ p H0 H1):=Hi ⟨B5.out,B7.out,B9.out,B10.out,B11.out,K1.out,K2.out,K3.out,K4.out,KP.out⟩;have ZS:Hid (Sz (6*T+4) (lo*G)):=Hi (HG3.out.2.1.sz zo);have ZD:Hid (Sz (6*T+4) (wd*G)):=Hi (HG3.out.2.2.sz zo);have ZF:Hid (Sz (8*S+1) F):=Hi (HF3.out.1.sz zo);clear hb14 G60 b_B5 b_B7 b_B9 b_B10 b_B11 b_B14 B5 B7 B9 B10 B11 K1 K2 K3 K4 KP;go_wp2
  go_loopg [15] (N+1) (fun g v wr=>∃ (j:Nat) (xp:RH),j+g=N+1∧v=.int .i64 ((N:Int)-(j:Nat))∧Ext w wr∧LcE wr b5 b7 b9 b10 b11 x32 x39 x43 x46 F G (lo*G) (wd*G) ⟨xa,N+1,xc⟩ p H0 H1∧aH wr L (row (N+1) (hc p lo wd F G j))∧wr.heap[b14]?=some (.cells #[.bool xp.neg,.slice xp.a xp.n xp.c,.slice xp.b xp.m xp.d] 37 (0,0))∧aA wr xp (G ^ (j-1)))
  case atStart=>exact ⟨0,x60,zo,congrArg _ zo,HX.out,HE.out,HR.out,B14.out,GX.out⟩
  case round =>
   obtain ⟨j,xp,hj,rfl,g1,⟨e5,e7,e9,e10,e11,k1,k2,k3,k4,kp⟩,g3,g4,g5⟩:=hrel;clear HX HE HR B14 GX;have HX:=Hi g1;have B5:=Hi e5;have B7:=Hi e7;have B9:=Hi e9;have B10:=Hi e10;have B11:=Hi e11;have K1:=Hi k1;have K2:=Hi k2;have K3:=Hi k3;have K4:=Hi k4;have KP:=Hi kp;have HR:=Hi g3;have B14:=Hi g4;have GX:=Hi g5;clear g1 e5 e7 e9 e10 e11 k1 k2 k3 k4 kp g3 g4 g5;replace b_B5:=bX3 B5;replace b_B7:=bX3 B7;replace b_B9:=bX3 B9;replace b_B10:=bX3 B10;replace b_B11:=bX3 B11;replace b_B14:=bX3 B14;by_cases h0:gk=0
   case pos =>
    subst h0;obtain rfl:j=N+1:=by omega
    have hneg:¬ (0:Int)≤(N:Int)-((N+1:Nat):Int):=zo;obtain ⟨fn,fa,fl,fc',fb,fm,fd⟩:=x32;obtain ⟨pn,pa,pl,pc,pb,pm,pd⟩:=xp;simp only at B7 b_B7 B14 b_B14;have HCZ:Hid (∀ k,Wz (9*S+80*T+66) (hc p lo wd F G (N+1) k)):=Hi (BX HFV.out HZ.out h8 HG3.out.1 HG3.out.2.1 HG3.out.2.2 (by rw [HPl.out];exact nXe _));have ZXP:Hid (Sz (32*T+25) (G ^ N)):=Hi (HGP.out N zo);have GXN:Hid (aA wr ⟨pn,pa,pl,pc,pb,pm,pd⟩ (G ^ N)):=GX;clear GX;have ZFN:Hid (Sz 1 (fcf N)):=Hi ((te zo).sz zo);have ZFG:Hid (Sz (8*S+1+(32*T+25)) (F*G ^ N)):=Hi (ZF.out.mul ZXP.out);have HK:Hid (F*G ^ N*fcf N=lcK p lo hi):=Hi (by unfold lcK fcf;rw [HPl.out,HFV.out,HGV.out,Nat.add_sub_cancel]);have HKn:Hid (F*G ^ N*fcf N≠0):=Hi (by rw [HK.out];have:=vk p lo hi;grind)
    go_wp2_with fail
    refine Calls.mono (tt L (N+1) N (N+1) (hc p lo wd F G (N+1)) (9*S+80*T+66) _ HR.out rfl zo (nXe _) zo HCZ.out zo zo) ?_;rintro e w113 ⟨x113,rfl,T,TN,hg113⟩;clear HR;replace HX:=Hi (T.ext HX.out zo);replace B5:=Hi (T.rest _ _ zo B5.out);replace B7:=Hi (T.rest _ _ zo B7.out);replace B9:=Hi (T.rest _ _ zo B9.out);replace B10:=Hi (T.rest _ _ zo B10.out);replace B11:=Hi (T.rest _ _ zo B11.out);replace B14:=Hi (T.rest _ _ zo B14.out);replace K1:=Hi (K1.out.keep T.keep);replace K2:=Hi (K2.out.keep T.keep);replace K3:=Hi (K3.out.keep T.keep);replace K4:=Hi (K4.out.keep T.keep);replace KP:=Hi (KP.out.mut T zo);replace GXN:=Hi (GXN.out.keep T.keep);have hs_w113:=T.size;clear T;replace b_B5:=bX3 B5;replace b_B7:=bX3 B7;replace b_B9:=bX3 B9;replace b_B10:=bX3 B10;replace b_B11:=bX3 B11;replace b_B14:=bX3 B14;have HR:=Hi TN;clear TN;have G113:=Hi hg113;clear hg113
    go_upto_region 27 with fail
    refine nmA ?_;intro y20 hE B17 hz_y20 hr_y20;refine mV8 hE ?_ HX B5 B7 B9 B10 B11 B14 K1;clear HX B5 B7 B9 B10 B11 B14 K1;intro HX B5 B7 B9 B10 B11 B14 K1;refine mV7 hE ?_ K2 K3 K4 KP GXN HR G113;clear K2 K3 K4 KP GXN HR G113;intro K2 K3 K4 KP GXN HR G113;have hs_y20:=hE.size;replace b_B5:=bX3 B5;replace b_B7:=bX3 B7;replace b_B9:=bX3 B9;replace b_B10:=bX3 B10;replace b_B11:=bX3 B11;replace b_B14:=bX3 B14;replace b_B17:=bX3 B17;have n20:b14<y20.heap.size:=b_B14.2.2;have ZFT:Hid (Sz (8*S+1+(32*T+25)+1) (F*G ^ N*fcf N)):=Hi (ZFG.out.mul ZFN.out);refine bv [(11,9)] _ (by simp only [jG,mu,List.push_toArray,List.cons_append,List.nil_append];exact rfl) (by intro c a d v w h;cases d <;> exact h) 11 (fun opIx=>match opIx with
     | 0=>sR (((1:Int):Rat))
     | 3=>sR (F*G ^ N)
     | 5=>sR (F*G ^ N*fcf N)
     | 6=>.spec (RH) (default) (fun s=>.tuple #[s.v,.int .i64 0]) (fun x w'=>aA w' x (((1:Int):Rat) / (F*G ^ N*fcf N)))
     | 10=>.alloc 37 #[.bool false,.slice none 0 0,.slice none 0 0]
     | _=>.quiet) (fun|5=>[3]|6=>[0,5]|_=>[]) kZ kZ kZ (fun w0 he0 hz0 hc0 hf0=>?_)
    replace he0:=Hi he0;simp only [pT];refine qQ ?_;refine wps he0 (fun w1 hW hG=>?_) fun x90=>?_
    ·exact spc [.int .i64 1] Tryz.func63 (bO 1 _ dZ dZ)
    refine qZ ?_;refine wps he0 (fun w1 hW hG=>?_) fun x91=>?_
    ·exact spc [RH.v ⟨fn,fa,fl,fc',fb,fm,fd⟩,RH.v ⟨pn,pa,pl,pc,pb,pm,pd⟩] Tryz.func108 (aK _ _ _ _ _ ((K1.out.ext hW).raw ZF.out zo) ((GXN.out.ext hW).raw ZXP.out zo))
    refine qZ ?_;refine wps he0 (fun w1 hW hG=>?_) fun x92=>?_
    ·have g91:=gS (hG 3 dZ);exact spc [x91.v,x113.v] Tryz.func108 (aK x91 x113 _ _ _ (g91.raw ZFG.out zo) ((G113.out.ext hW).raw ZFN.out dZ))
    refine qZ ?_;refine wps he0 (fun w1 hW hG=>?_) fun x93=>?_
    ·have g90:=gS (hG 0 dZ);have g92:=gS (hG 5 dZ);exact spc [x90.v,x92.v] Tryz.func128 (cx x90 x92 _ _ _ (g90.raw (Sz.int dZ) dZ) (g92.raw ZFT.out zo) HKn.out)
    refine qZ ?_;refine aW rfl rfl (fun w=>by simp [execOp,go_sem,ptr]) (fun b18 hb18 hl18=>?_);refine qZ ?_;refine aq ?_;intro y21 hI;have hE:=he0.out.trans hI.ext;have G90:=gT (hI.facts 0);have G91:=gT (hI.facts 3);have G92:=gT (hI.facts 5);have G93:=gT (hI.facts 6);have A18:Hid (y21.heap[b18]?=some (.cells #[.bool false,.slice none 0 0,.slice none 0 0] 37 (0,0))):=hI.facts 10;rw [hz0] at hl18;clear hI he0 hz0 hc0 hf0;refine mV8 hE ?_ B17 HX B5 B7 B9 B10 B11 B14;clear B17 HX B5 B7 B9 B10 B11 B14;intro B17 HX B5 B7 B9 B10 B11 B14;refine mV8 hE ?_ K2 K3 K4 KP HR K1 GXN G113;clear K2 K3 K4 KP HR K1 GXN G113;intro K2 K3 K4 KP HR K1 GXN G113;have hs_y21:=hE.size;replace b_B5:=bX3 B5;replace b_B7:=bX3 B7;replace b_B9:=bX3 B9;replace b_B10:=bX3 B10;replace b_B11:=bX3 B11;replace b_B14:=bX3 B14;replace b_B17:=bX3 B17;replace b_A18:=bX3 A18;simp only [pD,ptr]
    go_upto_region 28 with fail
    refine aN A18.out rfl ?_;intro y22 T;replace HX:=Hi (T.ext HX.out zo);replace B5:=Hi (T.rest _ _ zo B5.out);replace B7:=Hi (T.rest _ _ zo B7.out);replace B9:=Hi (T.rest _ _ zo B9.out);replace B10:=Hi (T.rest _ _ zo B10.out);replace B11:=Hi (T.rest _ _ zo B11.out);replace B14:=Hi (T.rest _ _ zo B14.out);replace K1:=Hi (K1.out.keep T.keep);replace K2:=Hi (K2.out.keep T.keep);replace K3:=Hi (K3.out.keep T.keep);replace K4:=Hi (K4.out.keep T.keep);replace KP:=Hi (KP.out.put T zo);replace GXN:=Hi (GXN.out.keep T.keep);replace HR:=Hi (HR.out.put T zo);replace G113:=Hi (G113.out.keep T.keep);replace B17:=Hi (T.rest _ _ zo B17.out);replace G90:=Hi (G90.out.keep T.keep);replace G91:=Hi (G91.out.keep T.keep);replace G92:=Hi (G92.out.keep T.keep);replace A18:=Hi (T.bx);replace G93:=Hi (G93.out.keep T.keep);have hs_y22:=nle T.size;have hr_y22:=nle T.size.symm;clear T;replace b_B5:=bX3 B5;replace b_B7:=bX3 B7;replace b_B9:=bX3 B9;replace b_B10:=bX3 B10;replace b_B11:=bX3 B11;replace b_B14:=bX3 B14;replace b_B17:=bX3 B17;replace b_A18:=bX3 A18;obtain ⟨zn,za,zl,zc,zb,zm,zd⟩:=x93;simp only at A18 b_A18
    go_region
    refine mU B5.out rfl ?_;intro y4 y5 T E5;replace HX:=Hi (T.ext HX.out zo);replace B5:=Hi (T.bx);replace B7:=Hi (T.rest _ _ zo B7.out);replace B9:=Hi (T.rest _ _ zo B9.out);replace B10:=Hi (T.rest _ _ zo B10.out);replace B11:=Hi (T.rest _ _ zo B11.out);replace B14:=Hi (T.rest _ _ zo B14.out);replace K1:=Hi (K1.out.keep T.keep);replace K2:=Hi (K2.out.keep T.keep);replace K3:=Hi (K3.out.keep T.keep);replace K4:=Hi (K4.out.keep T.keep);replace KP:=Hi (KP.out.put T zo);replace GXN:=Hi (GXN.out.keep T.keep);replace HR:=Hi (HR.out.put T zo);replace G113:=Hi (G113.out.keep T.keep);replace B17:=Hi (T.rest _ _ zo B17.out);replace G90:=Hi (G90.out.keep T.keep);replace G91:=Hi (G91.out.keep T.keep);replace G92:=Hi (G92.out.keep T.keep);replace A18:=Hi (T.rest _ _ zo A18.out);replace G93:=Hi (G93.out.keep T.keep);have hs_y4:=nle T.size;have hr_y4:=nle T.size.symm;clear T;replace b_B5:=bX3 B5;replace b_B7:=bX3 B7;replace b_B9:=bX3 B9;replace b_B10:=bX3 B10;replace b_B11:=bX3 B11;replace b_B14:=bX3 B14;replace b_B17:=bX3 B17;replace b_A18:=bX3 A18;replace HX:=Hi (HX.out.trans E5);replace B5:=Hi (E5.block B5.out);replace B7:=Hi (E5.block B7.out);replace B9:=Hi (E5.block B9.out);replace B10:=Hi (E5.block B10.out);replace B11:=Hi (E5.block B11.out);replace B14:=Hi (E5.block B14.out);refine mV8 E5 ?_ K1 K2 K3 K4 KP GXN HR G113;clear K1 K2 K3 K4 KP GXN HR G113;intro K1 K2 K3 K4 KP GXN HR G113;replace B17:=Hi (E5.block B17.out);refine mV3 E5 ?_ G90 G91 G92;clear G90 G91 G92;intro G90 G91 G92;replace A18:=Hi (E5.block A18.out);replace G93:=Hi (G93.out.ext E5);have hs_y5:=E5.size;clear E5;replace b_B5:=bX3 B5;replace b_B7:=bX3 B7;replace b_B9:=bX3 B9;replace b_B10:=bX3 B10;replace b_B11:=bX3 B11;replace b_B14:=bX3 B14;replace b_B17:=bX3 B17;replace b_A18:=bX3 A18;go_wp2;exact nXa (v:=LT (⟨some ⟨L,0,none⟩,N+1,N+1⟩,⟨zn,za,zl,zc,zb,zm,zd⟩)) (by simp [results,Tryz.results239,go_sem,LT,ae B5.out]) rfl
     ⟨(⟨some ⟨L,0,none⟩,N+1,N+1⟩,⟨zn,za,zl,zc,zb,zm,zd⟩),rfl,HX.out,⟨L,hLw,by rw [ow,HPl.out],by rw [←HLV.out,←HHV.out];unfold lcW;rw [HPl.out,Nat.add_sub_cancel,←HFV.out,←HGV.out,←HWV.out];exact HR.out⟩,by rw [←HLV.out,←HHV.out,←HK.out];exact G93.out⟩
   obtain ⟨g0,rfl⟩:∃ g0,gk=g0+1:=⟨gk-1,zo⟩;obtain ⟨m,hm⟩:∃ m,m+j=N:=⟨N-j,zo⟩;have hNj:(N:Int)-(j:Nat)=(m:Nat):=zo;have hNm:(N:Int)-(m:Nat)=(j:Nat):=zo;rw [hNj];have HNJ:=Hi hNj;have HNM:=Hi hNm;clear hNj hNm;have hm0:(0:Int)≤(m:Nat):=zo;have ZXP:Hid (Sz (32*T+25) (G ^ (j-1))):=Hi (HGP.out (j-1) zo);obtain ⟨gn,ga,gl,gc,gb,gm,gd⟩:=x39;obtain ⟨pn,pa,pl,pc,pb,pm,pd⟩:=xp;simp only at B9 b_B9 B14 b_B14
   go_upto_if 68 with fail
   go_cut [] (fun wr=>∃ (xp:RH),Ext w wr∧LcE wr b5 b7 b9 b10 b11 x32 ⟨gn,ga,gl,gc,gb,gm,gd⟩ x43 x46 F G (lo*G) (wd*G) ⟨xa,N+1,xc⟩ p H0 H1∧aH wr L (row (N+1) (hc p lo wd F G j))∧wr.heap[b14]?=some (.cells #[.bool xp.neg,.slice xp.a xp.n xp.c,.slice xp.b xp.m xp.d] 37 (0,0))∧aA wr xp (G ^ j))
   case first =>
    by_cases hj0:j=0
    case pos =>
     subst hj0;have hlt:¬ (m:Int)<N:=zo;go_wp2
     go_meet
     case rel=>exact ⟨⟨pn,pa,pl,pc,pb,pm,pd⟩,HX.out,⟨B5.out,B7.out,B9.out,B10.out,B11.out,K1.out,K2.out,K3.out,K4.out,KP.out⟩,HR.out,B14.out,GX.out⟩
    have hlt:(m:Int)<N:=zo;have HPJ:Hid (G ^ (j-1)*G=G ^ j):=Hi (by rw [←Rat.pow_succ,show j-1+1=j by omega])
    go_wp2_with fail
    refine cM (aK ⟨pn,pa,pl,pc,pb,pm,pd⟩ ⟨gn,ga,gl,gc,gb,gm,gd⟩ (G ^ (j-1)) G _ (GX.out.raw ZXP.out zo) (K2.out.raw ZG.out zo)) fun x71 w71 hE G71=>?_
    refine mV8 hE ?_ GX HX B5 B7 B9 B10 B11 B14;clear GX HX B5 B7 B9 B10 B11 B14;intro GX HX B5 B7 B9 B10 B11 B14;refine mV6 hE ?_ K1 K2 K3 K4 KP HR;clear K1 K2 K3 K4 KP HR;intro K1 K2 K3 K4 KP HR;have hs_w71:=hE.size;replace b_B5:=bX3 B5;replace b_B7:=bX3 B7;replace b_B9:=bX3 B9;replace b_B10:=bX3 B10;replace b_B11:=bX3 B11;replace b_B14:=bX3 B14;rw [HPJ.out] at G71;go_wp2;refine aN B14.out rfl ?_;intro y16 T;replace HX:=Hi (T.ext HX.out zo);replace B5:=Hi (T.rest _ _ zo B5.out);replace B7:=Hi (T.rest _ _ zo B7.out);replace B9:=Hi (T.rest _ _ zo B9.out);replace B10:=Hi (T.rest _ _ zo B10.out);replace B11:=Hi (T.rest _ _ zo B11.out);replace B14:=Hi (T.bx);replace K1:=Hi (K1.out.keep T.keep);replace K2:=Hi (K2.out.keep T.keep);replace K3:=Hi (K3.out.keep T.keep);replace K4:=Hi (K4.out.keep T.keep);replace GX:=Hi (GX.out.keep T.keep);replace KP:=Hi (KP.out.put T zo);replace HR:=Hi (HR.out.put T zo);replace G71:=Hi (G71.out.keep T.keep);have hs_y16:=nle T.size;have hr_y16:=nle T.size.symm;clear T;replace b_B5:=bX3 B5;replace b_B7:=bX3 B7;replace b_B9:=bX3 B9;replace b_B10:=bX3 B10;replace b_B11:=bX3 B11;replace b_B14:=bX3 B14
    go_meet
    case rel=>exact ⟨x71,HX.out,⟨B5.out,B7.out,B9.out,B10.out,B11.out,K1.out,K2.out,K3.out,K4.out,KP.out⟩,HR.out,B14.out,G71.out⟩
   case rest =>
    obtain ⟨xp,g1,⟨e5,e7,e9,e10,e11,k1,k2,k3,k4,kp⟩,g3,g4,g5⟩:=hcut;clear B5 B7 B9 B10 B11 K1 K2 K3 K4 KP;clear HX HR B14 GX;have HX:=Hi g1;have B5:=Hi e5;have B7:=Hi e7;have B9:=Hi e9;have B10:=Hi e10;have B11:=Hi e11;have K1:=Hi k1;have K2:=Hi k2;have K3:=Hi k3;have K4:=Hi k4;have KP:=Hi kp;have HR:=Hi g3;have B14:=Hi g4;have GX:=Hi g5;clear g1 e5 e7 e9 e10 e11 k1 k2 k3 k4 kp g3 g4 g5;replace b_B5:=bX3 B5;replace b_B7:=bX3 B7;replace b_B9:=bX3 B9;replace b_B10:=bX3 B10;replace b_B11:=bX3 B11;replace b_B14:=bX3 B14;have hmN:(m:Int)<((N+1:Nat):Int):=zo;have hNm:=HNM.out;have HRc:Hid (aH wc L (row (N+1) (hc1 (hc p lo wd F G j) (hc p lo wd F G (j+1)) j j))):=Hi (by rw [vH];exact HR.out);have HEc:Hid (LcE wc b5 b7 b9 b10 b11 x32 ⟨gn,ga,gl,gc,gb,gm,gd⟩ x43 x46 F G (lo*G) (wd*G) ⟨xa,N+1,xc⟩ p H0 H1):=Hi ⟨B5.out,B7.out,B9.out,B10.out,B11.out,K1.out,K2.out,K3.out,K4.out,KP.out⟩;clear B5 B7 B9 B10 B11 K1 K2 K3 K4 KP HR;obtain ⟨tn',ta',tl',tc',tb',tm',td'⟩:=x43;obtain ⟨un,ua,ul,uc,ub,um,ud⟩:=x46;obtain ⟨fn,fa,fl,fc',fb,fm,fd⟩:=x32;go_wp2;clear hNm
    go_loopg [16] j (fun g v wr=>v=.int .i64 (g:Nat)∧g≤j∧Ext w wr∧LcE wr b5 b7 b9 b10 b11 ⟨fn,fa,fl,fc',fb,fm,fd⟩ ⟨gn,ga,gl,gc,gb,gm,gd⟩ ⟨tn',ta',tl',tc',tb',tm',td'⟩ ⟨un,ua,ul,uc,ub,um,ud⟩ F G (lo*G) (wd*G) ⟨xa,N+1,xc⟩ p H0 H1∧aH wr L (row (N+1) (hc1 (hc p lo wd F G j) (hc p lo wd F G (j+1)) j g))∧wr.heap[b14]?=some (.cells #[.bool xp.neg,.slice xp.a xp.n xp.c,.slice xp.b xp.m xp.d] 37 (0,0))∧aA wr xp (G ^ j))
    case atStart=>exact ⟨rfl,nXe _,HX.out,HEc.out,HRc.out,B14.out,GX.out⟩
    case round =>
     obtain ⟨rfl,hg,g1,⟨e5,e7,e9,e10,e11,k1,k2,k3,k4,kp⟩,g3,g4,g5⟩:=hrel;clear HX HEc HRc B14 GX;have HX:=Hi g1;have B5:=Hi e5;have B7:=Hi e7;have B9:=Hi e9;have B10:=Hi e10;have B11:=Hi e11;have K1:=Hi k1;have K2:=Hi k2;have K3:=Hi k3;have K4:=Hi k4;have KP:=Hi kp;have HR:=Hi g3;have B14:=Hi g4;have GX:=Hi g5;clear g1 e5 e7 e9 e10 e11 k1 k2 k3 k4 kp g3 g4 g5;replace b_B5:=bX3 B5;replace b_B7:=bX3 B7;replace b_B9:=bX3 B9;replace b_B10:=bX3 B10;replace b_B11:=bX3 B11;replace b_B14:=bX3 B14;simp only at B7 b_B7 B9 b_B9 B10 b_B10 B11 b_B11;have hfz:=aH.frozen HR.out;have hLl:=aH.lt HR.out;by_cases h1:gk=0
     case pos =>
      subst h1;have hin2:¬ (0:Int)<((0:Nat):Int):=zo;have hN0:(0:Int)<((N+1:Nat):Int):=zo;have ZC:Hid (Sz (9*S+80*T+66) (hc p lo wd F G j 0)):=Hi (HHC.out j zo 0);have ZP:Hid (Sz S (p.getD m 0)):=Hi (HZ.out.at (by rw [HPl.out];omega));have ZGJ:Hid (Sz (32*T+25) (G ^ j)):=Hi (HGP.out j zo);have HV:Hid (hc p lo wd F G j 0*(lo*G)+p.getD m 0*F*G ^ j=hc p lo wd F G (j+1) 0):=Hi (by rw [rG,HPl.out,show N+1-1-j=m by omega]);obtain ⟨r,⟨f1,f2,f3⟩,hrc⟩:=aH.cells HR.out (k:=0) (by rw [aM];omega);rw [bZ _ zo,show hc1 (hc p lo wd F G j) (hc p lo wd F G (j+1)) j 0 0=hc p lo wd F G j 0 from if_neg zo] at hrc;have HP:=Hi hrc;clear hrc;obtain ⟨b,off,r',hao,hbl,⟨d1,d2,d3⟩,hP'⟩:=KP.out.celx (k:=m) zo;subst hao;have HP':=Hi hP';clear hP';obtain ⟨rn,ra,rl,rc,rb,rm,rd⟩:=r;obtain ⟨r2n,r2a,r2l,r2c,r2b,r2m,r2d⟩:=r';obtain ⟨pn',pa',pl',pc',pb',pm',pd'⟩:=xp;simp only at f1 f2 f3 d1 d2 d3 B14 b_B14
      go_upto_region 25 with fail
      refine wpG 15 (fun opIx=>match opIx with
       | 5=>sR (hc p lo wd F G j 0*(lo*G))
       | 11=>sR (p.getD m 0*F)
       | 13=>sR (p.getD m 0*F*G ^ j)
       | 14=>sR (hc p lo wd F G j 0*(lo*G)+p.getD m 0*F*G ^ j)
       | _=>.quiet) (fun|13=>[11]|14=>[5,13]|_=>[]) fun w0 he0 hz0 hc0 hf0=>?_
      refine wps he0 (fun w1 hW hG=>?_) fun x81=>?_
      ·exact spc [RH.v ⟨rn,ra,rl,rc,rb,rm,rd⟩,RH.v ⟨tn',ta',tl',tc',tb',tm',td'⟩] Tryz.func108 (aK _ _ _ _ _ ((HP.out.ext hW).raw ZC.out zo) ((K3.out.ext hW).raw ZS.out zo))
      refine qZ ?_;refine wps he0 (fun w1 hW hG=>?_) fun x82=>?_
      ·exact spc [RH.v ⟨r2n,r2a,r2l,r2c,r2b,r2m,r2d⟩,RH.v ⟨fn,fa,fl,fc',fb,fm,fd⟩] Tryz.func108 (aK _ _ _ _ _ ((HP'.out.ext hW).raw ZP.out zo) ((K1.out.ext hW).raw ZF.out zo))
      refine qZ ?_;refine wps he0 (fun w1 hW hG=>?_) fun x83=>?_
      ·have g82:=gS (hG 11 dZ);exact spc [x82.v,RH.v ⟨pn',pa',pl',pc',pb',pm',pd'⟩] Tryz.func108 (aK x82 _ _ _ _ (g82.raw (ZP.out.mul ZF.out) zo) ((GX.out.ext hW).raw ZGJ.out zo))
      refine qZ ?_;refine wps he0 (fun w1 hW hG=>?_) fun x84=>?_
      ·have g81:=gS (hG 5 dZ);have g83:=gS (hG 13 dZ);exact spc [x81.v,x83.v] Tryz.func104 (dw x81 x83 _ _ _ (g81.raw (ZC.out.mul ZS.out) zo) (g83.raw ((ZP.out.mul ZF.out).mul ZGJ.out) zo))
      refine qZ ?_;refine aq ?_;intro y25 hI;have hE:=he0.out.trans hI.ext;have G81:=gT (hI.facts 5);have G82:=gT (hI.facts 11);have G83:=gT (hI.facts 13);have G84:=gT (hI.facts 14);clear hI he0 hz0 hc0 hf0;refine mV8 hE ?_ HX B5 B7 B9 B10 B11 K2 K4;clear HX B5 B7 B9 B10 B11 K2 K4;intro HX B5 B7 B9 B10 B11 K2 K4;refine mV6 hE ?_ KP HR B14 K3 K1 GX;clear KP HR B14 K3 K1 GX;intro KP HR B14 K3 K1 GX;have hs_y25:=hE.size;replace b_B5:=bX3 B5;replace b_B7:=bX3 B7;replace b_B9:=bX3 B9;replace b_B10:=bX3 B10;replace b_B11:=bX3 B11;replace b_B14:=bX3 B14;simp only [pD];clear f1 f2 f3 d1 d2 d3 hfz hLl;rw [HV.out] at G84;obtain ⟨r4,⟨f1,f2,f3⟩,-⟩:=aH.cells HR.out (k:=0) (by rw [aM];omega);have hfz:=aH.frozen HR.out;simp only [Nat.zero_mul] at f1 f2 f3
      go_upto_region 18 with fail
      refine eW (k:=0) HR.out (by rw [aM];omega) G84.out ?_;rintro y26 ⟨cs,T⟩ TN;rw [Ca] at TN;clear f1 f2 f3 hfz;clear HR;replace HX:=Hi (T.ext HX.out zo);replace B5:=Hi (T.rest _ _ zo B5.out);replace B7:=Hi (T.rest _ _ zo B7.out);replace B9:=Hi (T.rest _ _ zo B9.out);replace B10:=Hi (T.rest _ _ zo B10.out);replace B11:=Hi (T.rest _ _ zo B11.out);replace B14:=Hi (T.rest _ _ zo B14.out);replace K1:=Hi (K1.out.keep T.keep);replace K2:=Hi (K2.out.keep T.keep);replace K3:=Hi (K3.out.keep T.keep);replace K4:=Hi (K4.out.keep T.keep);replace GX:=Hi (GX.out.keep T.keep);replace KP:=Hi (KP.out.put T zo);replace G81:=Hi (G81.out.keep T.keep);replace G82:=Hi (G82.out.keep T.keep);replace G83:=Hi (G83.out.keep T.keep);replace G84:=Hi (G84.out.keep T.keep);have hs_y26:=nle T.size;have hr_y26:=nle T.size.symm;clear T;replace b_B5:=bX3 B5;replace b_B7:=bX3 B7;replace b_B9:=bX3 B9;replace b_B10:=bX3 B10;replace b_B11:=bX3 B11;replace b_B14:=bX3 B14;have HR:=Hi TN;clear TN;go_wp2
      go_roundg g0
      case measure=>omega
      case rel=>exact ⟨j+1,⟨pn',pa',pl',pc',pb',pm',pd'⟩,zo,congrArg _ zo,HX.out,⟨B5.out,B7.out,B9.out,B10.out,B11.out,K1.out,K2.out,K3.out,K4.out,KP.out⟩,HR.out,B14.out,GX.out⟩
     obtain ⟨g,hgg⟩:∃ g,gk=g+1:=⟨gk-1,zo⟩;have hsub:(gk:Int)-1=(g:Nat):=zo;have hin2:(0:Int)<(gk:Nat):=zo;have hin3:(gk:Int)<((N+1:Nat):Int):=zo;have hin4:(g:Int)<((N+1:Nat):Int):=zo;have hin5:(0:Int)≤(g:Int):=zo;have HGG:=Hi hgg;have hgj:g+1≤j:=zo;obtain ⟨r,⟨f1,f2,f3⟩,hrc⟩:=aH.cells HR.out (k:=gk) (by rw [aM];omega);obtain ⟨r',⟨d1,d2,d3⟩,hrc'⟩:=aH.cells HR.out (k:=g) (by rw [aM];omega);rw [bZ _ zo,show hc1 (hc p lo wd F G j) (hc p lo wd F G (j+1)) j gk gk=hc p lo wd F G j gk from if_neg zo] at hrc;rw [bZ _ zo,show hc1 (hc p lo wd F G j) (hc p lo wd F G (j+1)) j gk g=hc p lo wd F G j g from if_neg zo] at hrc';clear hgg;have HP:=Hi hrc;have HP':=Hi hrc';clear hrc hrc';obtain ⟨rn,ra,rl,rc,rb,rm,rd⟩:=r;obtain ⟨r2n,r2a,r2l,r2c,r2b,r2m,r2d⟩:=r';simp only at f1 f2 f3 d1 d2 d3;have ZC:Hid (Sz (9*S+80*T+66) (hc p lo wd F G j gk)):=Hi (HHC.out j zo gk);have ZC':Hid (Sz (9*S+80*T+66) (hc p lo wd F G j g)):=Hi (HHC.out j zo g);have HV:Hid (hc p lo wd F G j gk*(lo*G)+hc p lo wd F G j g*(wd*G)=hc p lo wd F G (j+1) gk):=Hi (by rw [HGG.out,vG])
     go_upto_region 24 with fail
     refine wpG 16 (fun opIx=>match opIx with
      | 7=>sR (hc p lo wd F G j gk*(lo*G))
      | 14=>sR (hc p lo wd F G j g*(wd*G))
      | 15=>sR (hc p lo wd F G j gk*(lo*G)+hc p lo wd F G j g*(wd*G))
      | _=>.quiet) (fun|15=>[7,14]|_=>[]) fun w0 he0 hz0 hc0 hf0=>?_
     refine wps he0 (fun w1 hW hG=>?_) fun x81=>?_
     ·exact spc [RH.v ⟨rn,ra,rl,rc,rb,rm,rd⟩,RH.v ⟨tn',ta',tl',tc',tb',tm',td'⟩] Tryz.func108 (aK _ _ _ _ _ ((HP.out.ext hW).raw ZC.out zo) ((K3.out.ext hW).raw ZS.out zo))
     refine qZ ?_;refine wps he0 (fun w1 hW hG=>?_) fun x82=>?_
     ·exact spc [RH.v ⟨r2n,r2a,r2l,r2c,r2b,r2m,r2d⟩,RH.v ⟨un,ua,ul,uc,ub,um,ud⟩] Tryz.func108 (aK _ _ _ _ _ ((HP'.out.ext hW).raw ZC'.out zo) ((K4.out.ext hW).raw ZD.out zo))
     refine qZ ?_;refine wps he0 (fun w1 hW hG=>?_) fun x84=>?_
     ·have g81:=gS (hG 7 dZ);have g82:=gS (hG 14 dZ);exact spc [x81.v,x82.v] Tryz.func104 (dw x81 x82 _ _ _ (g81.raw (ZC.out.mul ZS.out) zo) (g82.raw (ZC'.out.mul ZD.out) zo))
     refine qZ ?_;refine aq ?_;intro y24 hI;have hE:=he0.out.trans hI.ext;have G81:=gT (hI.facts 7);have G82:=gT (hI.facts 14);have G84:=gT (hI.facts 15);clear hI he0 hz0 hc0 hf0;refine mV8 hE ?_ HX B5 B7 B9 B10 B11 B14 K1;clear HX B5 B7 B9 B10 B11 B14 K1;intro HX B5 B7 B9 B10 B11 B14 K1;refine mV6 hE ?_ K2 GX KP HR K3 K4;clear K2 GX KP HR K3 K4;intro K2 GX KP HR K3 K4;have hs_y24:=hE.size;replace b_B5:=bX3 B5;replace b_B7:=bX3 B7;replace b_B9:=bX3 B9;replace b_B10:=bX3 B10;replace b_B11:=bX3 B11;replace b_B14:=bX3 B14;simp only [pD];clear f1 f2 f3 d1 d2 d3 hfz hLl;rw [HV.out] at G84;obtain ⟨r4,⟨f1,f2,f3⟩,-⟩:=aH.cells HR.out (k:=gk) (by rw [aM];omega);have hfz:=aH.frozen HR.out
     go_upto_region 23 with fail
     refine eW (k:=gk) HR.out (by rw [aM];omega) G84.out ?_;rintro y26 ⟨cs,T⟩ TN;rw [HGG.out,yR hgj] at TN;clear f1 f2 f3 hfz;clear HR;replace HX:=Hi (T.ext HX.out zo);replace B5:=Hi (T.rest _ _ zo B5.out);replace B7:=Hi (T.rest _ _ zo B7.out);replace B9:=Hi (T.rest _ _ zo B9.out);replace B10:=Hi (T.rest _ _ zo B10.out);replace B11:=Hi (T.rest _ _ zo B11.out);replace B14:=Hi (T.rest _ _ zo B14.out);replace K1:=Hi (K1.out.keep T.keep);replace K2:=Hi (K2.out.keep T.keep);replace K3:=Hi (K3.out.keep T.keep);replace K4:=Hi (K4.out.keep T.keep);replace GX:=Hi (GX.out.keep T.keep);replace KP:=Hi (KP.out.put T zo);replace G81:=Hi (G81.out.keep T.keep);replace G82:=Hi (G82.out.keep T.keep);replace G84:=Hi (G84.out.keep T.keep);have hs_y26:=nle T.size;have hr_y26:=nle T.size.symm;clear T;replace b_B5:=bX3 B5;replace b_B7:=bX3 B7;replace b_B9:=bX3 B9;replace b_B10:=bX3 B10;replace b_B11:=bX3 B11;replace b_B14:=bX3 B14;have HR:=Hi TN;clear TN;go_wp2
     go_roundg g
     case measure=>have:=HGG.out;omega
     case rel=>exact ⟨congrArg _ zo,zo,HX.out,⟨B5.out,B7.out,B9.out,B10.out,B11.out,K1.out,K2.out,K3.out,K4.out,KP.out⟩,HR.out,B14.out,GX.out⟩
end Go.Proofs.YtkcpmclnocmalaaGreat
