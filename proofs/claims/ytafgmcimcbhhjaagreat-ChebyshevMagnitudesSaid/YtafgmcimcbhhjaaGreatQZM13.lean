/- Fb, Crs, Acr, Amp, Awk8 -/
import Derived.Test.YtafgmcimcbhhjaaGreatQZM12
set_option linter.unusedVariables false
set_option maxRecDepth 8000
set_option maxHeartbeats 4000000
namespace Go.Proofs.YtafgmcimcbhhjaaGreat
open Go.RowKit Go.Front Go.Num
attribute [local go_sem] XW.cell XW.frozen
theorem sR(l:List Rat):kq l≠0:=by
 induction l using Stab.snoc_ind with
 | h0=>exact (by decide:(1:Rat)≠0)
 | h1 l x ih =>
  rw [jK];unfold zI;intro h;rcases nXq.1 h with h1|h1
  ·exact ih h1
  ·have h2:(kq l*x).den=0:=by
    have:(((kq l*x).den:Int):Rat)=((0:Int):Rat):=h1;have:=Rat.intCast_inj.1 this;omega
   exact absurd h2 (kq l*x).den_nz
theorem gJ{l:List Rat}{f:Rat→Rat}{i:Nat}(h:i<l.length):(l.map f).getD i 0=f (l.getD i 0):=by simp [h]
theorem pH{os:List Rat}{i:Nat}(h:i<os.length)(m:Nat)(z:Rat):(os.set i z).getD m 0=if m=i then z else os.getD m 0:=by
 by_cases he:m=i
 ·subst he;rw [if_pos rfl];simp [h]
 ·rw [if_neg he,nXc,List.getElem?_set_ne (Ne.symm he),←nXc]
theorem rt(w:World):ar 130 [.int .i64 0] w PF (fun x w'=>cK w.heap.size w' x.1 (chP 0).1∧cK w.heap.size w' x.2 (chP 0).2):=ow 0 w (by decide)
theorem yj{k i:Nat}(hk:k≤60):Sz 4 (Tf k i):=(oZ hk).1.getD (by decide) i
theorem fK.put{w1 w2:World}{L B b:Nat}{os:List Rat}{T:TypeId}{cs:Array Value}(h:fK w1 L os B)(T2:jX w1 b T cs w2)(hb:b≠L):fK w2 L os B:=by
 obtain ⟨rs,h1,h2,h3⟩:=h;exact ⟨rs,T2.rest L _ (Ne.symm hb) h1,h2.rawkeep T2.keep,h3⟩
def fbO(cs:List Rat)(S:Rat)(j i m:Nat):Rat:=Stab.sm (if m<i then j+1 else j) (fun k=>cs.getD k 0*S*Tf k m)
theorem uM{cs:List Rat}{S:Rat}{j m:Nat}:fbO cs S (j+1) 0 m=fbO cs S j (j+1) m:=by
 unfold fbO;rw [if_neg (by omega)];by_cases h:m<j+1
 ·rw [if_pos h]
 ·rw [if_neg h];show Stab.sm j _+cs.getD j 0*S*Tf j m=_;rw [(ly j).1 m (by omega)];grind
theorem zp{cs:List Rat}{S:Rat}{s c j i m:Nat}(hz:SzL s cs)(hs:1≤s)(hS:Sz c S)(hj:j≤14)(hsc:s+c≤4259840):Sz 64000000 (fbO cs S j i m):=by
 unfold fbO;refine (wE (t:=s+c+4) (fun k hk=>((hz.getD hs k).mul hS).mul (yj (by split at hk <;> omega)))).mono ?_;have:(if m<i then j+1 else j)*(s+c+4+1)≤15*4259845:=nXw (by split <;> omega) (by omega);omega
theorem xz{cs os:List Rat}{S:Rat}{n j i:Nat}(hl:os.length=n)(h:∀ m,m<n→os.getD m 0=fbO cs S j i m)(hi:i<n):∀ m,m<n→(os.set i (os.getD i 0+cs.getD j 0*S*Tf j i)).getD m 0=fbO cs S j (i+1) m:=by
 intro m hm;by_cases he:m=i
 ·subst he;rw [show (os.set m (os.getD m 0+cs.getD j 0*S*Tf j m)).getD m 0=os.getD m 0+cs.getD j 0*S*Tf j m by simp [hl,hm],h m hm];unfold fbO;rw [if_neg (by omega),if_pos (by omega)];rfl
 ·rw [show (os.set i (os.getD i 0+cs.getD j 0*S*Tf j i)).getD m 0=os.getD m 0 by rw [nXc,List.getElem?_set_ne (Ne.symm he),←nXc],h m hm];unfold fbO;by_cases h1:m<i
  ·rw [if_pos h1,if_pos (by omega)]
  ·rw [if_neg h1,if_neg (by omega)]
theorem uN(cs:List Rat)(S:Rat)(j k:Nat):fbO cs S j k k+cs.getD j 0*S*Tf j k=fbO cs S j (k+1) k:=by
 unfold fbO;rw [if_neg (by omega),if_pos (by omega)];rfl
theorem xA{cs os:List Rat}{S:Rat}{n:Nat}(hn:cs.length=n)(hl:os.length=n)(hS:S≠0)(h:∀ m,m<n→os.getD m 0=fbO cs S n 0 m):tz (os.map (· / S))=fbV cs:=by
 unfold fbV;apply qj;intro i;rw [dE,hn];split
 ·rename_i hi
  rw [gJ (by omega),h i hi];unfold fbO fbS;rw [if_neg (by omega),hn,Stab.sm_congr (g:=fun k=>S*(cs.getD k 0*Tf k i)) (fun k _=>by grind),Stab.sm_mul,nYa,Rat.div_def,nYb,nYh _ hS,Rat.mul_one]
 ·rw [bU (by simp;omega)]
theorem gO(ao:Option Addr)(n cap:Nat)(cs:List Rat)(s:Nat)(w:World)(h:cU w ⟨ao,n,cap⟩ cs)(hn:n≤14)(hz:SzL s cs)(hs1:1≤s)(hs:s≤65536)(hg:cg s n≤4194304) :
  ar 126 [.slice ao n cap] w RF (fun x w'=>x.2=0∧cj w' x.1 (fbV cs)):=by
 obtain ⟨i0,hi0,hz0,hz1,hz2⟩:=info_parts jU;have H:=Hi h;have HX:=Hi (Ext.refl w);have hle:=h.le;have hmx:=h.max;have Hlen:=Hi h.len;simp only at hle hmx Hlen;have HZ:=Hi hz;have ZS:Hid (Sz 4194304 (kq cs)):=Hi (by
  have h0:=oX hz n (by rw [Hlen.out];exact nXd _);rw [nXl (by rw [Hlen.out];exact nXd _)] at h0;exact h0.mono hg)
 have SN:=Hi (sR cs);have hcall:=iw ao n cap cs s w h (by omega) hz hg (by omega);obtain ⟨S,hS⟩:∃ S,S=kq cs:=⟨_,rfl⟩;rw [←hS] at ZS SN hcall;have HC:=Hi hcall;have HOz:Hid (∀ j i m,j≤n→Sz 64000000 (fbO cs S j i m)):=Hi (fun j i m hj=>zp hz hs1 ZS.out (by omega) (by omega));clear h hz hS hcall;unfold ar;go_enter Tryz.func126,Tryz.ntmps126
 go_wp2_with fail
 refine cM (HC.out) fun x1 w1 hE G1=>?_
 replace HX:=hE.tr HX;have hs_w1:=hE.size;clear hE
 go_upto_region 4 with fail
 refine nmA ?_;intro y2 hE B4 hz_y2 hr_y2;refine mV2 hE ?_ G1 HX;clear G1 HX;intro G1 HX;have hs_y2:=hE.size;clear hE;replace b_B4:=bX3 B4
 go_upto_region 5 with (refine aD rfl (.tmp 19) (.tmp 19) 24 rfl 34 i0 (RH.v default) 3 Tryz.underlying24 hi0 hz0 hz1 _ _ n rfl rfl (by omega) (by omega) (by rw [hz2];omega) (by omega) ?_;intro w3 hnew hE)
 have HOB0:=Hi (fK.start (RBk.make rfl hnew));clear hnew;refine mV3 hE ?_ B4 G1 HX;clear B4 G1 HX;intro B4 G1 HX;have hs_w3:=hE.size;clear hE;replace b_B4:=bX3 B4;obtain ⟨sn,sa,sl,sc,sb,sm,sd⟩:=x1;obtain ⟨b4,hb4⟩:∃ b4,b4=w1.heap.size:=⟨_,rfl⟩;obtain ⟨L,hL⟩:∃ L,L=y2.heap.size:=⟨_,rfl⟩;have hLw:w.heap.size≤L:=by omega
 have hbw:w.heap.size≤b4:=by omega
 have hne:b4≠L:=by omega
 rw [←hb4] at B4 ⊢;rw [←hL] at HOB0 ⊢;have RS0:=Hi (G1.out.raw ZS.out (by decide));have HOB:Hid (fK w3 L (List.replicate n 0) 64000000):=Hi (let ⟨rs,h1,h2,h3⟩:=HOB0.out;⟨rs,h1,h2,h3.mono (by decide)⟩);clear hb4 hL b_B4 HOB0 G1;go_wp2
 go_loopg [23] n (fun g v wr=>∃ (i:Nat) (os:List Rat),i+g=n∧v=.int .i64 (i:Nat)∧Ext w wr∧aX wr ⟨sn,sa,sl,sc,sb,sm,sd⟩ S∧wr.heap[b4]?=some (.cells #[.bool sn,.slice sa sl sc,.slice sb sm sd] 34 (0,0))∧fK wr L os 64000000∧os.length=n∧∀ m,m<n→os.getD m 0=0)
 case atStart=>exact ⟨0,_,by omega,rfl,HX.out,RS0.out,B4.out,HOB.out,by simp,fun m hm=>by simp [hm]⟩
 case round =>
  obtain ⟨i,os,hi,rfl,g1,g2,g3,g4,g5,g6⟩:=hrel;clear HX RS0 B4 HOB;have HX:=Hi g1;have RS0:=Hi g2;have B4:=Hi g3;have HOB:=Hi g4;have HOl:=Hi g5;have HOv:=Hi g6;clear g1 g2 g3 g4 g5 g6;replace b_B4:=bX3 B4;by_cases h0:gk=0
  case neg =>
   have hin:(i:Int)<n:=by omega
   go_wp2_with fail
   refine cM (fX 0 _ (by decide) (by decide)) fun x2 w2 hE G2=>?_
   refine mV4 hE ?_ HX RS0 B4 HOB;clear HX RS0 B4 HOB;intro HX RS0 B4 HOB;have hs_w2:=hE.size;clear hE;replace b_B4:=bX3 B4;have hfr:∀ x,w2.frozen? ⟨L,x,none⟩=false:=let ⟨_,h1,_⟩:=HOB.out;h1.frozen;have hLl:=HOB.out.lt;obtain ⟨ro,⟨e1,e2,e3⟩,-⟩:=HOB.out.cells (k:=i) (by rw [HOl.out];omega)
   go_upto_region 9 with fail
   refine l0 (k:=i) (x:=x2) HOB.out (by rw [HOl.out];omega) (G2.out.raw (Sz.zero (k:=1) (by decide)) (by decide)) ((Sz.zero (k:=1) (by decide)).mono (by decide)) (nXd _) ?_;intro w6 hT hOB6;obtain ⟨cs',T⟩:=hT;have HOB6:=Hi hOB6;have HX6:=Hi (T.ext HX.out (by omega));have B46:=Hi (T.rest _ _ (by omega) B4.out);have RS6:=Hi (RS0.out.keep T.keep);clear T hOB6;go_wp2
   go_roundg (gk-1)
   case measure=>omega
   case rel=>exact ⟨i+1,_,by omega,by go_num,HX6.out,RS6.out,B46.out,HOB6.out,by rw [nXn];exact HOl.out,fun m hm=>by
    rw [pH (by rw [HOl.out];omega)];split
    ·rfl
    ·exact HOv.out m hm⟩
  subst h0;obtain rfl:i=n:=by omega
  have hLl:=HOB.out.lt
  go_wp2_with fail
  refine cM (rt _) fun x3 w3 hE G3=>?_
  refine mV4 hE ?_ HX RS0 B4 HOB;clear HX RS0 B4 HOB;intro HX RS0 B4 HOB;have hs_w3:=hE.size;clear hE;replace b_B4:=bX3 B4;obtain ⟨⟨pa,pn,pc⟩,⟨qa,qn,qc⟩⟩:=x3;have LP:=Hi (G3.out.1.mono (B':=L+1) hLl);have LQ:=Hi (G3.out.2.mono (B':=L+1) hLl);clear G3 hLl;simp only [PF,SH.v];have HOv0:Hid (∀ m,m<i→os.getD m 0=fbO cs S 0 0 m):=Hi (fun m hm=>by rw [HOv.out m hm];unfold fbO;rw [if_neg (by omega)];rfl);clear HOv;go_wp2
  go_loopg [7,8,37] i (fun g u v z wr=>∃ (j:Nat) (x y:SH) (os:List Rat),u=x.v∧v=y.v∧j+g=i∧z=.int .i64 (j:Nat)∧Ext w wr∧aX wr ⟨sn,sa,sl,sc,sb,sm,sd⟩ S∧wr.heap[b4]?=some (.cells #[.bool sn,.slice sa sl sc,.slice sb sm sd] 34 (0,0))∧fK wr L os 64000000∧os.length=i∧(∀ m,m<i→os.getD m 0=fbO cs S j 0 m)∧cK (L+1) wr x (chP j).1∧cK (L+1) wr y (chP j).2)
  case atStart=>exact ⟨0,⟨pa,pn,pc⟩,⟨qa,qn,qc⟩,os,rfl,rfl,by omega,rfl,HX.out,RS0.out,B4.out,HOB.out,HOl.out,HOv0.out,LP.out,LQ.out⟩
  case round =>
   obtain ⟨j,⟨pa,pn,pc⟩,⟨qa,qn,qc⟩,os,rfl,rfl,hj,rfl,g1,g2,g3,g4,g5,g6,g7,g8⟩:=hrel;clear HX RS0 B4 HOB HOl HOv0 LP LQ;have HX:=Hi g1;have RS0:=Hi g2;have B4:=Hi g3;have HOB:=Hi g4;have HOl:=Hi g5;have HOv:=Hi g6;have LP:=Hi g7;have LQ:=Hi g8;clear g1 g2 g3 g4 g5 g6 g7 g8;simp only [SH.v];have hpn:=LP.out.len;have hqn:=LQ.out.len;have hcl:=(nE j).2;rw [xX] at hpn;simp only at hpn hqn;subst hpn;have hp1:=LP.out.can.le;have hp2:=LP.out.can.max;have hszw:=HX.out.size;simp only at hp1 hp2;replace b_B4:=bX3 B4;by_cases h0:gk=0
   case pos =>
    subst h0;obtain rfl:j=i:=by omega
    have HSz:Hid (SzL 64000000 os):=Hi (let ⟨_,_,_,h3⟩:=HOB.out;h3);have RO:=Hi (HOB.out.raw HOl.out (by omega))
    go_wp2_with fail
    refine cM (jF (some ⟨L,0,none⟩) j j os ⟨sn,sa,sl,sc,sb,sm,sd⟩ S _ RO.out RS0.out SN.out (by omega)) fun x20 w20 hE G20=>?_
    refine mV6 hE ?_ HX RS0 B4 HOB LP LQ;clear HX RS0 B4 HOB LP LQ;intro HX RS0 B4 HOB LP LQ;have hs_w20:=hE.size;clear hE;replace b_B4:=bX3 B4;obtain ⟨da,dn,dc⟩:=x20;have hdn:=G20.out.len;rw [nXk,HOl.out] at hdn;simp only at hdn;subst hdn;simp only [SH.v]
    go_wp2_with fail
    refine cM (gF da j dc (os.map (· / S)) _ (G20.out.can.raw (k:=68194304) (fun q hq=>by obtain ⟨y,hy,rfl⟩:=nYd.1 hq;exact ((HSz.out y hy).div ZS.out).mono (by decide)) (by decide)) (by omega)) fun x21 w21 hE G21=>?_
    refine mV7 hE ?_ G20 HX RS0 B4 HOB LP LQ;clear G20 HX RS0 B4 HOB LP LQ;intro G20 HX RS0 B4 HOB LP LQ;have hs_w21:=hE.size;clear hE;replace b_B4:=bX3 B4;have HV:=Hi (xA Hlen.out HOl.out SN.out HOv.out);rw [HV.out] at G21;go_wp2;exact bodyPost_ret (v:=RF (x21,0)) (by simp [results,Tryz.results126,go_sem,RF]) rfl ⟨(x21,0),rfl,HX.out,rfl,G21.out.can⟩
   obtain ⟨g0,rfl⟩:∃ g0,gk=g0+1:=⟨gk-1,by omega⟩;obtain ⟨b,off,r,hao,hbl,⟨hc1,hc2,hc3⟩,hP⟩:=(H.out.ext HX.out).cells' (k:=j) (by omega);obtain ⟨rneg,ra,rn,rc,rb,rm,rd⟩:=r;simp only at hc1 hc2 hc3;subst hao;have RP:=Hi hP;have hjn:(j:Int)<i:=by omega
   have hLl:=HOB.out.lt;have hb4r:=b_B4.2.2;clear hP;replace LP:Hid (LIn wr ⟨pa,j+1,pc⟩ (chP j).1 (L+1) wr.heap.size):=Hi LP.out;replace LQ:Hid (LIn wr ⟨qa,qn,qc⟩ (chP j).2 (L+1) wr.heap.size):=Hi LQ.out
   go_upto_region 14 with fail
   refine nmA ?_;intro y1 hE B10 hz_y1 hr_y1;refine mV7 hE ?_ HX RS0 B4 HOB RP LP LQ;clear HX RS0 B4 HOB RP LP LQ;intro HX RS0 B4 HOB RP LP LQ;have hs_y1:=hE.size;clear hE;replace b_B4:=bX3 B4;replace b_B10:=bX3 B10;obtain ⟨b10,hb10⟩:∃ b10,b10=wr.heap.size:=⟨_,rfl⟩;have hb10w:w.heap.size≤b10:=by omega
   have hbL:L<b10:=by omega
   have hb4L:b4<b10:=by omega
   have hb10y:b10<y1.heap.size:=by omega
   rw [←hb10] at LP LQ B10 ⊢;clear hb10 b_B10 hc1 hc2 hc3 hbl;replace b_B4:=bX3 B4;replace b_B10:=bX3 B10
   go_wp2_with fail
   refine cM (ew ⟨rneg,ra,rn,rc,rb,rm,rd⟩ ⟨sn,sa,sl,sc,sb,sm,sd⟩ _ S _ RP.out RS0.out) fun x2 w2 hE G2=>?_
   refine mV8 hE ?_ B10 HX RS0 B4 HOB RP LP LQ;clear B10 HX RS0 B4 HOB RP LP LQ;intro B10 HX RS0 B4 HOB RP LP LQ;have hs_w2:=hE.size;clear hE;replace b_B4:=bX3 B4;replace b_B10:=bX3 B10
   go_upto_region 15 with fail
   refine cE B10.out rfl ?_;intro y3 T;replace HX:=Hi (T.ext HX.out (by omega));replace RS0:=Hi (RS0.out.keep T.keep);replace HOB:=Hi (HOB.out.put T (by omega));replace LP:=Hi (LP.out.put T (by omega));replace LQ:=Hi (LQ.out.put T (by omega));replace B4:=Hi (T.rest _ _ (by omega) B4.out);replace RP:=Hi (RP.out.keep T.keep);replace B10:=Hi (T.bx);replace G2:=Hi (G2.out.keep T.keep);have hs_y3:=nle T.size;have hr_y3:=nle T.size.symm;clear T;replace b_B4:=bX3 B4;replace b_B10:=bX3 B10;obtain ⟨v,hv⟩:∃ v,v=cs.getD j 0*S:=⟨_,rfl⟩;have ZV:Hid (Sz 4259840 v):=Hi (by rw [hv];exact ((HZ.out.getD hs1 j).mul ZS.out).mono (by omega));have Hv:=Hi hv;rw [←hv] at G2;have RV:=Hi (G2.out.raw ZV.out (by decide));obtain ⟨vn,va,vl,vc,vb,vm,vd⟩:=x2;clear RP;clear G2;clear hv;go_wp2
   go_loopg [46] (j+1) (fun g z wr=>∃ (k:Nat) (os:List Rat),k+g=j+1∧z=.int .i64 (k:Nat)∧Ext w wr∧aX wr ⟨sn,sa,sl,sc,sb,sm,sd⟩ S∧wr.heap[b4]?=some (.cells #[.bool sn,.slice sa sl sc,.slice sb sm sd] 34 (0,0))∧fK wr L os 64000000∧os.length=i∧(∀ m,m<i→os.getD m 0=fbO cs S j k m)∧LIn wr ⟨pa,j+1,pc⟩ (chP j).1 (L+1) b10∧LIn wr ⟨qa,qn,qc⟩ (chP j).2 (L+1) b10∧wr.heap[b10]?=some (.cells #[.bool vn,.slice va vl vc,.slice vb vm vd] 34 (0,0))∧aX wr ⟨vn,va,vl,vc,vb,vm,vd⟩ v)
   case atStart=>exact ⟨0,os,by omega,rfl,HX.out,RS0.out,B4.out,HOB.out,HOl.out,HOv.out,LP.out,LQ.out,B10.out,RV.out⟩
   case round =>
    obtain ⟨k,os,hk,rfl,g1,g2,g3,g4,g5,g6,g7,g8,g9,g10⟩:=hrel;clear HX RS0 B4 HOB HOl HOv LP LQ B10 RV;have HX:=Hi g1;have RS0:=Hi g2;have B4:=Hi g3;have HOB:=Hi g4;have HOl:=Hi g5;have HOv:=Hi g6;have LP:=Hi g7;have LQ:=Hi g8;have B10:=Hi g9;have RV:=Hi g10;clear g1 g2 g3 g4 g5 g6 g7 g8 g9 g10;have HZp:=Hi (oZ (n:=j) (by omega));have hLr:=HOB.out.lt;replace b_B4:=bX3 B4;replace b_B10:=bX3 B10;by_cases h1:gk=0
    case pos =>
     subst h1;obtain rfl:k=j+1:=by omega
     go_wp2_with fail
     refine cM (gI pa qa (j+1) pc qn qc _ _ _ (LP.out.can.raw HZp.out.1 (by decide)) (LQ.out.can.raw HZp.out.2 (by decide)) (by omega) (by omega) (HZp.out.1.mono (by decide)) (HZp.out.2.mono (by decide))) fun x30 w30 hE G30=>?_
     refine mV8 hE ?_ HX RS0 B4 HOB LP LQ B10 RV;clear HX RS0 B4 HOB LP LQ B10 RV;intro HX RS0 B4 HOB LP LQ B10 RV;have hs_w30:=hE.size;clear hE;replace b_B4:=bX3 B4;replace b_B10:=bX3 B10;have LN:=Hi (G30.out.mono (B':=L+1) hLr);have LPn:Hid (cK (L+1) w30 ⟨pa,j+1,pc⟩ (chP j).1):=Hi (LIn.mono LP.out (nXd _) (by omega));go_wp2
     go_roundg g0
     case measure=>omega
     case rel=>exact ⟨j+1,x30,⟨pa,j+1,pc⟩,os,rfl,rfl,by omega,by go_num,HX.out,RS0.out,B4.out,HOB.out,HOl.out,fun m hm=>by rw [uM];exact HOv.out m hm,LN.out,LPn.out⟩
    have hki:k<i:=by omega
    have hkI:(k:Int)<i:=by omega
    have hkj:(k:Int)<(j:Int)+1:=by omega
    obtain ⟨b',off',r',hao',hat,hT⟩:=LP.out.can.at (k:=k) (by omega);have hbl':=RAt.lt hat;obtain ⟨hd1,hd2,hd3⟩:=hat;obtain ⟨tneg,ta,tn,tc,tb,tm,td⟩:=r';simp only at hd1 hd2 hd3;subst hao';have RT:=Hi (hT.raw (yj (k:=j) (i:=k) (by omega)) (by decide));have HRT:Hid (aX wr ⟨tneg,ta,tn,tc,tb,tm,td⟩ (Tf j k)):=RT;clear hT;clear RT
    go_upto_region 18 with fail
    refine nmA ?_;intro y5 hE B12 hz_y5 hr_y5;refine mV8 hE ?_ HX RS0 B4 HOB LP LQ B10 RV;clear HX RS0 B4 HOB LP LQ B10 RV;intro HX RS0 B4 HOB LP LQ B10 RV;replace HRT:=mV hE HRT;have hs_y5:=hE.size;clear hE;replace b_B4:=bX3 B4;replace b_B10:=bX3 B10;replace b_B12:=bX3 B12;obtain ⟨ro,⟨e1,e2,e3⟩,hro⟩:=HOB.out.cells (k:=k) (by rw [HOl.out];omega);obtain ⟨u,hu⟩:∃ u,u=os.getD k 0:=⟨_,rfl⟩;rw [←hu] at hro;obtain ⟨on,oa,ol,oc,ob,om,od⟩:=ro;simp only at e1 e2 e3;have ZU:Hid (u=fbO cs S j k k):=Hi (by rw [hu];exact HOv.out k hki);have ZW:Hid (u+v*Tf j k=fbO cs S j (k+1) k):=Hi (by rw [ZU.out,Hv.out];exact uN cs S j k);have ZZ:Hid (Sz 64000000 (u+v*Tf j k)):=Hi (by rw [ZW.out];exact HOz.out j (k+1) k (by omega));have HRO:=Hi hro;have Hu:=Hi hu;clear hro hu;have hfr:∀ x,y5.frozen? ⟨L,x,none⟩=false:=let ⟨_,h1,_⟩:=HOB.out;h1.frozen;have hLl5:=HOB.out.lt;refine wpG 11 (fun opIx=>match opIx with
     | 8=>.spec RH default RH.v (fun s w'=>aB w' s (v*Tf j k))
     | 9=>.spec RH default RH.v (fun s w'=>aB w' s (u+v*Tf j k))
     | _=>.quiet) (fun|9=>[8]|_=>[]) fun w0 he0 hz0 hc0 hf0=>?_
    refine wps he0.out rfl rfl (fun w1 hW hG=>?_) fun x8=>?_
    ·exact spc [RH.v ⟨vn,va,vl,vc,vb,vm,vd⟩,RH.v ⟨tneg,ta,tn,tc,tb,tm,td⟩] Tryz.func85 (ew _ _ _ _ _ (RV.out.ext hW) (HRT.out.ext hW))
    refine qZ ?_;refine wps he0.out rfl rfl (fun w1 hW hG=>?_) fun x9=>?_
    ·have g8:=(hG 8 (by decide):aP _ _).get fun _ e g=>g.ext e
     exact spc [RH.v ⟨on,oa,ol,oc,ob,om,od⟩,x8.v] Tryz.func118 (fx _ x8 _ _ _ (HRO.out.ext hW) (g8.raw (ZV.out.mul (yj (by omega))) (by decide)))
    refine qZ ?_;refine am ?_;intro w7 hI;have hE:=he0.out.trans hI.ext;have G8:=gT (hI.facts 8);have G9:=gT (hI.facts 9);clear hI he0 hz0 hc0 hf0;refine mV8 hE ?_ B12 HX RS0 B4 HOB LP LQ B10;clear B12 HX RS0 B4 HOB LP LQ B10;intro B12 HX RS0 B4 HOB LP LQ B10;refine mV3 hE ?_ RV HRT HRO;clear RV HRT HRO;intro RV HRT HRO;have hs_w7:=hE.size;clear hE;replace b_B4:=bX3 B4;replace b_B10:=bX3 B10;replace b_B12:=bX3 B12;simp only [pD];have hfr:∀ x,w7.frozen? ⟨L,x,none⟩=false:=let ⟨_,h1,_⟩:=HOB.out;h1.frozen;have hLl:=HOB.out.lt;obtain ⟨ro3,⟨e1,e2,e3⟩,-⟩:=HOB.out.cells (k:=k) (by rw [HOl.out];exact hki)
    go_upto_region 19 with fail
    refine l0 (k:=k) (x:=x9) HOB.out (by rw [HOl.out];exact hki) (G9.out.raw ZZ.out (by decide)) ZZ.out (nXd _) ?_;intro w8 hT hOB;obtain ⟨cs',T'⟩:=hT;have HOBn:=Hi hOB;have HOv3:Hid (∀ m,m<i→(os.set k (u+v*Tf j k)).getD m 0=fbO cs S j (k+1) m):=Hi (fun m hm=>by
     have h1:=xz HOl.out HOv.out hki m hm;rw [←Hv.out,←Hu.out] at h1;exact h1)
    clear hOB e1 e2 e3 hfr hLl;clear HOB;clear G8;clear G9;clear HRO;clear HRT;have T:=T';replace HX:=Hi (T.ext HX.out (by omega));replace RS0:=Hi (RS0.out.keep T.keep);replace RV:=Hi (RV.out.keep T.keep);replace LP:=Hi (LP.out.put T (by omega));replace LQ:=Hi (LQ.out.put T (by omega));replace B4:=Hi (T.rest _ _ (by omega) B4.out);replace B10:=Hi (T.rest _ _ (by omega) B10.out);replace B12:=Hi (T.rest _ _ (by omega) B12.out);have hs_w8:=nle T.size;have hr_w8:=nle T.size.symm;clear T;replace b_B4:=bX3 B4;replace b_B10:=bX3 B10;replace b_B12:=bX3 B12;have HOB:=Hi HOBn.out;go_wp2
    go_roundg (gk-1)
    case measure=>omega
    case rel=>exact ⟨k+1,_,by omega,by go_num,HX.out,RS0.out,B4.out,HOB.out,by rw [nXn];exact HOl.out,HOv3.out,LP.out,LQ.out,B10.out,RV.out⟩
def crE(b c:List Rat)(k:Nat):Rat:=if k=0 then iK b c k else iK b c k+iK c b k
def aC(ps qs:List Rat):List Rat:=fbV ((List.range (max (tz ps).length (tz qs).length)).map (crE (tz ps) (tz qs)))
theorem nC(b c:List Rat)(S T:Rat)(k:Nat):iK (b.map (·*S)) (c.map (·*T)) k=S*T*iK b c k:=by
 unfold iK;rw [nXk,nXk,←Stab.sm_mul];apply Stab.sm_congr;intro i hi;rw [gJ (by omega),gJ (by omega)];grind
theorem zE(b c:List Rat)(S T:Rat)(k:Nat):crE (b.map (·*S)) (c.map (·*T)) k=S*T*crE b c k:=by
 unfold crE;split
 ·exact nC b c S T k
 ·rw [nC,nC];grind
theorem mE{s k:Nat}{b c:List Rat}(hb:SzL s b)(hc:SzL s c)(hs:1≤s)(hl:b.length≤14):Sz (1+14*(2*s+1)) (iK b c k):=by
 unfold iK;refine (wE (t:=2*s) (fun i _=>((hb.getD hs i).mul (hc.getD hs (i+k))).mono (by omega))).mono ?_;have:(min b.length (c.length-k))*(2*s+1)≤14*(2*s+1):=nXg _ (by omega);omega
theorem Ax{s k:Nat}{b c:List Rat}(hb:SzL s b)(hc:SzL s c)(hs:1≤s)(hl:b.length≤14)(hl2:c.length≤14):Sz (3+28*(2*s+1)) (crE b c k):=by
 unfold crE;split
 ·exact (mE hb hc hs hl).mono (by omega)
 ·exact ((mE hb hc hs hl).add (mE hc hb hs hl2)).mono (by omega)
theorem nT{l:List Rat}{S:Rat}(h:tz l=l)(hS:S≠0):tz (l.map (·*S))=l.map (·*S):=by
 rcases Nat.eq_zero_or_pos l.length with h0|h0
 ·rw [nXi.1 h0];rfl
 ·obtain ⟨n,hn⟩:∃ n,l.length=n+1:=⟨l.length-1,by omega⟩;have hl:l.getD n 0≠0:=wu (by rw [h];exact hn);have hlen:(tz (l.map (·*S))).length=n+1:=by
   apply lG
   ·rw [gJ (by omega)];intro h1;rcases nXq.1 h1 with h2|h2
    ·exact hl h2
    ·exact hS h2
   ·intro i hi;rw [bU (by simp;omega)]
  rw [eV,hlen,nXl (by simp;omega)]
theorem SzL.scale{s c:Nat}{l:List Rat}{S:Rat}(h:SzL s l)(hS:Sz c S):SzL (s+c) (l.map (·*S)):=by
 intro q hq;obtain ⟨y,hy,rfl⟩:=nYd.1 hq;exact (h y hy).mul hS
theorem sP(ao bo:Option Addr)(n c m d s:Nat)(ps qs:List Rat)(w:World)(h:cU w ⟨ao,n,c⟩ ps)(k:cU w ⟨bo,m,d⟩ qs)(hn:n≤14)(hm:m≤14)(hz:SzL s ps)(kz:SzL s qs)(hs1:1≤s)(hs:s≤400) :
  ar 59 [.slice ao n c,.slice bo m d] w RF (fun x w'=>x.2=0∧cj w' x.1 (aC ps qs)):=by
 obtain ⟨i0,hi0,hz0,hz1,hz2⟩:=info_parts jU;have H:=Hi h;have K:=Hi k;have HX:=Hi (Ext.refl w);have Hn:=Hi h.len;have Hm:=Hi k.len;simp only at Hn Hm;have HZ:=Hi hz.tz;have KZ:=Hi kz.tz;clear h k hz kz;unfold ar;go_enter Tryz.func59,Tryz.ntmps59
 go_wp2_with fail
 refine cM (gF ao n c ps _ H.out (by omega)) fun x1 w1 hE G1=>?_
 replace HX:=hE.tr HX;have hs_w1:=hE.size;clear hE
 go_wp2_with fail
 refine cM (gF bo m d qs _ (K.out.ext HX.out) (by omega)) fun x2 w2 hE G2=>?_
 refine mV2 hE ?_ G1 HX;clear G1 HX;intro G1 HX;have hs_w2:=hE.size;clear hE;obtain ⟨pa,P,pc⟩:=x1;obtain ⟨qa,Q,qc⟩:=x2;simp only [SH.v];have hP:=G1.out.len;have hQ:=G2.out.len;have hPn:=ag ps;have hQn:=ag qs;rw [Hn.out] at hPn;rw [Hm.out] at hQn;simp only at hP hQ;rw [hP] at hPn;rw [hQ] at hQn;have HPl:=Hi hP;have HQl:=Hi hQ;have HV:Hid (aC ps qs=fbV ((List.range (max P Q)).map (crE (tz ps) (tz qs)))):=Hi (by unfold aC;rw [hP,hQ]);have HPt:=Hi (aF ps);have HQt:=Hi (aF qs);clear hP hQ;obtain ⟨p,hp⟩:∃ p,p=tz ps:=⟨_,rfl⟩;obtain ⟨q,hq⟩:∃ q,q=tz qs:=⟨_,rfl⟩;rw [←hp] at G1 HZ HPl HV HPt;rw [←hq] at G2 KZ HQl HV HQt;clear hp hq;have LP:=Hi (G1.out.can.raw HZ.out (by omega));have LQ:=Hi (G2.out.can.raw KZ.out (by omega));have hp1:=LP.out.le;have hp2:=LP.out.max;have hq1:=LQ.out.le;have hq2:=LQ.out.max;simp only at hp1 hp2 hq1 hq2;clear G1;clear G2;have hcg:∀ j,j≤14→cg s j≤5601:=by intro j hj;unfold cg;have:=nXw hj hs;omega
 go_wp2_with fail
 refine cM (iw pa P pc p s _ LP.out (by omega) HZ.out (by have:=hcg P (by omega);omega) (by omega)) fun x3 w3 hE G3=>?_
 refine mV3 hE ?_ HX LP LQ;clear HX LP LQ;intro HX LP LQ;have hs_w3:=hE.size;clear hE
 go_wp2_with fail
 refine cM (iw qa Q qc q s _ LQ.out (by omega) KZ.out (by have:=hcg Q (by omega);omega) (by omega)) fun x4 w4 hE G4=>?_
 refine mV4 hE ?_ G3 HX LP LQ;clear G3 HX LP LQ;intro G3 HX LP LQ;have hs_w4:=hE.size;clear hE;have ZS:Hid (Sz 5601 (kq p)):=Hi (by
  have h0:=oX HZ.out P (by rw [HPl.out];exact nXd _);rw [nXl (by rw [HPl.out];exact nXd _)] at h0;exact h0.mono (hcg P (by omega)))
 have ZT:Hid (Sz 5601 (kq q)):=Hi (by
  have h0:=oX KZ.out Q (by rw [HQl.out];exact nXd _);rw [nXl (by rw [HQl.out];exact nXd _)] at h0;exact h0.mono (hcg Q (by omega)))
 have SN:=Hi (sR p);have TN:=Hi (sR q);obtain ⟨S,hS⟩:∃ S,S=kq p:=⟨_,rfl⟩;obtain ⟨V,hT⟩:∃ V,V=kq q:=⟨_,rfl⟩;rw [←hS] at G3 ZS SN;rw [←hT] at G4 ZT TN;clear hS hT hcg;have RS0:=Hi (G3.out.raw ZS.out (by decide));have RT0:=Hi (G4.out.raw ZT.out (by decide));clear G3;clear G4;obtain ⟨sn,sa,sl,sc,sb,sm,sd⟩:=x3;obtain ⟨tn,ta,tl,tc,tb,tm,td⟩:=x4
 go_upto_region 5 with fail
 refine nk ?_;intro y5 hE B6 B7 hz_y5 hr_y5;refine mV5 hE ?_ HX LP LQ RS0 RT0;clear HX LP LQ RS0 RT0;intro HX LP LQ RS0 RT0;have hs_y5:=hE.size;clear hE;replace b_B6:=bX3 B6;replace b_B7:=bX3 B7;refine wpG 6 (fun opIx=>match opIx with
  | 2=>.spec (SH) (default) (SH.v) (fun x w'=>cj w' x (p.map (·*S)))
  | 5=>.spec (SH) (default) (SH.v) (fun x w'=>cj w' x (q.map (·*V)))
  | _=>.quiet) (fun _=>[]) fun w0 he0 hz0 hc0 hf0=>?_
 refine wps he0.out rfl rfl (fun w1 hW hG=>?_) fun x2=>?_
 ·exact spc [.slice pa P pc,RH.v ⟨sn,sa,sl,sc,sb,sm,sd⟩] Tryz.func102 ((ke pa P pc p ⟨sn,sa,sl,sc,sb,sm,sd⟩ S _ (LP.out.ext hW) (RS0.out.ext hW) (by omega) (HZ.out.mono (by omega)) (ZS.out.mono (by decide))).weak (fun x w' _ h=>by rw [←nT HPt.out SN.out];exact h.can))
 refine qZ ?_;refine wps he0.out rfl rfl (fun w1 hW hG=>?_) fun x5=>?_
 ·exact spc [.slice qa Q qc,RH.v ⟨tn,ta,tl,tc,tb,tm,td⟩] Tryz.func102 ((ke qa Q qc q ⟨tn,ta,tl,tc,tb,tm,td⟩ V _ (LQ.out.ext hW) (RT0.out.ext hW) (by omega) (KZ.out.mono (by omega)) (ZT.out.mono (by decide))).weak (fun x w' _ h=>by rw [←nT HQt.out TN.out];exact h.can))
 refine qZ ?_;refine am ?_;intro w6 hI;have hE:=he0.out.trans hI.ext;have G2:=gT (hI.facts 2);have G5:=gT (hI.facts 5);clear hI he0 hz0 hc0 hf0;refine mV7 hE ?_ B6 B7 HX LP RS0 LQ RT0;clear B6 B7 HX LP RS0 LQ RT0;intro B6 B7 HX LP RS0 LQ RT0;have hs_w6:=hE.size;clear hE;replace b_B6:=bX3 B6;replace b_B7:=bX3 B7;simp only [pD];obtain ⟨ba,bn,bc⟩:=x2;obtain ⟨ca,cn,cc⟩:=x5;have hbn:=G2.out.len;have hcn:=G5.out.len;rw [nXk,HPl.out] at hbn;rw [nXk,HQl.out] at hcn;simp only at hbn hcn;subst hbn hcn;have LB:=Hi G2.out.lin;have LC:=Hi G5.out.lin;have ZB:=Hi (HZ.out.scale ZS.out);have ZC:=Hi (KZ.out.scale ZT.out);clear G2 G5;clear LP;clear LQ;simp only [SH.v];have hb1:=LB.out.can.le;have hb2:=LB.out.can.max;have hc1:=LC.out.can.le;have hc2:=LC.out.can.max;simp only at hb1 hb2 hc1 hc2;obtain ⟨M,hM⟩:∃ M,M=max P Q:=⟨_,rfl⟩;have HM:=Hi hM;have hmx:=max2 (P:Int) (Q:Int) (M:Int) (by omega);have hM3:M≤14:=by omega
 clear hM;rw [←HM.out] at HV;obtain ⟨b6,hb6⟩:∃ b6,b6=w4.heap.size:=⟨_,rfl⟩;obtain ⟨b7,hb7⟩:∃ b7,b7=w4.heap.size+1:=⟨_,rfl⟩;have hw6:w.heap.size≤b6:=by omega
 have hw7:w.heap.size≤b7:=by omega
 rw [←hb7] at B7 ⊢;rw [←hb6] at B6 ⊢;clear hb6 hb7 b_B6 b_B7;have hL6:=(nXa.1 B6.out).1;have hL7:=(nXa.1 B7.out).1
 go_upto_region 7 with (refine aD rfl (.tmp 36) (.tmp 36) 23 rfl 34 i0 (RH.v default) 3 Tryz.underlying23 hi0 hz0 hz1 _ _ M rfl rfl (by omega) (by omega) (by rw [hz2];omega) (by omega) ?_;intro w7 hnew hE)
 have HOB0:=Hi (fK.start (RBk.make rfl hnew));clear hnew;refine mV7 hE ?_ B6 B7 HX RS0 RT0 LB LC;clear B6 B7 HX RS0 RT0 LB LC;intro B6 B7 HX RS0 RT0 LB LC;have hs_w7:=hE.size;clear hE;replace b_B6:=bX3 B6;replace b_B7:=bX3 B7;obtain ⟨L,hL⟩:∃ L,L=w6.heap.size:=⟨_,rfl⟩;have hLw:w.heap.size≤L:=by omega
 have hn6:b6≠L:=by omega
 have hn7:b7≠L:=by omega
 rw [←hL] at HOB0 LB LC ⊢;have HOB:Hid (fK w7 L (List.replicate M 0) 400000):=Hi (let ⟨rs,h1,h2,h3⟩:=HOB0.out;⟨rs,h1,h2,h3.mono (by decide)⟩);clear hL HOB0 hL6 hL7 b_B6 b_B7;go_wp2
 go_loopg [40] M (fun g v wr=>∃ (i:Nat) (os:List Rat),i+g=M∧v=.int .i64 (i:Nat)∧Ext w wr∧aX wr ⟨sn,sa,sl,sc,sb,sm,sd⟩ S∧aX wr ⟨tn,ta,tl,tc,tb,tm,td⟩ V∧wr.heap[b6]?=some (.cells #[.bool sn,.slice sa sl sc,.slice sb sm sd] 34 (0,0))∧wr.heap[b7]?=some (.cells #[.bool tn,.slice ta tl tc,.slice tb tm td] 34 (0,0))∧LIn wr ⟨ba,P,bc⟩ (p.map (·*S)) 0 L∧LIn wr ⟨ca,Q,cc⟩ (q.map (·*V)) 0 L∧fK wr L os 400000∧os.length=M∧∀ m,m<i→os.getD m 0=crE (p.map (·*S)) (q.map (·*V)) m)
 case atStart=>exact ⟨0,_,by omega,rfl,HX.out,RS0.out,RT0.out,B6.out,B7.out,LB.out,LC.out,HOB.out,by simp,fun m hm=>by omega⟩
 case round =>
  obtain ⟨i,os,hi,rfl,g1,g2,g3,g4,g5,g6,g7,g8,g9,g10⟩:=hrel;clear HX RS0 RT0 B6 B7 LB LC HOB;have HX:=Hi g1;have RS0:=Hi g2;have RT0:=Hi g3;have B6:=Hi g4;have B7:=Hi g5;have LB:=Hi g6;have LC:=Hi g7;have HOB:=Hi g8;have HOl:=Hi g9;have HOv:=Hi g10;clear g1 g2 g3 g4 g5 g6 g7 g8 g9 g10;have hszw:=HX.out.size;replace b_B6:=bX3 B6;replace b_B7:=bX3 B7;by_cases h0:gk=0
  case pos =>
   subst h0;obtain rfl:i=M:=by omega
   have HSz:Hid (SzL 400000 os):=Hi (let ⟨_,_,_,h3⟩:=HOB.out;h3);have HV2:Hid (os.map (· / (S*V))=(List.range i).map (crE p q)):=Hi (by
    apply Stab.getD_ext
    ·simp [HOl.out]
    ·intro k hk;simp only [nXk,HOl.out] at hk;rw [gJ (by rw [HOl.out];exact hk),HOv.out k hk,zE,dE,if_pos hk,nYa,Rat.div_def,nYb,nYh _ (fun h=>by
      rcases nXq.1 h with h2|h2
      ·exact SN.out h2
      ·exact TN.out h2),Rat.mul_one])
   have STN:Hid (S*V≠0):=Hi (fun h=>by
    rcases nXq.1 h with h2|h2
    ·exact SN.out h2
    ·exact TN.out h2)
   go_wp2_with fail
   refine cM (ew ⟨sn,sa,sl,sc,sb,sm,sd⟩ ⟨tn,ta,tl,tc,tb,tm,td⟩ S V _ RS0.out RT0.out) fun x20 w20 hE G20=>?_
   refine mV8 hE ?_ HX RS0 RT0 B6 B7 LB LC HOB;clear HX RS0 RT0 B6 B7 LB LC HOB;intro HX RS0 RT0 B6 B7 LB LC HOB;have hs_w20:=hE.size;clear hE;replace b_B6:=bX3 B6;replace b_B7:=bX3 B7;have RO:=Hi (HOB.out.raw HOl.out (by omega))
   go_wp2_with fail
   refine cM (jF (some ⟨L,0,none⟩) i i os x20 (S*V) _ RO.out (G20.out.raw (ZS.out.mul ZT.out) (by decide)) STN.out (by omega)) fun x21 w21 hE G21=>?_
   refine mV8 hE ?_ G20 HX RS0 RT0 B6 B7 LB LC;clear G20 HX RS0 RT0 B6 B7 LB LC;intro G20 HX RS0 RT0 B6 B7 LB LC;replace HOB:=mV hE HOB;have hs_w21:=hE.size;clear hE;replace b_B6:=bX3 B6;replace b_B7:=bX3 B7;rw [HV2.out] at G21;obtain ⟨da,dn,dc⟩:=x21;have hdn:=G21.out.len;rw [nXk,nXs] at hdn;simp only at hdn;subst hdn;simp only [SH.v];have HSr:Hid (SzL 25000 ((List.range i).map (crE p q))):=Hi (by
    intro x hx;obtain ⟨k,-,rfl⟩:=nYd.1 hx;exact (Ax HZ.out KZ.out hs1 (by rw [HPl.out];omega) (by rw [HQl.out];omega)).mono (by omega))
   go_wp2_with fail
   refine cM (gO da i dc ((List.range i).map (crE p q)) 25000 _ (G21.out.can.raw HSr.out (by decide)) (by omega) HSr.out (by decide) (by decide) (by unfold cg;have:=nXg 25000 hM3;omega)) fun x22 w22 hE G22=>?_
   refine mV8 hE ?_ G21 G20 HX RS0 RT0 B6 B7 LB;clear G21 G20 HX RS0 RT0 B6 B7 LB;intro G21 G20 HX RS0 RT0 B6 B7 LB;refine mV2 hE ?_ LC HOB;clear LC HOB;intro LC HOB;have hs_w22:=hE.size;clear hE;replace b_B6:=bX3 B6;replace b_B7:=bX3 B7;obtain ⟨x22,e22⟩:=x22;obtain ⟨he,hl⟩:=G22.out;simp only at he hl;subst he;simp only [RF];go_wp2;exact bodyPost_ret (v:=RF (x22,0)) (by simp [results,Tryz.results59,go_sem,RF]) rfl ⟨(x22,0),rfl,HX.out,rfl,by rw [HV.out];exact hl⟩
  have hiM:(i:Int)<M:=by omega
  go_wp2_with fail
  refine cM (fm ba ca P bc Q cc i (s+5601) _ _ _ (LB.out.can.raw ZB.out (by omega)) (LC.out.can.raw ZC.out (by omega)) (by omega) (by omega) (by omega) (by omega) (by omega) ZB.out ZC.out) fun x10 w10 hE G10=>?_
  refine mV8 hE ?_ HX RS0 RT0 B6 B7 LB LC HOB;clear HX RS0 RT0 B6 B7 LB LC HOB;intro HX RS0 RT0 B6 B7 LB LC HOB;have hs_w10:=hE.size;clear hE;replace b_B6:=bX3 B6;replace b_B7:=bX3 B7;have Z10:Hid (Sz 168100 (iK (p.map (·*S)) (q.map (·*V)) i)):=Hi ((mE ZB.out ZC.out (by omega) (by rw [nXk,HPl.out];omega)).mono (by omega));have hfr:∀ x,w10.frozen? ⟨L,x,none⟩=false:=let ⟨_,h1,_⟩:=HOB.out;h1.frozen;have hLl:=HOB.out.lt;obtain ⟨ro,⟨e1,e2,e3⟩,-⟩:=HOB.out.cells (k:=i) (by rw [HOl.out];omega)
  go_upto_region 11 with fail
  refine l0 (k:=i) (x:=x10) HOB.out (by rw [HOl.out];omega) (G10.out.raw Z10.out (by decide)) (Z10.out.mono (by decide)) (nXd _) ?_;intro w11 hT hOB;obtain ⟨cs',T'⟩:=hT;have HOl2:Hid ((os.set i (iK (p.map (·*S)) (q.map (·*V)) i)).length=M):=Hi (by rw [nXn];exact HOl.out);have HOv2:Hid (∀ m,m<i+1→(os.set i (iK (p.map (·*S)) (q.map (·*V)) i)).getD m 0=if m=i then iK (p.map (·*S)) (q.map (·*V)) i else crE (p.map (·*S)) (q.map (·*V)) m):=Hi (by
   intro m hm;by_cases he:m=i
   ·subst he;rw [if_pos rfl];simp [show m<os.length by rw [HOl.out];omega]
   ·rw [if_neg he,show ∀ z,(os.set i z).getD m 0=os.getD m 0 from fun z=>by rw [nXc,List.getElem?_set_ne (Ne.symm he),←nXc]];exact HOv.out m (by omega))
  obtain ⟨os2,hos2⟩:∃ os2,os2=os.set i (iK (p.map (·*S)) (q.map (·*V)) i):=⟨_,rfl⟩;rw [←hos2] at hOB HOl2 HOv2;clear hos2 e1 e2 e3 hfr hLl HOl HOv;have HOBn:=Hi hOB;clear hOB;clear HOB;clear G10;have T:=T';replace HX:=Hi (T.ext HX.out (by omega));replace RS0:=Hi (RS0.out.keep T.keep);replace RT0:=Hi (RT0.out.keep T.keep);replace LB:=Hi (LB.out.put T (by omega));replace LC:=Hi (LC.out.put T (by omega));replace B6:=Hi (T.rest _ _ (by omega) B6.out);replace B7:=Hi (T.rest _ _ (by omega) B7.out);have hs_w11:=nle T.size;have hr_w11:=nle T.size.symm;clear T;replace b_B6:=bX3 B6;replace b_B7:=bX3 B7;have HOB:=Hi HOBn.out;clear HOBn;by_cases hi0:i=0
  case pos =>
   subst hi0;go_wp2
   go_roundg (gk-1)
   case measure=>omega
   case rel=>exact ⟨0+1,os2,by omega,by go_num,HX.out,RS0.out,RT0.out,B6.out,B7.out,LB.out,LC.out,HOB.out,HOl2.out,fun m hm=>by
    obtain rfl:m=0:=by omega
    rw [HOv2.out 0 hm,if_pos rfl];rfl⟩
  have hi0':(0:Int)<i:=by omega
  have Z11:Hid (Sz 168100 (iK (q.map (·*V)) (p.map (·*S)) i)):=Hi ((mE ZC.out ZB.out (by omega) (by rw [nXk,HQl.out];omega)).mono (by omega));have hfr:∀ x,w11.frozen? ⟨L,x,none⟩=false:=let ⟨_,h1,_⟩:=HOB.out;h1.frozen;have hLl:=HOB.out.lt;obtain ⟨ro2,⟨e1,e2,e3⟩,hro⟩:=HOB.out.cells (k:=i) (by rw [HOl2.out];omega);obtain ⟨on,oa,ol,oc,ob,om,od⟩:=ro2;simp only at e1 e2 e3;rw [HOv2.out i (by omega),if_pos rfl] at hro;obtain ⟨u,hu⟩:∃ u,u=iK (p.map (·*S)) (q.map (·*V)) i:=⟨_,rfl⟩;obtain ⟨v,hv⟩:∃ v,v=iK (q.map (·*V)) (p.map (·*S)) i:=⟨_,rfl⟩;rw [←hu] at hro Z10 HOv2;rw [←hv] at Z11;have HRO:=Hi hro;have Hcr:Hid (crE (p.map (·*S)) (q.map (·*V)) i=u+v):=Hi (by unfold crE;rw [if_neg hi0,hu,hv]);have Hv:=Hi hv;clear hro hu hv hi0
  go_upto_region 12 with fail
  refine wpG 12 (fun opIx=>match opIx with
   | 9=>.spec RH default RH.v (fun s w'=>aB w' s (v))
   | 10=>.spec RH default RH.v (fun s w'=>aB w' s (u+v))
   | _=>.quiet) (fun|10=>[9]|_=>[]) fun w0 he0 hz0 hc0 hf0=>?_
  refine wps he0.out rfl rfl (fun w1 hW hG=>?_) fun x9=>?_
  ·exact spc [.slice ca Q cc,.slice ba P bc,.int .i64 (i:Nat)] Tryz.func125 ((by rw [Hv.out];exact fm ca ba Q cc P bc i (s+5601) _ _ _ ((LC.out.ext hW).can.raw ZC.out (by omega)) ((LB.out.ext hW).can.raw ZB.out (by omega)) (by omega) (by omega) (by omega) (by omega) (by omega) ZC.out ZB.out))
  refine qZ ?_;refine wps he0.out rfl rfl (fun w1 hW hG=>?_) fun x10=>?_
  ·have g9:=(hG 9 (by decide):aP _ _).get fun _ e g=>g.ext e
   exact spc [RH.v ⟨on,oa,ol,oc,ob,om,od⟩,x9.v] Tryz.func118 (fx _ x9 _ _ _ (HRO.out.ext hW) (g9.raw Z11.out (by decide)))
  refine qZ ?_;refine am ?_;intro w12 hI;have hE:=he0.out.trans hI.ext;have G9:=gT (hI.facts 9);have G10:=gT (hI.facts 10);clear hI he0 hz0 hc0 hf0;refine mV8 hE ?_ HX RS0 RT0 B6 B7 HOB LC LB;clear HX RS0 RT0 B6 B7 HOB LC LB;intro HX RS0 RT0 B6 B7 HOB LC LB;replace HRO:=mV hE HRO;have hs_w12:=hE.size;clear hE;replace b_B6:=bX3 B6;replace b_B7:=bX3 B7;simp only [pD];have hfr:∀ x,w12.frozen? ⟨L,x,none⟩=false:=let ⟨_,h1,_⟩:=HOB.out;h1.frozen;have hLl:=HOB.out.lt;obtain ⟨ro3,⟨e1,e2,e3⟩,-⟩:=HOB.out.cells (k:=i) (by rw [HOl2.out];omega);have ZZ:=Hi (Z10.out.add Z11.out)
  go_upto_region 13 with fail
  refine l0 (k:=i) (x:=x10) HOB.out (by rw [HOl2.out];omega) (G10.out.raw ZZ.out (by decide)) (ZZ.out.mono (by decide)) (nXd _) ?_;intro w13 hT hOB;obtain ⟨cs'',T'⟩:=hT;have HOBn:=Hi hOB;have HOv3:Hid (∀ m,m<i+1→(os2.set i (u+v)).getD m 0=crE (p.map (·*S)) (q.map (·*V)) m):=Hi (by
   intro m hm;by_cases he:m=i
   ·subst he;rw [Hcr.out];simp [show m<os2.length by rw [HOl2.out];omega]
   ·rw [show (os2.set i (u+v)).getD m 0=os2.getD m 0 by rw [nXc,List.getElem?_set_ne (Ne.symm he),←nXc],HOv2.out m hm,if_neg he])
  clear hOB e1 e2 e3 hfr hLl;clear HOB;clear G9;clear G10;clear HRO;have T:=T';replace HX:=Hi (T.ext HX.out (by omega));replace RS0:=Hi (RS0.out.keep T.keep);replace RT0:=Hi (RT0.out.keep T.keep);replace LB:=Hi (LB.out.put T (by omega));replace LC:=Hi (LC.out.put T (by omega));replace B6:=Hi (T.rest _ _ (by omega) B6.out);replace B7:=Hi (T.rest _ _ (by omega) B7.out);have hs_w13:=nle T.size;have hr_w13:=nle T.size.symm;clear T;replace b_B6:=bX3 B6;replace b_B7:=bX3 B7;have HOB:=Hi HOBn.out;go_wp2
  go_roundg (gk-1)
  case measure=>omega
  case rel=>exact ⟨i+1,_,by omega,by go_num,HX.out,RS0.out,RT0.out,B6.out,B7.out,LB.out,LC.out,HOB.out,by rw [nXn];exact HOl2.out,HOv3.out⟩
theorem cF(ao:Option Addr)(n c s:Nat)(ps:List Rat)(w:World)(h:cU w ⟨ao,n,c⟩ ps)(hn:n≤14)(hz:SzL s ps)(hs1:1≤s)(hs:s≤400) :
  ar 12 [.slice ao n c] w RF (fun x w'=>x.2=0∧cj w' x.1 (aC ps ps)):=by
 have H:=Hi h;have HX:=Hi (Ext.refl w);have hle:=h.le;have hmx:=h.max;simp only at hle hmx;clear h;unfold ar;go_enter Tryz.func12,Tryz.ntmps12
 go_wp2_with fail
 refine cM (sP ao ao n c n c s ps ps _ H.out H.out hn hn hz hz hs1 hs) fun x1 w1 hE G1=>?_
 replace HX:=hE.tr HX;have hs_w1:=hE.size;clear hE;obtain ⟨x1,e1⟩:=x1;obtain ⟨he,hl⟩:=G1.out;simp only at he hl;subst he;simp only [RF];go_wp2;exact bodyPost_ret (v:=RF (x1,0)) (by simp [results,Tryz.results12,go_sem,RF]) rfl ⟨(x1,0),rfl,HX.out,rfl,hl⟩
end Go.Proofs.YtafgmcimcbhhjaaGreat
namespace Go.Proofs.YtafgmcimcbhhjaaGreat
open Go.RowKit Go.Front Go.Num
theorem bZ{n m:Nat}{f:Nat→Rat}(h:n≤m)(h0:∀ i,n≤i→i<m→f i=0):Stab.sm n f=Stab.sm m f:=by
 obtain ⟨d,rfl⟩:∃ d,m=n+d:=⟨m-n,by omega⟩;rw [Stab.sm_split,Stab.sm_congr (n:=d) (g:=fun _=>0) (fun i hi=>h0 (n+i) (by omega) (by omega)),Stab.sm_zero];grind
def acr(h:List Rat)(k:Nat):Rat:=Stab.sm h.length (fun i=>h.getD i 0*h.getD (i+k) 0)
theorem xN(h:List Rat)(k:Nat):iK (tz h) (tz h) k=acr h k:=by
 unfold iK acr;have hl:=ag h;have e:∀ i,(tz h).getD i 0*(tz h).getD (i+k) 0=h.getD i 0*h.getD (i+k) 0:=fun i=>by rw [aG,aG]
 rw [Stab.sm_congr (fun i _=>e i)];refine bZ (by omega) fun i h1 h2=>?_
 rcases Nat.lt_or_ge i (tz h).length with h3|h3
 ·rw [gt (l:=h) (i:=i+k) (by omega)];grind
 ·rw [gt (l:=h) (i:=i) h3];grind
def acE(h:List Rat)(k:Nat):Rat:=if k=0 then acr h k else acr h k+acr h k
theorem pN(h:List Rat)(i:Nat):(aC h h).getD i 0=Stab.sm h.length (fun k=>acE h k*Tf k i):=by
 unfold aC;rw [oN];unfold fbS;rw [nXk,nXs,Nat.max_self];have hl:=ag h;rw [Stab.sm_congr (g:=fun k=>acE h k*Tf k i) (fun k hk=>by
  rw [dE,if_pos hk];unfold crE acE;rw [xN])]
 refine bZ hl fun k h1 h2=>?_
 have e:acr h k=0:=by
  unfold acr;rw [Stab.sm_congr (g:=fun _=>0) (fun j _=>by rw [gt (l:=h) (i:=j+k) (by omega)];grind),Stab.sm_zero]
 have e2:acE h k=0:=by
  unfold acE;split
  ·exact e
  ·rw [e];grind
 rw [e2];grind
end Go.Proofs.YtafgmcimcbhhjaaGreat
namespace Go.Proofs.YtafgmcimcbhhjaaGreat
open Go.RowKit Go.Front Go.Num
attribute [local go_sem] XW.cell XW.frozen
def pR(w:World)(D:Nat→Prop)(v:Value)(qs:List Rat):Prop:=∃ rs,mM w D v rs∧dk aX w rs qs
theorem pR.ext{w w':World}{D:Nat→Prop}{v:Value}{qs:List Rat}(h:pR w D v qs)(he:Ext w w'):pR w' D v qs:=let ⟨rs,h1,h2⟩:=h;⟨rs,h1.ext he,h2.raw_ext he⟩
instance {w w':World} {D:Nat→Prop} {v:Value} {qs:List Rat}:Go.Front.Mv w w' (pR w D v qs) (pR w' D v qs):=⟨fun e h=>pR.ext h e⟩

theorem pR.raw{w:World}{D:Nat→Prop}{s:SH}{qs:List Rat}(h:pR w D s.v qs):cU w s qs:=by
 obtain ⟨ao,n,c⟩:=s;obtain ⟨rs,h1,h2⟩:=h;rcases h1 with ⟨e,rfl⟩|⟨L,cap,re,e,hB,h3,h4,h5,h6,h7⟩
 ·have:qs=[]:=nXi.1 (by rw [←h2.1];rfl);subst this;obtain ⟨rfl,rfl,rfl⟩:ao=none∧n=0∧c=0:=by simpa using e
  exact ⟨[],RS.nil _ _ _ (by decide),dk.nil _ _⟩
 ·obtain ⟨rfl,rfl,rfl⟩:ao=some ⟨L,0,none⟩∧n=rs.length∧c=cap:=by simpa using e
  exact ⟨rs,h3.rs rfl h4 h5,h2⟩
theorem iZ{w:World}{ops:Array Oper}{rest:List Oper}{o:Oper}{a:Act}{Q:Exit→Act→World→Prop}(hgd:o.guard=none)(s x:Operand)(T:TypeId)(hT:Tryz.prog.underlying T=some (.slice 34))
 (ho:o.op=.call { callee:=.builtin .append,args:=#[s,x],argTypes:=#[T,T] })(D:Nat→Prop)(v:Value)(qs:List Rat)(r:RH)(q:Rat)(N:Nat)(hs:a.eval s=v)(hown:pR w D v qs)
 (hx:a.eval x=.slice (some ⟨N,0,none⟩) 1 1)(hN:RBk w N [r] #[])(hr:aX w r q)(hl:qs.length≤1073741824)(hD:∀ k,w.heap.size≤k→D k)
 (h:∀ (s':SH) w',pR w' D s'.v (qs++[q])→aY D w w'→eO w w'→wpList Tryz.prog ops Q rest (a.put o.dst s'.v) w'):wpList Tryz.prog ops Q (o :: rest) a w:=by
 obtain ⟨rs,h1,h2⟩:=hown;refine wpList_plain hgd fun K hK=>?_
 obtain ⟨L,cap,w',hrun,g1,g2,g3⟩:=fO T o.type hT w D v rs r N h1 hN (by rw [h2.1];exact hl) hD;unfold Oper.wp;simp [execOp,ho,resolve,invoke,builtin,hs,hx,hrun,Result.andThen];exact hK _ _ (h ⟨some ⟨L,0,none⟩,rs.length+1,cap⟩ w' ⟨_,g1,(h2.snoc hr).rawkeep g3⟩ g2 g3)
def mH(h:List Rat)(n j:Nat):List Rat:=h.getD n 0 :: (List.range j).map (fun k=>h.getD (n+(k+1)) 0+h.getD (n+(k+1)) 0)
theorem s7(h:List Rat)(n j:Nat):mH h n (j+1)=mH h n j++[h.getD (n+(j+1)) 0+h.getD (n+(j+1)) 0]:=by
 unfold mH;rw [List.range_succ,List.map_append];rfl
def pW(h:List Rat)(n j:Nat):Prop:=∀ k,k<j→h.getD (n-(k+1)) 0=h.getD (n+(k+1)) 0
instance (h:List Rat) (n j:Nat):Decidable (pW h n j):=by unfold pW;exact inferInstance
def vg(h:List Rat):Int×List Rat:=if h.length % 2=0 then (1,[]) else if pW h (h.length / 2) (h.length / 2) then (0,fbV (mH h (h.length / 2) (h.length / 2))) else (10,[])
theorem yg{s n j:Nat}{h:List Rat}(hz:SzL s h)(hs:1≤s):SzL (2*s+1) (mH h n j):=by
 intro q hq;rcases List.mem_cons.1 hq with h1|h1
 ·rw [h1];exact (hz.getD hs n).mono (by omega)
 ·obtain ⟨k,-,rfl⟩:=nYd.1 h1;exact ((hz.getD hs _).add (hz.getD hs _)).mono (by omega)
theorem sV{a b:Rat}:gi a b=0↔a=b:=by
 unfold gi;constructor
 ·intro h;split at h
  ·cases h
  ·split at h
   ·assumption
   ·cases h
 ·rintro rfl;rw [if_neg Rat.lt_irrefl,if_pos rfl]
theorem ls(ao:Option Addr)(M cap s:Nat)(hs':List Rat)(w:World)(h:cU w ⟨ao,M,cap⟩ hs')(hM:M≤23)(hz:SzL s hs')(hs1:1≤s)(hs:s≤30000) :
  ar 65 [.slice ao M cap] w RF (fun x w'=>x.2=(vg hs').1∧cj w' x.1 (vg hs').2):=by
 have H:=Hi h;have HX:=Hi (Ext.refl w);have hle:=h.le;have hmx:=h.max;have Hlen:=Hi h.len;simp only at hle hmx Hlen;have HZ:=Hi hz;clear h hz;unfold ar;rcases Nat.mod_two_eq_zero_or_one M with hm|hm
 ·have hv:vg hs'=(1,[]):=by unfold vg;rw [Hlen.out,if_pos hm]
  have Hv:=Hi hv;have hmI:(M:Int).tmod 2=0:=by have h2:(M:Int).tmod 2=((M % 2:Nat):Int):=rfl;omega
  have hmJ:(M:Int) % 2=0:=by omega
  clear hv;go_enter Tryz.func65,Tryz.ntmps65;go_wp2;exact bodyPost_ret (v:=RF (⟨none,0,0⟩,1)) (by simp [results,Tryz.results65,go_sem,RF]) rfl ⟨(⟨none,0,0⟩,1),rfl,HX.out,by rw [Hv.out],by rw [Hv.out];exact (cK.nil 0 _).can⟩
 obtain ⟨n,hM1,hM2⟩:∃ n,M≤2*n+1∧2*n+1≤M:=⟨M / 2,by omega⟩;have HV:Hid (vg hs'=if pW hs' n n then (0,fbV (mH hs' n n)) else (10,[])):=Hi (by unfold vg;rw [Hlen.out,if_neg (by omega),show M / 2=n by omega]);have hmI:(M:Int).tmod 2=1:=by have h2:(M:Int).tmod 2=((M % 2:Nat):Int):=rfl;omega
 have hmJ:(M:Int) % 2=1:=by omega
 have hdI:(M:Int).tdiv 2=n:=by have h2:(M:Int).tdiv 2=((M / 2:Nat):Int):=rfl;omega
 have hdJ:(M:Int) / 2=n:=by omega
 clear hm;go_enter Tryz.func65,Tryz.ntmps65;obtain ⟨b,off,r,hao,hbl,⟨hc1,hc2,hc3⟩,hP⟩:=(H.out.ext HX.out).cells' (k:=n) (by omega);obtain ⟨rneg,ra,rn,rc,rb,rm,rd⟩:=r;simp only at hc1 hc2 hc3;have RP:=Hi hP;clear hP;subst hao
 go_upto_region 7 with fail
 refine nmA ?_;intro y1 hE B1 hz_y1 hr_y1;refine mV2 hE ?_ HX RP;clear HX RP;intro HX RP;have hs_y1:=hE.size;clear hE;replace b_B1:=bX3 B1;have HO:Hid (pR y1 (w.heap.size≤·) (.slice (some ⟨w.heap.size,0,none⟩) 1 1) (mH hs' n 0)):=Hi ⟨[⟨rneg,ra,rn,rc,rb,rm,rd⟩],Or.inr ⟨w.heap.size,1,#[],rfl,nXd _,na B1.out rfl,nXd _,by decide,rfl,rfl⟩,(dk.nil _ _).snoc RP.out⟩
 (try clear b_B1);clear B1
 clear RP;clear hc1 hc2 hc3 hbl;go_wp2
 go_loopg [5,6] n (fun g u z wr=>∃ (j:Nat) (x:SH),u=x.v∧j+g=n∧z=.int .i64 ((j:Int)+1)∧Ext w wr∧pW hs' n j∧pR wr (w.heap.size≤·) x.v (mH hs' n j))
 case atStart=>exact ⟨0,⟨some ⟨w.heap.size,0,none⟩,1,1⟩,rfl,by omega,rfl,HX.out,fun k hk=>by omega,HO.out⟩
 case round =>
  obtain ⟨j,⟨xa,xn,xc⟩,rfl,hj,rfl,g1,g2,g3⟩:=hrel;clear HX HO;have HX:=Hi g1;have HEq:=Hi g2;have HO:=Hi g3;clear g1 g2 g3;simp only [SH.v];have hszw:=HX.out.size;by_cases h0:gk=0
  case pos =>
   subst h0;obtain rfl:j=n:=by omega
   have hxn:=HO.out.raw.len (s:=⟨xa,xn,xc⟩);unfold mH at hxn;rw [List.length_cons,nXk,nXs] at hxn;simp only at hxn;have HZc:=Hi (yg (n:=j) (j:=j) HZ.out hs1)
   go_wp2_with fail
   refine cM (gO xa xn xc (mH hs' j j) (2*s+1) _ (HO.out.raw (s:=⟨xa,xn,xc⟩)) (by omega) HZc.out (by omega) (by omega) (by unfold cg;have:=nXw (show xn≤12 by omega) (show 2*s+1≤60001 by omega);omega)) fun x20 w20 hE G20=>?_
   refine mV2 hE ?_ HX HO;clear HX HO;intro HX HO;have hs_w20:=hE.size;clear hE;obtain ⟨x20,e20⟩:=x20;obtain ⟨he,hl⟩:=G20.out;simp only at he hl;subst he;simp only [RF];have HV2:Hid (vg hs'=(0,fbV (mH hs' j j))):=Hi (by rw [HV.out,if_pos HEq.out]);go_wp2;exact bodyPost_ret (v:=RF (x20,0)) (by simp [results,Tryz.results65,go_sem,RF]) rfl ⟨(x20,0),rfl,HX.out,by rw [HV2.out],by rw [HV2.out];exact hl⟩
  have hjn:j<n:=by omega
  obtain ⟨b',off',r1,hao1,hbl1,⟨a1,a2,a3⟩,hP1⟩:=(H.out.ext HX.out).cells' (k:=n-(j+1)) (by omega);obtain ⟨b'',off'',r2,hao2,hbl2,⟨a4,a5,a6⟩,hP2⟩:=(H.out.ext HX.out).cells' (k:=n+(j+1)) (by omega);obtain ⟨rfl,rfl⟩:b=b'∧off=off':=by simpa using hao1
  obtain ⟨rfl,rfl⟩:b=b''∧off=off'':=by simpa using hao2
  obtain ⟨rn1,ra1,rl1,rc1,rb1,rm1,rd1⟩:=r1;obtain ⟨rn2,ra2,rl2,rc2,rb2,rm2,rd2⟩:=r2;simp only at a1 a2 a3 a4 a5 a6;obtain ⟨i1,hi1⟩:∃ i,i=n-(j+1):=⟨_,rfl⟩;obtain ⟨i2,hi2⟩:∃ i,i=n+(j+1):=⟨_,rfl⟩;have hI1:(n:Int)-((j:Int)+1)=i1:=by omega
  have hI2:(n:Int)+((j:Int)+1)=i2:=by omega
  have hb1:i1<M:=by omega
  have hb2:i2<M:=by omega
  have Hi1:=Hi hi1;have Hi2:=Hi hi2;rw [←hi1] at a1 a2 a3 hP1;rw [←hi2] at a4 a5 a6 hP2;have RP1:=Hi hP1;have RP2:=Hi hP2;have ZP2:=Hi (HZ.out.getD hs1 i2);clear hP1 hP2 hi1 hi2 hao1 hao2 hbl2;have hbl:=hbl1
  go_upto_region 10 with fail
  obtain ⟨c,hc⟩:∃ c,c=gi (hs'.getD i1 0) (hs'.getD i2 0):=⟨_,rfl⟩;have Hc:=Hi hc;clear hc;refine wpG 13 (fun opIx=>match opIx with
   | 12=>.spec Unit () (fun _=>.int .i64 c) (fun _ _=>True)
   | _=>.quiet) (fun _=>[]) fun w0 he0 hz0 hc0 hf0=>?_
  refine wps he0.out rfl rfl (fun w1 hW hG=>?_) fun x12=>?_
  ·exact spc [RH.v ⟨rn1,ra1,rl1,rc1,rb1,rm1,rd1⟩,RH.v ⟨rn2,ra2,rl2,rc2,rb2,rm2,rd2⟩] Tryz.func80 ((by rw [Hc.out];exact tS _ _ _ _ _ (RP1.out.ext hW) (RP2.out.ext hW)))
  refine qZ ?_;refine am ?_;intro w10 hI;have hE:=he0.out.trans hI.ext;clear hI he0 hz0 hc0 hf0;refine mV4 hE ?_ HX HO RP1 RP2;clear HX HO RP1 RP2;intro HX HO RP1 RP2;have hs_w10:=hE.size;clear hE;simp only [pD];by_cases hcz:c=0
  case neg =>
   have hcb:(c == 0)=false:=by simpa using hcz
   have HV2:Hid (vg hs'=(10,[])):=Hi (by
    rw [HV.out,if_neg];intro h;have h1:=h j hjn;rw [←Hi1.out,←Hi2.out] at h1;exact hcz (by rw [Hc.out];exact sV.2 h1))
   go_wp2;exact bodyPost_ret (v:=RF (⟨none,0,0⟩,10)) (by simp [results,Tryz.results65,go_sem,RF]) rfl ⟨(⟨none,0,0⟩,10),rfl,HX.out,by rw [HV2.out],by rw [HV2.out];exact (cK.nil 0 _).can⟩
  subst hcz;have HEq2:Hid (pW hs' n (j+1)):=Hi (by
   intro k hk;rcases Nat.lt_or_ge k j with h|h
   ·exact HEq.out k h
   ·obtain rfl:k=j:=by omega
    rw [←Hi1.out,←Hi2.out];exact sV.1 Hc.out.symm)
  obtain ⟨b3,off3,r3,hao3,hbl3,⟨a1,a2,a3⟩,hP3⟩:=(H.out.ext HX.out).cells' (k:=i2) hb2;obtain ⟨rfl,rfl⟩:b=b3∧off=off3:=by simpa using hao3
  obtain ⟨rn3,ra3,rl3,rc3,rb3,rm3,rd3⟩:=r3;simp only at a1 a2 a3;have RP3:=Hi hP3;clear hP3 hao3 hbl hbl1 a4 a5 a6;clear RP1;clear RP2;have hxn:=HO.out.raw.len (s:=⟨xa,xn,xc⟩);have hxc:=HO.out.raw.le (s:=⟨xa,xn,xc⟩);unfold mH at hxn;rw [List.length_cons,nXk,nXs] at hxn;simp only at hxn hxc;have HNx:Hid (mH hs' n (j+1)=mH hs' n j++[hs'.getD i2 0+hs'.getD i2 0]):=Hi (by rw [s7,←Hi2.out]);have HLn:Hid ((mH hs' n j).length≤1073741824):=Hi (by unfold mH;rw [List.length_cons,nXk,nXs];omega)
  go_upto_region 12 with fail
  refine wpG 15 (fun opIx=>match opIx with
   | 13=>.spec RH default RH.v (fun s w'=>aB w' s (hs'.getD i2 0+hs'.getD i2 0))
   | 14=>.spec (Nat×RH) ((0,default)) (fun p=>.slice (some ⟨p.1,0,none⟩) 1 1) (fun p w'=>gV w' p (hs'.getD i2 0+hs'.getD i2 0))
   | _=>.quiet) (fun|14=>[13]|_=>[]) fun w0 he0 hz0 hc0 hf0=>?_
  refine wps he0.out rfl rfl (fun w1 hW hG=>?_) fun x13=>?_
  ·exact spc [RH.v ⟨rn3,ra3,rl3,rc3,rb3,rm3,rd3⟩,RH.v ⟨rn3,ra3,rl3,rc3,rb3,rm3,rd3⟩] Tryz.func118 (fx _ _ _ _ _ (RP3.out.ext hW) (RP3.out.ext hW))
  refine qZ ?_;refine wps he0.out rfl rfl (fun w1 hW hG=>?_) fun x14=>?_
  ·have g13:=(hG 13 (by decide):aP _ _).get fun _ e g=>g.ext e
   exact j5 x13 _ g13 rfl (by simp [execOp,go_sem])
  refine qZ ?_;refine am ?_;intro w12 hI;have hE:=he0.out.trans hI.ext;have G13:=gT (hI.facts 13);have G14:=gT (hI.facts 14);clear hI he0 hz0 hc0 hf0;refine mV2 hE ?_ HX HO;clear HX HO;intro HX HO;have hs_w12:=hE.size;clear hE;simp only [pD];have RN:=Hi (G14.out.2.raw (ZP2.out.add ZP2.out) (by omega))
  go_wp2_with (at_builtin;refine iZ rfl (.tmp 41) (.tmp 55) 23 Tryz.underlying23 rfl (w.heap.size≤·) _ _ x14.2 _ x14.1 rfl HO.out rfl G14.out.1 RN.out HLn.out (fun k hk=>by omega) ?_;intro s' y3 q1 q2 q3)
  have HX3:=Hi (Ext.mods HX.out q2 (fun k h=>h));have HO3:Hid (pR y3 (w.heap.size≤·) s'.v (mH hs' n (j+1))):=Hi (by rw [HNx.out];exact q1);clear q1 q2 q3;go_wp2
  go_roundg (gk-1)
  case measure=>omega
  case rel=>exact ⟨j+1,s',rfl,by omega,by go_num,HX3.out,HEq2.out,HO3.out⟩
theorem zM{w:World}{N:Nat}{x y z t:RH}{p q r s:Rat}(h:w.heap[N]?=some (.cells #[.bool x.neg,.slice x.a x.n x.c,.slice x.b x.m x.d,.bool y.neg,.slice y.a y.n y.c,.slice y.b y.m y.d,.bool z.neg,.slice z.a z.n z.c,.slice z.b z.m z.d,.bool t.neg,.slice t.a t.n t.c,.slice t.b t.m t.d] 34 (0,0)))(hx:aB w x p)(hy:aB w y q)(hz:aB w z r)(ht:aB w t s):cj w ⟨some ⟨N,0,none⟩,4,4⟩ [p,q,r,s] :=
 ⟨[x,y,z,t],RBk.rs (rs:=[x,y,z,t]) (re:=#[]) h rfl (nXd _) (by decide),((((dk.nil _ _).snoc hx).snoc hy).snoc hz).snoc ht⟩
abbrev iq(n:Int):Rat:=(n:Rat)
theorem pP(w:World):ar 16 [] w (fun _:Unit=>.bool true) (fun _ _=>True):=by
 have HX:=Hi (Ext.refl w);have Z1:Hid (SzL 1 [iq 1,iq 2,iq 1]):=Hi (szB (by decide +kernel));have Z2:Hid (SzL 1 [iq 1,iq (-1)]):=Hi (szB (by decide +kernel));have V1:Hid (tV 3=(0,[iq 0,iq (-3),iq 0,iq 4])):=Hi (by decide +kernel);have V2:Hid (vg [iq 1,iq 2,iq 1]=(0,[iq 2,iq 2])):=Hi (by decide +kernel);have V3:Hid (aC [iq 1,iq (-1)] [iq 1,iq (-1)]=[iq 2,iq (-2)]):=Hi (by decide +kernel);unfold ar;go_enter Tryz.func16,Tryz.ntmps16
 go_wp2_with fail
 refine cM (Ah 3 _) fun x1 w1 hE G1=>?_
 replace HX:=hE.tr HX;have hs_w1:=hE.size;clear hE;obtain ⟨⟨a1,n1,c1⟩,e1⟩:=x1;obtain ⟨he,hl⟩:=G1.out;rw [V1.out] at he hl;simp only at he hl;subst he;have L1:=Hi hl;clear hl G1;simp only [RF,SH.v]
 go_wp2_with fail
 refine cM (aL 1 _ (by decide) (by decide)) fun x2 w2 hE G2=>?_
 refine mV2 hE ?_ HX L1;clear HX L1;intro HX L1;have hs_w2:=hE.size;clear hE
 go_wp2_with fail
 refine cM (aL 2 _ (by decide) (by decide)) fun x3 w3 hE G3=>?_
 refine mV3 hE ?_ G2 HX L1;clear G2 HX L1;intro G2 HX L1;have hs_w3:=hE.size;clear hE
 go_wp2_with fail
 refine cM (aL 1 _ (by decide) (by decide)) fun x4 w4 hE G4=>?_
 refine mV4 hE ?_ G3 G2 HX L1;clear G3 G2 HX L1;intro G3 G2 HX L1;have hs_w4:=hE.size;clear hE
 go_wp2_with fail
 refine nmA (F:=fun W=>Calls _ _ _ W _) ?_;intro y5 hE B5 hz_y5 hr_y5;refine mV5 hE ?_ G4 G3 G2 HX L1;clear G4 G3 G2 HX L1;intro G4 G3 G2 HX L1;have hs_y5:=hE.size;clear hE;replace b_B5:=bX3 B5
 change Calls _ _ _ _ _
 have L5:=Hi (zN B5.out G2.out G3.out G4.out)
 (try clear b_B5);clear B5
 clear G2;clear G3;clear G4;refine cM (ls (some ⟨w4.heap.size,0,none⟩) 3 3 1 [iq 1,iq 2,iq 1] _ (L5.out.raw Z1.out (by decide)) (by decide) Z1.out (by decide) (by decide)) fun x6 w6 hE G6=>?_
 refine mV3 hE ?_ HX L1 L5;clear HX L1 L5;intro HX L1 L5;have hs_w6:=hE.size;clear hE;obtain ⟨⟨a6,n6,c6⟩,e6⟩:=x6;obtain ⟨he,hl⟩:=G6.out;rw [V2.out] at he hl;simp only at he hl;subst he;have L6:=Hi hl;clear hl G6;simp only [RF,SH.v];clear L5
 go_wp2_with fail
 refine cM (aL 1 _ (by decide) (by decide)) fun x7 w7 hE G7=>?_
 refine mV3 hE ?_ HX L1 L6;clear HX L1 L6;intro HX L1 L6;have hs_w7:=hE.size;clear hE
 go_wp2_with fail
 refine cM (aL (-1) _ (by decide) (by decide)) fun x8 w8 hE G8=>?_
 refine mV4 hE ?_ G7 HX L1 L6;clear G7 HX L1 L6;intro G7 HX L1 L6;have hs_w8:=hE.size;clear hE
 go_wp2_with fail
 refine nmA (F:=fun W=>Calls _ _ _ W _) ?_;intro y9 hE B9 hz_y9 hr_y9;refine mV5 hE ?_ G8 G7 HX L1 L6;clear G8 G7 HX L1 L6;intro G8 G7 HX L1 L6;have hs_y9:=hE.size;clear hE;replace b_B9:=bX3 B9
 change Calls _ _ _ _ _
 have L9:=Hi (o3 B9.out G7.out G8.out)
 (try clear b_B9);clear B9
 clear G7;clear G8;refine cM (cF (some ⟨w8.heap.size,0,none⟩) 2 2 1 [iq 1,iq (-1)] _ (L9.out.raw Z2.out (by decide)) (by decide) Z2.out (by decide) (by decide)) fun x10 w10 hE G10=>?_
 refine mV4 hE ?_ HX L1 L6 L9;clear HX L1 L6 L9;intro HX L1 L6 L9;have hs_w10:=hE.size;clear hE;obtain ⟨⟨a10,n10,c10⟩,e10⟩:=x10;obtain ⟨he,hl⟩:=G10.out;rw [V3.out] at hl;simp only at he hl;subst he;have L10:=Hi hl;clear hl G10;simp only [RF,SH.v];clear L9
 go_wp2_with fail
 refine cM (aL 0 _ (by decide) (by decide)) fun x11 w11 hE G11=>?_
 refine mV4 hE ?_ HX L1 L6 L10;clear HX L1 L6 L10;intro HX L1 L6 L10;have hs_w11:=hE.size;clear hE
 go_wp2_with fail
 refine cM (aL (-3) _ (by decide) (by decide)) fun x12 w12 hE G12=>?_
 refine mV5 hE ?_ G11 HX L1 L6 L10;clear G11 HX L1 L6 L10;intro G11 HX L1 L6 L10;have hs_w12:=hE.size;clear hE
 go_wp2_with fail
 refine cM (aL 0 _ (by decide) (by decide)) fun x13 w13 hE G13=>?_
 refine mV6 hE ?_ G12 G11 HX L1 L6 L10;clear G12 G11 HX L1 L6 L10;intro G12 G11 HX L1 L6 L10;have hs_w13:=hE.size;clear hE
 go_wp2_with fail
 refine cM (aL 4 _ (by decide) (by decide)) fun x14 w14 hE G14=>?_
 refine mV7 hE ?_ G13 G12 G11 HX L1 L6 L10;clear G13 G12 G11 HX L1 L6 L10;intro G13 G12 G11 HX L1 L6 L10;have hs_w14:=hE.size;clear hE
 go_wp2_with fail
 refine nmA (F:=fun W=>Calls _ _ _ W _) ?_;intro y15 hE B15 hz_y15 hr_y15;refine mV8 hE ?_ G14 G13 G12 G11 HX L1 L6 L10;clear G14 G13 G12 G11 HX L1 L6 L10;intro G14 G13 G12 G11 HX L1 L6 L10;have hs_y15:=hE.size;clear hE;replace b_B15:=bX3 B15
 change Calls _ _ _ _ _
 have L15:=Hi (zM B15.out G11.out G12.out G13.out G14.out)
 (try clear b_B15);clear B15
 clear G11;clear G12;clear G13;clear G14;refine cM (fj ⟨a1,n1,c1⟩ ⟨some ⟨w14.heap.size,0,none⟩,4,4⟩ [iq 0,iq (-3),iq 0,iq 4] [iq 0,iq (-3),iq 0,iq 4] _ L1.out L15.out) fun x16 w16 hE _=>?_
 refine mV5 hE ?_ HX L1 L6 L10 L15;clear HX L1 L6 L10 L15;intro HX L1 L6 L10 L15;have hs_w16:=hE.size;clear hE;rw [decide_eq_true rfl];clear L1;clear L15
 go_wp2_with fail
 refine cM (aL 2 _ (by decide) (by decide)) fun x17 w17 hE G17=>?_
 refine mV3 hE ?_ HX L6 L10;clear HX L6 L10;intro HX L6 L10;have hs_w17:=hE.size;clear hE
 go_wp2_with fail
 refine cM (aL 2 _ (by decide) (by decide)) fun x18 w18 hE G18=>?_
 refine mV4 hE ?_ G17 HX L6 L10;clear G17 HX L6 L10;intro G17 HX L6 L10;have hs_w18:=hE.size;clear hE
 go_wp2_with fail
 refine nmA (F:=fun W=>Calls _ _ _ W _) ?_;intro y19 hE B19 hz_y19 hr_y19;refine mV5 hE ?_ G18 G17 HX L6 L10;clear G18 G17 HX L6 L10;intro G18 G17 HX L6 L10;have hs_y19:=hE.size;clear hE;replace b_B19:=bX3 B19
 change Calls _ _ _ _ _
 have L19:=Hi (o3 B19.out G17.out G18.out)
 (try clear b_B19);clear B19
 clear G17;clear G18;refine cM (fj ⟨a6,n6,c6⟩ ⟨some ⟨w18.heap.size,0,none⟩,2,2⟩ [iq 2,iq 2] [iq 2,iq 2] _ L6.out L19.out) fun x20 w20 hE _=>?_
 refine mV4 hE ?_ HX L6 L10 L19;clear HX L6 L10 L19;intro HX L6 L10 L19;have hs_w20:=hE.size;clear hE;rw [decide_eq_true rfl];clear L6;clear L19
 go_wp2_with fail
 refine cM (aL 2 _ (by decide) (by decide)) fun x21 w21 hE G21=>?_
 refine mV2 hE ?_ HX L10;clear HX L10;intro HX L10;have hs_w21:=hE.size;clear hE
 go_wp2_with fail
 refine cM (aL (-2) _ (by decide) (by decide)) fun x22 w22 hE G22=>?_
 refine mV3 hE ?_ G21 HX L10;clear G21 HX L10;intro G21 HX L10;have hs_w22:=hE.size;clear hE
 go_wp2_with fail
 refine nmA (F:=fun W=>Calls _ _ _ W _) ?_;intro y23 hE B23 hz_y23 hr_y23;refine mV4 hE ?_ G22 G21 HX L10;clear G22 G21 HX L10;intro G22 G21 HX L10;have hs_y23:=hE.size;clear hE;replace b_B23:=bX3 B23
 change Calls _ _ _ _ _
 have L23:=Hi (o3 B23.out G21.out G22.out)
 (try clear b_B23);clear B23
 clear G21;clear G22;refine cM (fj ⟨a10,n10,c10⟩ ⟨some ⟨w22.heap.size,0,none⟩,2,2⟩ [iq 2,iq (-2)] [iq 2,iq (-2)] _ L10.out L23.out) fun x24 w24 hE _=>?_
 refine mV3 hE ?_ HX L10 L23;clear HX L10 L23;intro HX L10 L23;have hs_w24:=hE.size;clear hE;rw [decide_eq_true rfl];go_wp2
 go_ret
 exact ⟨(),rfl,HX.out,trivial⟩
end Go.Proofs.YtafgmcimcbhhjaaGreat
