/- ToBasis of the reference 08. -/
import Derived.Test.YtohahgiidooijaaGreatQDK12
import Derived.Test.YtohahgiidooijaaGreatQDK11
import Derived.Test.YtohahgiidooijaaGreatQDM22
import Derived.Test.YtohahgiidooijaaGreatQDK10
import Derived.Test.YtohahgiidooijaaGreatQDM13
import Derived.Test.YtohahgiidooijaaGreatQDK2
import Derived.Test.YtohahgiidooijaaGreatQDK5
set_option linter.unusedVariables false
set_option maxHeartbeats 4000000
set_option maxRecDepth 8000
namespace Go.Proofs.YtohahgiidooijaaGreat
open Go.RowKit Go.Front Go.Num
attribute [local go_sem] XW.cell XW.frozen
theorem tZ{n k:Nat}{f:Nat→Rat}(hk:k<n)(h:∀ i,i<n→i≠k→f i=0):Stab.sm n f=f k:=by
 induction n with
 | zero=>omega
 | succ n ih =>
  show Stab.sm n f+f n=_;by_cases hkn:k=n
  ·subst hkn;rw [Stab.sm_congr (g:=fun _=>0) (fun i hi=>h i (by omega) (by omega)),Stab.sm_zero];grind
  ·rw [ih (by omega) (fun i hi hne=>h i (by omega) hne),h n (by omega) (Ne.symm hkn)];grind
theorem Cu{os:List Rat}{n:Nat}{c:Rat}(hn:n<os.length)(h0:os.getD n 0=0)(i:Nat):fbS (os.set n c) i=fbS os i+c*Tf n i:=by
 have e:fbS (os.set n c) i=Stab.sm os.length (fun k=>os.getD k 0*Tf k i+if k=n then c*Tf n i else 0):=by
  unfold fbS;rw [nXn];refine Stab.sm_congr fun k _=>?_
  rw [jB hn];split
  ·rename_i hk;subst hk;rw [h0];grind
  ·grind
 rw [e,Stab.sm_add]
 congr 1
 have:=tZ (n:=os.length) (k:=n) (f:=fun k=>if k=n then c*Tf n i else 0) hn (fun k _ hk=>if_neg hk);rw [this];exact if_pos rfl
def r8S(p:List Rat)(n:Nat):List Rat:=go p (aK (chP n).1 (p.getD n 0 / Tf n n))
theorem mU(p:List Rat)(n i:Nat):(r8S p n).getD i 0=p.getD i 0-Tf n i*(p.getD n 0 / Tf n n):=by
 unfold r8S;rw [qU,qT];rfl
theorem Bt{p:List Rat}{n:Nat}(hl:p.length=n+1):(r8S p n).length≤n:=by
 have ht:tz (r8S p n)=r8S p n:=AV _ _;rcases Nat.lt_or_ge n (r8S p n).length with h|h
 ·exfalso;obtain ⟨m,hm⟩:∃ m,(r8S p n).length=m+1:=⟨(r8S p n).length-1,by omega⟩;have h1:=mF (l:=r8S p n) (n:=m) (by rw [ht];exact hm);apply h1;rw [mU];by_cases hmn:m=n
  ·subst hmn;have:=gC (a:=p.getD m 0) (xv m);grind
  ·rw [bh (by omega),(jI n).1 m (by omega)];grind
 ·exact h
theorem DH{p:List Rat}{n t:Nat}(h:SzL t p)(ht:1≤t)(hn:n≤60):SzL (2*t+10) (r8S p n):=by
 intro q hq;obtain ⟨i,hi,rfl⟩:=List.mem_iff_getElem.1 hq;rw [show (r8S p n)[i]=(r8S p n).getD i 0 by simp [hi],mU];exact ((h.getD ht i).sub ((qw hn).mul ((h.getD ht n).div (qw hn)))).mono (by omega)
theorem Bs{N s t g m:Nat}(hm:m≤g)(hg:g+1≤N)(h:t+10≤(s+10)*2 ^ (N-(g+1))):2*t+10+10≤(s+10)*2 ^ (N-m):=by
 have h1:2 ^ (N-g)≤2 ^ (N-m):=nXo (by decide) (by omega);have h2:=nXf (s+10) h1;have h3:(s+10)*2 ^ (N-g)=(s+10)*2 ^ (N-(g+1))*2:=by
  rw [show N-g=N-(g+1)+1 by omega,nXt,←Nat.mul_assoc]
 omega
theorem Br{N s t g:Nat}(h:t+10≤(s+10)*2 ^ (N-g))(hN:N≤12)(hs:s≤76):t≤352256:=by
 have h1:2 ^ (N-g)≤2 ^ 12:=nXo (by decide) (by omega);have h2:=nXw (show s+10≤86 by omega) h1;omega
theorem nS(ao:Option Addr)(n cap s:Nat)(ps:List Rat)(w:World)(h:bX w ⟨ao,n,cap⟩ ps)(hn:n≤12)(hz:SzL s ps)(hs1:1≤s)(hs:s≤76) :
  au 54 [.slice ao n cap] w SH.v (fun x w'=>aJ w' x (tbV (tz ps).length (tz ps))):=by
 obtain ⟨i0,hi0,hz0,hz1,hz2⟩:=info_parts fk;have H:=Hi h;have HX:=Hi (Ext.refl w);have Hn:=Hi h.len;simp only at Hn;have HZ:=Hi hz.tz;clear h hz;unfold au;go_enter Tryz.func54,Tryz.ntmps54
 go_wp2_with fail
 refine cM (aN ao n cap ps _ H.out (by omega)) fun x1 w1 hE G1=>?_
 replace HX:=hE.tr HX;have hs_w1:=hE.size;clear hE;obtain ⟨pa,N,pc⟩:=x1;simp only [SH.v];have hP:=G1.out.len;have hPn:=af ps;rw [Hn.out] at hPn;simp only at hP;rw [hP] at hPn;have HPl:=Hi hP;have HPt:=Hi (av ps);have HV:Hid (tbV (tz ps).length (tz ps)=tbV N (tz ps)):=Hi (by rw [hP]);clear hP;obtain ⟨p0,hp⟩:∃ p0,p0=tz ps:=⟨_,rfl⟩;rw [←hp] at G1 HZ HPl HPt;have HV2:Hid (tbV (tz ps).length (tz ps)=tbV N p0):=Hi (by rw [HV.out,hp]);clear hp HV;have LP:=Hi G1.out.can;have hp1:=LP.out.le;have hp2:=LP.out.max;simp only at hp1 hp2;have LA:Hid (jX w1.heap.size w1.heap.size w1 ⟨pa,N,pc⟩ p0):=Hi (LP.out.apart (nXd _) (nXd _));clear G1;clear LP
 go_upto_region 3 with (refine aA rfl (.tmp 11) (.tmp 11) 22 rfl 30 i0 (RH.v default) 3 Tryz.underlying22 hi0 hz0 hz1 _ _ N rfl rfl (by omega) (by omega) (by rw [hz2];omega) (by omega) ?_;intro w3 hnew hE)
 have KB:=Hi (RBk.make rfl hnew);clear hnew;refine mV2 hE ?_ HX LA;clear HX LA;intro HX LA;have hs_w3:=hE.size;clear hE;obtain ⟨L,hL⟩:∃ L,L=w1.heap.size:=⟨_,rfl⟩;have hLw:w.heap.size≤L:=by omega
 rw [←hL] at KB LA ⊢;clear hL;go_wp2
 go_loopg [15] N (fun g v wr=>∃ (i:Nat) (rs:List RH),i+g=N∧v=.int .i64 (i:Nat)∧Ext w wr∧jX L L wr ⟨pa,N,pc⟩ p0∧RBk wr L rs #[]∧rs.length=N∧fo wr rs (List.replicate i 0))
 case atStart=>exact ⟨0,_,by omega,rfl,HX.out,LA.out,KB.out,by simp,fun j hj=>by simp at hj⟩
 case round =>
  obtain ⟨i,rs,hi,rfl,g1,g2,g4,g5,g6⟩:=hrel;clear HX KB LA;have HX:=Hi g1;have LA:=Hi g2;have KB:=Hi g4;have HRl:=Hi g5;have PC:=Hi g6;clear g1 g2 g4 g5 g6
  try clear f_KB l_KB
  have f_KB:=ab KB.out;have l_KB:=(nXa.1 KB.out).1;by_cases h0:gk=0
  case neg =>
   have hin:(i:Int)<N:=by omega
   go_wp2_with fail
   refine cM (aX 0 _ (by decide) (by decide)) fun x2 w2 hE G2=>?_
   refine mV4 hE ?_ HX LA KB PC;clear HX LA KB PC;intro HX LA KB PC;have hs_w2:=hE.size;clear hE
   try clear f_KB l_KB
   have f_KB:=ab KB.out;have l_KB:=(nXa.1 KB.out).1;obtain ⟨f1,f2,f3⟩:=RBk.at (re:=#[]) KB.out (k:=i) (by rw [HRl.out];omega)
   go_upto_region 7 with fail
   refine cl (k:=i) KB.out rfl (by rw [HRl.out];omega) ?_;intro y6 T;clear f1 f2 f3;replace HX:=Hi (T.ext HX.out (by omega));replace LA:=Hi (LA.out.put T (by omega));replace KB:=Hi (T.bx);replace PC:=Hi (PC.out.keep T.keep);replace G2:=Hi (G2.out.keep T.keep);have hs_y6:=nle T.size;have hr_y6:=nle T.size.symm;clear T
   try clear f_KB l_KB
   have f_KB:=ab KB.out;have l_KB:=(nXa.1 KB.out).1;replace PC:=Hi (PC.out.snoc (x:=x2) (i:=i) (by simp) (by rw [HRl.out];omega) G2.out);have HRp:Hid (List.replicate i (0:Rat)++[((0:Int):Rat)]=List.replicate (i+1) 0):=Hi (by rw [List.replicate_succ'];rfl);rw [HRp.out] at PC;go_wp2
   go_roundg (gk-1)
   case measure=>omega
   case rel=>exact ⟨i+1,_,by omega,by go_num,HX.out,LA.out,KB.out,by rw [nXn];exact HRl.out,PC.out⟩
  subst h0;obtain rfl:i=N:=by omega
  obtain ⟨os,hos⟩:∃ os,os=List.replicate i (0:Rat):=⟨_,rfl⟩;have HOB:Hid (lR wr L os):=Hi (by rw [hos];exact PC.out.outc KB.out HRl.out (by simp));have HOl:Hid (os.length=i):=Hi (by rw [hos];simp);have HOv:Hid (∀ m,m<i→os.getD m 0=0):=Hi (fun m hm=>by rw [hos];simp [hm]);have HOs:Hid (∀ j,p0.getD j 0=p0.getD j 0+fbS os j):=Hi (fun j=>by
   have:fbS os j=0:=by
    unfold fbS;rw [Stab.sm_congr (g:=fun _=>0) (fun k hk=>by rw [hos];rw [show (List.replicate i (0:Rat)).getD k 0=0 by rw [←hos];exact HOv.out k (by rw [←HOl.out];exact hk)];grind),Stab.sm_zero]
   rw [this];grind)
  clear hos;clear KB;clear PC;clear HRl;go_wp2;obtain ⟨lo,hi',a1,a2,-⟩:=LA.out;have LO:=Hi (a1.off a2);clear a1 a2
  go_loopg [0] i (fun g u wr=>∃ (x:SH) (q os:List Rat) (t oc:Nat),u=x.v∧q.length=g∧g≤i∧Ext w wr∧Off L oc wr x q∧lR wr L os∧os.length=i∧(∀ m,m<g→os.getD m 0=0)∧(∀ j,p0.getD j 0=q.getD j 0+fbS os j)∧SzL t q∧1≤t∧t+10≤(s+10)*2 ^ (i-g))
  case atStart=>exact ⟨⟨pa,i,pc⟩,p0,os,s,_,rfl,HPl.out,nXd _,HX.out,LO.out,HOB.out,HOl.out,HOv.out,HOs.out,HZ.out,hs1,by rw [Nat.sub_self,Nat.pow_zero];omega⟩
  case round =>
   obtain ⟨⟨xa,xn,xc⟩,q,os,t,oc,rfl,hql,hgi,g1,g2,g3,g4,g5,g6,g7,g8,g9⟩:=hrel;clear HX LA LO HOB HOl HOv HOs;have HX:=Hi g1;have LA:=Hi g2.sharp;have HOB:=Hi g3;have HOl:=Hi g4;have HOv:=Hi g5;have HOs:=Hi g6;have ZQ:=Hi g7;have Ht1:=Hi g8;have Ht2:=Hi g9;have Hql:=Hi hql;have hxn:=g2.can.len;rw [hql] at hxn;simp only at hxn;subst hxn;clear g1 g2 g3 g4 g5 g6 g7 g8 g9 hql;simp only [SH.v];have hx1:=LA.out.can.le;have hx2:=LA.out.can.max;simp only at hx1 hx2;have hLr:=HOB.out.lt;by_cases h0:gk=0
   case pos =>
    subst h0;have HE:Hid (os=tbV i p0):=Hi (by
     refine AE i _ _ HOl.out (jp _ _) fun j hj=>?_
     have h1:=HOs.out j;rw [bh (qs:=q) (by rw [Hql.out];omega)] at h1;rw [FJ _ _ _ hj,h1];grind)
    have RO:=Hi (HOB.out.can HOl.out (by omega));rw [HE.out] at RO;go_wp2
    go_ret
    exact ⟨⟨some ⟨L,0,none⟩,i,i⟩,rfl,HX.out,by rw [HV2.out];exact RO.out⟩
   obtain ⟨g0,rfl⟩:∃ g0,gk=g0+1:=⟨gk-1,by omega⟩;have htb:=Br Ht2.out (by omega) hs;have ZT:=Hi (sv (n:=g0) (by omega));have ZC:=Hi ((ZQ.out.getD Ht1.out g0).div (qw (k:=g0) (i:=g0) (by omega)));have hg1:((g0+1:Nat):Int)-1=g0:=by omega
   go_wp2_with fail
   refine cM (wV g0 _ (by omega)) fun x1 w1 hE G1=>?_
   refine mV3 hE ?_ HX LA HOB;clear HX LA HOB;intro HX LA HOB;have hs_w1:=hE.size;clear hE;obtain ⟨ta,tn,tc⟩:=x1;have LG:=Hi (G1.out.off (b:=L) hLr);clear G1;have htn:=LG.out.can.len;rw [jG] at htn;simp only at htn;subst htn;have ht1:=LG.out.can.le;have ht2:=LG.out.can.max;simp only at ht1 ht2;simp only [SH.v];obtain ⟨b,off,r,hao,hat,hP⟩:=LA.out.can.at (k:=g0) (by omega);have hbl:=RAt.lt hat;obtain ⟨hc1,hc2,hc3⟩:=hat;obtain ⟨rneg,ra,rn,rc,rb,rm,rd⟩:=r;simp only at hc1 hc2 hc3;subst hao;have RP:=Hi (hP.raw (ZQ.out.getD Ht1.out g0) (by omega));obtain ⟨b',off',r',hao',hat',hP'⟩:=LG.out.can.at (k:=g0) (by omega);have hbl':=RAt.lt hat';obtain ⟨hd1,hd2,hd3⟩:=hat';obtain ⟨rneg',ra',rn',rc',rb',rm',rd'⟩:=r';simp only at hd1 hd2 hd3;subst hao';have RT:=Hi (hP'.raw (qw (k:=g0) (i:=g0) (by omega)) (by decide));clear hP hP'
   go_upto_region 11 with fail
   refine wpG 10 (fun opIx=>match opIx with
    | 8=>.spec RH default RH.v (fun s w'=>ay w' s (q.getD g0 0 / Tf g0 g0))
    | 9=>.alloc 30 #[.bool false,.slice none 0 0,.slice none 0 0]
    | _=>.quiet) (fun _=>[]) fun w0 he0 hz0 hc0 hf0=>?_
   refine wps he0.out rfl rfl (fun w1 hW hG=>?_) fun x8=>?_
   ·exact spc [RH.v ⟨rneg,ra,rn,rc,rb,rm,rd⟩,RH.v ⟨rneg',ra',rn',rc',rb',rm',rd'⟩] Tryz.func63 (fD _ _ _ _ _ (RP.out.ext hW) (RT.out.ext hW))
   refine qZ ?_;refine aZ rfl rfl (fun w=>by simp [execOp,go_sem,ptr]) (fun b9 hb9 hl9=>?_);refine qZ ?_;refine aq ?_;intro w5 hI;have hE:=he0.out.trans hI.ext;have G8:=gT (hI.facts 8);have A9:Hid (w5.heap[b9]?=some (.cells #[.bool false,.slice none 0 0,.slice none 0 0] 30 (0,0))):=hI.facts 9;rw [hz0] at hl9;clear hI he0 hz0 hc0 hf0;refine mV4 hE ?_ HX LA HOB LG;clear HX LA HOB LG;intro HX LA HOB LG;have hs_w5:=hE.size;clear hE;replace b_A9:=bX3 A9;simp only [pD,ptr]
   go_upto_region 12 with fail
   refine aV A9.out rfl ?_;intro y6 T;replace HX:=Hi (T.ext HX.out (by omega));replace LA:=Hi (LA.out.put T (by omega));replace HOB:=Hi (HOB.out.put T (by omega));replace LG:=Hi (LG.out.put T (by omega));replace G8:=Hi (G8.out.keep T.keep);replace A9:=Hi (T.bx);have hs_y6:=nle T.size;have hr_y6:=nle T.size.symm;clear T;replace b_A9:=bX3 A9;have RC:=Hi (G8.out.raw ZC.out (by omega));clear hc1 hc2 hc3 hd1 hd2 hd3 hbl hbl' RP RT;have hfr:=HOB.out.frozen;have hLl:=HOB.out.lt;have hg0i:(g0:Int)<i:=by omega
   obtain ⟨ro,⟨e1,e2,e3⟩,-⟩:=HOB.out.cells (k:=g0) (by rw [HOl.out];omega)
   go_upto_region 13 with fail
   refine BF (k:=g0) (x:=x8) HOB.out (by rw [HOl.out];omega) G8.out ?_;intro y7 hT hOB;obtain ⟨cs',T⟩:=hT;have HOBn:=Hi hOB;clear hOB e1 e2 e3 hfr hLl;have hsb9:b9≠L:=by omega
   clear HOB;replace HX:=Hi (T.ext HX.out (by omega));replace LA:=Hi (LA.out.put T (by omega));replace LG:=Hi (LG.out.put T (by omega));replace G8:=Hi (G8.out.keep T.keep);replace A9:=Hi (T.rest _ _ (by omega) A9.out);replace RC:=Hi (RC.out.keep T.keep);have hs_y7:=nle T.size;have hr_y7:=nle T.size.symm;clear T;replace b_A9:=bX3 A9;have HOB:=Hi HOBn.out;clear HOBn;obtain ⟨c,hc⟩:∃ c,c=q.getD g0 0 / Tf g0 g0:=⟨_,rfl⟩;have Hc:=Hi hc;rw [←hc] at RC ZC HOB;clear hc;clear G8;have ZU:Hid (SzL (t+8) (aK (chP g0).1 c)):=Hi ((iT ZT.out ZC.out).mono (by omega));have LU:Hid ((aK (chP g0).1 c).length≤g0+1):=Hi (by have:=ju (chP g0).1 c;rw [jG] at this;exact this)
   go_wp2_with fail
   refine cM (eB (some ⟨b',off',none⟩) (g0+1) tc (chP g0).1 x8 c _ (LG.out.can.raw ZT.out (by decide)) RC.out (by omega) (ZT.out.mono (by decide)) (ZC.out.mono (by omega))) fun x20 w20 hE G20=>?_
   refine mV6 hE ?_ HX LA LG A9 RC HOB;clear HX LA LG A9 RC HOB;intro HX LA LG A9 RC HOB;have hs_w20:=hE.size;clear hE;replace b_A9:=bX3 A9;obtain ⟨ua,un,uc⟩:=x20;have hun:un≤g0+1:=by have h1:=G20.out.len;have h2:=LU.out;rw [h1] at h2;exact h2
   simp only [SH.v];have hLs:=HOB.out.lt
   go_wp2_with fail
   refine cM (mJ (some ⟨b,off,none⟩) ua (g0+1) xc un uc q (aK (chP g0).1 c) _ (LA.out.can.raw ZQ.out (by omega)) (G20.out.can.raw ZU.out (by omega)) (by omega) (by omega) (ZQ.out.mono (by omega)) (ZU.out.mono (by omega))) fun x21 w21 hE G21=>?_
   refine mV7 hE ?_ G20 HX LA LG A9 RC HOB;clear G20 HX LA LG A9 RC HOB;intro G20 HX LA LG A9 RC HOB;have hs_w21:=hE.size;clear hE;replace b_A9:=bX3 A9;have HS2:Hid (go q (aK (chP g0).1 c)=r8S q g0):=Hi (by rw [Hc.out];rfl);rw [HS2.out] at G21;obtain ⟨va,vn,vc⟩:=x21;have hvl:=G21.out.len;have hvl2:=Bt Hql.out;simp only at hvl;rw [hvl] at hvl2;have Hvl:=Hi hvl;have LV:Hid (Off L w21.heap.size w21 ⟨va,vn,vc⟩ (r8S q g0)):=Hi (G21.out.off hLs);have HZ2:=Hi (DH (n:=g0) ZQ.out Ht1.out (by omega));have HG2:=Hi (Bs (m:=vn) hvl2 (by omega) Ht2.out);have HO2:Hid (∀ m,m<vn→(os.set g0 c).getD m 0=0):=Hi (fun m hm=>by
    rw [jB (by rw [HOl.out];omega),if_neg (by omega)];exact HOv.out m (by omega))
   have HP2:Hid (∀ j,p0.getD j 0=(r8S q g0).getD j 0+fbS (os.set g0 c) j):=Hi (fun j=>by
    rw [HOs.out j,mU,Cu (by rw [HOl.out];omega) (HOv.out g0 (by omega)),←Hc.out];grind)
   simp only [SH.v];clear hvl;go_wp2
   go_roundg vn
   case measure=>omega
   case rel=>exact ⟨⟨va,vn,vc⟩,r8S q g0,os.set g0 c,2*t+10,_,rfl,Hvl.out,by omega,HX.out,LV.out,HOB.out,by rw [nXn];exact HOl.out,HO2.out,HP2.out,HZ2.out,by omega,HG2.out⟩
theorem fv.trans{w1 w2 w3:World}{b:Nat}{T:TypeId}{cs ds:Array Value}(h:fv w1 b T cs w2)(k:fv w2 b T ds w3):fv w1 b T ds w3 :=
 ⟨hH.trans h.keep k.keep,k.bx,fun i o h1 h2=>k.rest i o h1 (h.rest i o h1 h2),k.size.trans h.size,Below.trans h.below k.below⟩
def jQ(w:World)(L n j:Nat)(c:List Rat):Prop:=∃ rs,RBk w L rs #[]∧rs.length=2*n+1∧∀ i,i<2*n+1→dst n i<j→ay w (rs.getD i default) (qL c n i)
theorem jQ.ext{w w':World}{L n j:Nat}{c:List Rat}(h:jQ w L n j c)(he:Ext w w'):jQ w' L n j c :=
 let ⟨rs,h1,h2,h3⟩:=h;⟨rs,h1.ext he,h2,fun i hi hd=>(h3 i hi hd).ext he⟩
instance {w w':World} {L n j:Nat} {c:List Rat}:Go.Front.Mv w w' (jQ w L n j c) (jQ w' L n j c):=⟨fun e h=>jQ.ext h e⟩

theorem jQ.put{w1 w2:World}{L n j b:Nat}{c:List Rat}{T:TypeId}{cs:Array Value}(h:jQ w1 L n j c)(T2:fv w1 b T cs w2)(hb:b≠L):jQ w2 L n j c :=
 let ⟨rs,h1,h2,h3⟩:=h;⟨rs,T2.rest L _ (Ne.symm hb) h1,h2,fun i hi hd=>(h3 i hi hd).keep T2.keep⟩
theorem jQ.lt{w:World}{L n j:Nat}{c:List Rat}(h:jQ w L n j c):L<w.heap.size:=let ⟨_,h1,_⟩:=h;h1.lt
theorem jQ.frozen{w:World}{L n j:Nat}{c:List Rat}(h:jQ w L n j c)(i:Nat):w.frozen? ⟨L,i,none⟩=false:=let ⟨_,h1,_⟩:=h;h1.frozen i
theorem jQ.cells{w:World}{L n j:Nat}{c:List Rat}(h:jQ w L n j c){k:Nat}(hk:k<2*n+1):∃ r,RAt w L (k*3) r:=by
 obtain ⟨rs,h1,h2,h3⟩:=h;exact ⟨_,h1.at (by rw [h2];exact hk)⟩
theorem jQ.can{w:World}{L n M:Nat}{c:List Rat}(h:jQ w L n (n+1) c)(hl:2*n+1=M)(hM:M≤9223372036854775807):aJ w ⟨some ⟨L,0,none⟩,M,M⟩ (jU c n):=by
 obtain ⟨rs,h1,h2,h3⟩:=h;refine ⟨rs,h1.rs (by rw [h2,hl]) (nXd _) hM,by rw [h2];unfold jU;simp,fun i hi=>?_⟩;have hi':i<2*n+1:=by simpa [jU] using hi
 unfold jU;rw [bE,if_pos hi'];exact h3 i hi' (by unfold dst;split <;> omega)
theorem jQ.start{w:World}{L n:Nat}{rs:List RH}{c:List Rat}(h:RBk w L rs #[])(hl:rs.length=2*n+1):jQ w L n 0 c:=⟨rs,h,hl,fun i hi hd=>by omega⟩
theorem DY{w1:World}{L n j:Nat}{c:List Rat}{F:World→Prop}{x:RH}(h:jQ w1 L n j c)(hj:j≤n)(hx:ay w1 x (qL c n (n+j))){i1 i2:Nat}(h1:i1=n-j)(h2:i2=n+j)
 (H:∀ w2,(∃ cs,fv w1 L 30 cs w2)→jQ w2 L n (j+1) c→F w2) :
  F ((((((w1.setCell ⟨L,i2*3,none⟩ (.bool x.neg)).setCell ⟨L,i2*3+1,none⟩ (.slice x.a x.n x.c)).setCell ⟨L,i2*3+2,none⟩ (.slice x.b x.m x.d)).setCell ⟨L,i1*3,none⟩ (.bool x.neg)).setCell ⟨L,i1*3+1,none⟩ (.slice x.a x.n x.c)).setCell ⟨L,i1*3+2,none⟩ (.slice x.b x.m x.d)):=by
 subst h1 h2;obtain ⟨rs,g1,g2,g3⟩:=h;refine cl (F:=fun w=>F (((w.setCell ⟨L,(n-j)*3,none⟩ (.bool x.neg)).setCell ⟨L,(n-j)*3+1,none⟩ (.slice x.a x.n x.c)).setCell ⟨L,(n-j)*3+2,none⟩ (.slice x.b x.m x.d))) (k:=n+j) g1 rfl (by rw [g2];omega) fun w2 T=>?_
 refine cl (k:=n-j) (rs:=rs.set (n+j) x) T.bx rfl (by rw [nXn,g2];omega) fun w3 T3=>?_
 refine H w3 ⟨_,T.trans T3⟩ ⟨_,T3.bx,by rw [nXn,nXn,g2],fun i hi hd=>?_⟩;have hk:hH w1 w3:=hH.trans T.keep T3.keep;have e2:qL c n (n-j)=qL c n (n+j):=by
  unfold qL;rw [show dst n (n-j)=dst n (n+j) by unfold dst;split <;> split <;> omega]
 by_cases ha:i=n-j
 ·subst ha;rw [show ((rs.set (n+j) x).set (n-j) x).getD (n-j) default=x by simp [g2,show n-j<2*n+1 by omega],e2];exact hx.keep hk
 ·by_cases hb:i=n+j
  ·subst hb;rw [show ((rs.set (n+j) x).set (n-j) x).getD (n+j) default=x by simp [g2,Ne.symm ha,show n+j<2*n+1 by omega]];exact hx.keep hk
  ·rw [show ((rs.set (n+j) x).set (n-j) x).getD i default=rs.getD i default by simp [Ne.symm ha,Ne.symm hb]];refine (g3 i hi ?_).keep hk;unfold dst at hd ⊢;split at hd <;> split <;> omega
theorem uQ{w1:World}{L n j:Nat}{c:List Rat}{F:World→Prop}{x:RH}(h:jQ w1 L n j c)(hj:j≤n)(hx:ay w1 x (qL c n (n+j))){i1 i2:Nat}(h1:i1=n-j)(h2:i2=n+j)
 (H:∀ w2,(∃ cs,fv w1 L 30 cs w2)→jQ w2 L n (j+1) c→∀ w3,Ext w2 w3→F w3) :
  F ((((((w1.setCell ⟨L,i2*3,none⟩ (.bool x.neg)).setCell ⟨L,i2*3+1,none⟩ (.slice x.a x.n x.c)).setCell ⟨L,i2*3+2,none⟩ (.slice x.b x.m x.d)).setCell ⟨L,i1*3,none⟩ (.bool x.neg)).setCell ⟨L,i1*3+1,none⟩ (.slice x.a x.n x.c)).setCell ⟨L,i1*3+2,none⟩ (.slice x.b x.m x.d)).drew :=
 DY (F:=fun W=>F W.drew) h hj hx h1 h2 fun w2 hT hP=>H w2 hT hP _ (Ext.drew _)
theorem tL(ao:Option Addr)(m cap s:Nat)(ps:List Rat)(n:Int)(w:World)(h:bX w ⟨ao,m,cap⟩ ps)(hm:m≤12)(hz:SzL s ps)(hs1:1≤s)(hs:s≤76)(hcz:SzL 5000000 (tbV (tz ps).length (tz ps))) :
  au 16 [.slice ao m cap,.int .i64 n] w RF (fun x w'=>x.2=(jT ps n).1∧aJ w' x.1 (jT ps n).2):=by
 obtain ⟨i0,hi0,hz0,hz1,hz2⟩:=info_parts fk;have H:=Hi h;have HX:=Hi (Ext.refl w);have hle:=h.le;have hmx:=h.max;have Hlen:=Hi h.len;simp only at hle hmx Hlen;have HZ:=Hi hz;have HCz:=Hi hcz;clear h hz hcz;unfold au;by_cases h1:n<0
 ·have hv:jT ps n=(1,[]):=by unfold jT;rw [if_pos (Or.inl h1)]
  have Hv:=Hi hv;clear hv;go_enter Tryz.func16,Tryz.ntmps16;go_wp2;exact bodyPost_ret (v:=RF (⟨none,0,0⟩,1)) (by simp [results,Tryz.results16,go_sem,RF]) rfl ⟨(⟨none,0,0⟩,1),rfl,HX.out,by rw [Hv.out],by rw [Hv.out];exact (bj.nil 0 _).can⟩
 by_cases h2:48<n
 ·have hv:jT ps n=(1,[]):=by unfold jT;rw [if_pos (Or.inr h2)]
  have Hv:=Hi hv;clear hv;go_enter Tryz.func16,Tryz.ntmps16;go_wp2;exact bodyPost_ret (v:=RF (⟨none,0,0⟩,1)) (by simp [results,Tryz.results16,go_sem,RF]) rfl ⟨(⟨none,0,0⟩,1),rfl,HX.out,by rw [Hv.out],by rw [Hv.out];exact (bj.nil 0 _).can⟩
 obtain ⟨N,rfl⟩:∃ N:Nat,n=(N:Nat):=⟨n.toNat,by omega⟩;have HV:Hid (jT ps N=if (N:Int)<((tz ps).length:Int)-1 then (12,[]) else (0,jU (tbV (tz ps).length (tz ps)) N)):=Hi (by unfold jT;rw [if_neg (by omega)];rfl);have hN:N≤48:=by omega
 obtain ⟨P,hP⟩:∃ P,P=(tz ps).length:=⟨_,rfl⟩;have hPm:P≤12:=by have:=af ps;rw [Hlen.out] at this;omega
 rw [←hP] at HV HCz;have HD:Hid (∀ w1,Ext w w1→au 53 [.slice ao m cap] w1 (fun _:Unit=>.int .i64 ((P:Int)-1)) (fun _ _=>True)):=Hi (fun w1 he=>by rw [hP];exact eR ao m cap ps w1 (H.out.ext he) (by omega));have HB:Hid (∀ w1,Ext w w1→au 54 [.slice ao m cap] w1 SH.v (fun x w'=>aJ w' x (tbV P (tz ps)))):=Hi (fun w1 he=>by rw [hP];exact nS ao m cap s ps w1 (H.out.ext he) hm HZ.out hs1 hs);clear hP;go_enter Tryz.func16,Tryz.ntmps16
 go_wp2_with fail
 refine cM (HD.out _ HX.out) fun x1 w1 hE _=>?_
 replace HX:=hE.tr HX;have hs_w1:=hE.size;clear hE;by_cases h3:(N:Int)<(P:Int)-1
 case pos =>
  have hv:jT ps N=(12,[]):=by rw [HV.out,if_pos h3]
  have Hv:=Hi hv;clear hv;go_wp2;exact bodyPost_ret (v:=RF (⟨none,0,0⟩,12)) (by simp [results,Tryz.results16,go_sem,RF]) rfl ⟨(⟨none,0,0⟩,12),rfl,HX.out,by rw [Hv.out],by rw [Hv.out];exact (bj.nil 0 _).can⟩
 have HV2:Hid (jT ps N=(0,jU (tbV P (tz ps)) N)):=Hi (by rw [HV.out,if_neg h3]);obtain ⟨c,hc⟩:∃ c,c=tbV P (tz ps):=⟨_,rfl⟩;have HCl:Hid (c.length=P):=Hi (by rw [hc];exact jp _ _);rw [←hc] at HV2 HCz HB;clear hc h1 h2
 go_wp2_with fail
 refine cM (HB.out _ HX.out) fun x2 w2 hE G2=>?_
 replace HX:=hE.tr HX;have hs_w2:=hE.size;clear hE;obtain ⟨ca,cn,cc⟩:=x2;have hcl:=G2.out.len;rw [HCl.out] at hcl;simp only at hcl;subst hcl;have LC:Hid (LIn w2 ⟨ca,P,cc⟩ c 0 w2.heap.size):=Hi G2.out.lin;clear G2;simp only [SH.v];obtain ⟨M,hM1,hM2⟩:∃ M,M≤2*N+1∧2*N+1≤M:=⟨2*N+1,nXd _,nXd _⟩;have hMi:2*(N:Int)+1=M:=by omega
 go_upto_region 7 with (refine aA rfl (.tmp 26) (.tmp 26) 22 rfl 30 i0 (RH.v default) 3 Tryz.underlying22 hi0 hz0 hz1 _ _ M rfl rfl (by omega) (by omega) (by rw [hz2];omega) (by omega) ?_;intro w3 hnew hE)
 have KB:Hid (jQ w3 w2.heap.size N 0 c):=Hi (jQ.start (RBk.make rfl hnew) (by rw [nXv];omega));clear hnew;refine mV2 hE ?_ HX LC;clear HX LC;intro HX LC;have hs_w3:=hE.size;clear hE;obtain ⟨L,hL⟩:∃ L,L=w2.heap.size:=⟨_,rfl⟩;have hLw:w.heap.size≤L:=by omega
 rw [←hL] at KB LC ⊢;clear hL;go_wp2
 go_loopg [8] (N+1) (fun g z wr=>∃ (j:Nat),j+g=N+1∧z=.int .i64 (j:Nat)∧Ext w wr∧jQ wr L N j c∧LIn wr ⟨ca,P,cc⟩ c 0 L)
 case atStart=>exact ⟨0,by omega,rfl,HX.out,KB.out,LC.out⟩
 case round =>
  obtain ⟨j,hj,rfl,g1,g4,g5⟩:=hrel;clear HX KB LC;have HX:=Hi g1;have KB:=Hi g4;have LC:=Hi g5;clear g1 g4 g5;by_cases h0:gk=0
  case pos =>
   subst h0;obtain rfl:j=N+1:=by omega
   have hjn:¬ ((N:Int)+1≤N):=by omega
   have RO:=Hi (KB.out.can (M:=M) (by omega) (by omega));go_wp2;exact bodyPost_ret (v:=RF (⟨some ⟨L,0,none⟩,M,M⟩,0)) (by simp [results,Tryz.results16,go_sem,RF]) rfl ⟨(⟨some ⟨L,0,none⟩,M,M⟩,0),rfl,HX.out,by rw [HV2.out],by rw [HV2.out];exact RO.out⟩
  have hjN:(j:Int)≤N:=by omega
  have hLl0:=KB.out.lt;have ZC:=Hi (HCz.out.getD (by decide) j)
  go_wp2_with fail
  refine cM (iF ca P cc c j _ (LC.out.can.raw HCz.out (by decide)) (by omega)) fun x4 w4 hE G4=>?_
  refine mV3 hE ?_ HX KB LC;clear HX KB LC;intro HX KB LC;have hs_w4:=hE.size;clear hE
  go_upto_region 11 with fail
  refine nmA ?_;intro y5 hE B9 hz_y5 hr_y5;refine mV4 hE ?_ G4 HX KB LC;clear G4 HX KB LC;intro G4 HX KB LC;have hs_y5:=hE.size;clear hE;replace b_B9:=bX3 B9;obtain ⟨b9,hb9⟩:∃ b9,b9=w4.heap.size:=⟨_,rfl⟩;have hb9L:L<b9:=by omega
  rw [←hb9] at B9 ⊢;clear hb9 b_B9;replace b_B9:=bX3 B9;have GE:Hid (∀ w1 x,ay w1 x (if j=0 then c.getD j 0 else c.getD j 0*xK)→ay w1 x (qL c N (N+j))):=Hi (fun w1 x hx=>by
   have e:dst N (N+j)=j:=by unfold dst;split <;> omega
   unfold qL;rw [e];by_cases h:j=0
   ·rw [if_pos h] at hx ⊢;rw [h] at hx;exact hx
   ·rw [if_neg h] at hx ⊢;exact hx)
  by_cases hj0:j=0
  case pos =>
   have hjb:¬ (0:Int)<j:=by omega
   have GX:Hid (ay y5 x4 (qL c N (N+j))):=Hi (GE.out _ _ (by rw [if_pos hj0];exact G4.out));obtain ⟨rneg,ra,rn,rc,rb,rm,rd⟩:=x4
   go_upto_region 13 with fail
   obtain rfl:j=0:=hj0;have hNM:(N:Int)<M:=by omega
   have hj2:N<2*N+1:=by omega
   have hfr:∀ x,y5.frozen? ⟨L,x,none⟩=false:=KB.out.frozen;have hLl:=KB.out.lt;obtain ⟨r2,e4,e5,e6⟩:=KB.out.cells (k:=N) hj2
   go_region
   refine uQ (i1:=N) (i2:=N) (x:=⟨rneg,ra,rn,rc,rb,rm,rd⟩) KB.out (by omega) GX.out rfl rfl ?_;intro w14 hT hTP w15 hE;obtain ⟨cs',T⟩:=hT;have KBn:=Hi hTP;clear hTP e4 e5 e6 hfr hLl hj2 hNM;clear KB;replace HX:=Hi (T.ext HX.out (by omega));replace LC:=Hi (LC.out.put T (by omega));replace G4:=Hi (G4.out.keep T.keep);replace B9:=Hi (T.rest _ _ (by omega) B9.out);have hs_w14:=nle T.size;have hr_w14:=nle T.size.symm;clear T;replace b_B9:=bX3 B9;have KB:=Hi KBn.out;clear KBn;refine mV5 hE ?_ HX LC G4 B9 KB;clear HX LC G4 B9 KB;intro HX LC G4 B9 KB;have hs_w15:=hE.size;clear hE;replace b_B9:=bX3 B9;go_wp2
   go_roundg (gk-1)
   case measure=>omega
   case rel=>exact ⟨0+1,by omega,by go_num,HX.out,KB.out,LC.out⟩
  have hjb:(0:Int)<j:=by omega
  go_upto_region 12 with fail
  refine wpG 3 (fun opIx=>match opIx with
   | 1=>.spec RH default RH.v (fun s w'=>ay w' s (xK))
   | 2=>.spec RH default RH.v (fun s w'=>ay w' s (c.getD j 0*xK))
   | _=>.quiet) (fun|2=>[1]|_=>[]) fun w0 he0 hz0 hc0 hf0=>?_
  refine wps he0.out rfl rfl (fun w1 hW hG=>?_) fun x1=>?_
  ·exact spc [.int .i64 1,.int .i64 2] Tryz.func32 (cZ 1 2 _ (by decide) (by decide) (by decide) (by decide))
  refine qZ ?_;refine wps he0.out rfl rfl (fun w1 hW hG=>?_) fun x2=>?_
  ·have g1:=(hG 1 (by decide):aD _ _).get fun _ e g=>g.ext e
   exact spc [x4.v,x1.v] Tryz.func56 (dQ x4 x1 _ _ _ ((G4.out.ext hW).raw ZC.out (by decide)) (g1.raw Cc (by decide)))
  refine qZ ?_;refine aq ?_;intro w12 hI;have hE:=he0.out.trans hI.ext;have G1:=gT (hI.facts 1);have G2:=gT (hI.facts 2);clear hI he0 hz0 hc0 hf0;refine mV5 hE ?_ HX LC B9 KB G4;clear HX LC B9 KB G4;intro HX LC B9 KB G4;have hs_w12:=hE.size;clear hE;replace b_B9:=bX3 B9;simp only [pD]
  go_upto_region 13 with fail
  refine aV B9.out rfl ?_;intro y13 T;replace HX:=Hi (T.ext HX.out (by omega));replace KB:=Hi (KB.out.put T (by omega));replace LC:=Hi (LC.out.put T (by omega));replace G4:=Hi (G4.out.keep T.keep);replace B9:=Hi (T.bx);replace G1:=Hi (G1.out.keep T.keep);replace G2:=Hi (G2.out.keep T.keep);have hs_y13:=nle T.size;have hr_y13:=nle T.size.symm;clear T;replace b_B9:=bX3 B9;have GX:Hid (ay y13 x2 (qL c N (N+j))):=Hi (GE.out _ _ (by rw [if_neg hj0];exact G2.out));obtain ⟨rneg,ra,rn,rc,rb,rm,rd⟩:=x2;obtain ⟨i1,hi1⟩:∃ i,i=N-j:=⟨_,rfl⟩;obtain ⟨i2,hi2⟩:∃ i,i=N+j:=⟨_,rfl⟩;have hI1:(N:Int)-(j:Int)=i1:=by omega
  have hI2:(N:Int)+(j:Int)=i2:=by omega
  have hj1:i1<2*N+1:=by omega
  have hj2:i2<2*N+1:=by omega
  have hb1:(i1:Int)<M:=by omega
  have hb2:(i2:Int)<M:=by omega
  have d0:i2≠i1:=by omega
  have d1:i2*3≠i1*3+1:=by omega
  have d2:i2*3≠i1*3+2:=by omega
  have d3:i2*3+1≠i1*3:=by omega
  have d4:i2*3+2≠i1*3:=by omega
  have hfr:∀ x,y13.frozen? ⟨L,x,none⟩=false:=KB.out.frozen;have hLl:=KB.out.lt;obtain ⟨r1,e1,e2,e3⟩:=KB.out.cells (k:=i1) hj1;obtain ⟨r2,e4,e5,e6⟩:=KB.out.cells (k:=i2) hj2;have Hi1:=Hi hi1;have Hi2:=Hi hi2;clear hj0 hi1 hi2
  go_region
  refine uQ (x:=⟨rneg,ra,rn,rc,rb,rm,rd⟩) KB.out (by omega) GX.out Hi1.out Hi2.out ?_;intro w14 hT hTP w15 hE;obtain ⟨cs',T⟩:=hT;have KBn:=Hi hTP;clear hTP e1 e2 e3 e4 e5 e6 hfr hLl hI1 hI2 hb1 hb2 hj1 hj2 d0 d1 d2 d3 d4;clear KB;replace HX:=Hi (T.ext HX.out (by omega));replace LC:=Hi (LC.out.put T (by omega));replace G4:=Hi (G4.out.keep T.keep);replace B9:=Hi (T.rest _ _ (by omega) B9.out);replace G1:=Hi (G1.out.keep T.keep);replace G2:=Hi (G2.out.keep T.keep);have hs_w14:=nle T.size;have hr_w14:=nle T.size.symm;clear T;replace b_B9:=bX3 B9;have KB:=Hi KBn.out;clear KBn;refine mV7 hE ?_ HX LC G4 B9 G1 G2 KB;clear HX LC G4 B9 G1 G2 KB;intro HX LC G4 B9 G1 G2 KB;have hs_w15:=hE.size;clear hE;replace b_B9:=bX3 B9;go_wp2
  go_roundg (gk-1)
  case measure=>omega
  case rel=>exact ⟨j+1,by omega,by go_num,HX.out,KB.out,LC.out⟩
end Go.Proofs.YtohahgiidooijaaGreat
/- Valid, limited of the reference 20. -/
namespace Go.Proofs.YtohahgiidooijaaGreat
open Go.RowKit Go.Front Go.Num Stab
attribute [local go_sem] XW.cell XW.frozen
theorem uj(ao bo:Option Addr)(n c m d:Nat)(p q:List Rat)(w:World)(h:bX w ⟨ao,n,c⟩ p)(k:bX w ⟨bo,m,d⟩ q)(hn:n≤1073741824)(hm:m≤1073741824) :
  au 27 [.slice ao n c,.slice bo m d] w (fun _:Unit=>.bool (decide (tz p=tz q))) (fun _ _=>True):=by
 have HX:=Hi (Ext.refl w);have H:=Hi h;have K:=Hi k;clear h k;unfold au;go_enter Tryz.func27,Tryz.ntmps27
 go_wp2_with fail
 refine cM (aN ao n c p _ (H.out.ext HX.out) hn) fun x1 w1 hE G1=>?_
 replace HX:=hE.tr HX;have hs_w1:=hE.size;clear hE
 go_wp2_with fail
 refine cM (aN bo m d q _ (K.out.ext HX.out) hm) fun x2 w2 hE G2=>?_
 refine mV2 hE ?_ G1 HX;clear G1 HX;intro G1 HX;have hs_w2:=hE.size;clear hE;obtain ⟨a1,n1,c1⟩:=x1;obtain ⟨a2,n2,c2⟩:=x2;simp only [SH.v]
 go_wp2_with fail
 refine cM (we ⟨a1,n1,c1⟩ ⟨a2,n2,c2⟩ _ _ _ G1.out.can G2.out.can) fun x3 w3 hE _=>?_
 refine mV3 hE ?_ G2 G1 HX;clear G2 G1 HX;intro G2 G1 HX;have hs_w3:=hE.size;clear hE;go_wp2
 go_ret
 exact ⟨(),rfl,HX.out,trivial⟩
end Go.Proofs.YtohahgiidooijaaGreat
/- The squared magnitude as a form of two sequences: it is found from the squares. Plain facts. -/
namespace Go.Proofs.YtohahgiidooijaaGreat
open Go.RowKit Go.Front Go.Num Stab
def cc(N:Nat)(u v:Nat→Rat)(k:Nat):Rat:=sm N (fun i=>u i*v (i+k))
def ce(N:Nat)(u v:Nat→Rat)(k:Nat):Rat:=if k=0 then cc N u v k else cc N u v k+cc N v u k
theorem AS{p q:List Rat}{N:Nat}(hp:p.length≤N)(k:Nat):jP (tz p) (tz q) k=cc N (seq p) (seq q) k:=by
 unfold jP cc;have hl:=af p;rw [sm_congr (g:=fun i=>seq p i*seq q (i+k)) (fun i _=>by rw [ax,ax];rfl)];refine bH (by omega) fun i h1 h2=>?_
 rcases Nat.lt_or_ge i (tz p).length with h3|h3
 ·rw [show seq q (i+k)=0 from iN (l:=q) (i:=i+k) (by omega)];grind
 ·rw [show seq p i=0 from iN (l:=p) (i:=i) h3];grind
theorem xe{p q:List Rat}{N k:Nat}(hq:q.length≤k):cc N (seq p) (seq q) k=0:=by
 unfold cc;rw [sm_congr (g:=fun _=>0) (fun i _=>by rw [show seq q (i+k)=0 from aG (by omega)];grind),sm_zero]
theorem cw{p q:List Rat}{N:Nat}(hp:p.length≤N)(hq:q.length≤N)(n:Nat):seq (ah p q) n=sm N (fun k=>ce N (seq p) (seq q) k*Tf k n):=by
 show (ah p q).getD n 0=_;unfold ah;rw [kf];unfold fbS;have h1:=af p;have h2:=af q;rw [nXk,nXs,sm_congr (g:=fun k=>ce N (seq p) (seq q) k*Tf k n) (fun k hk=>by
  rw [bE,if_pos hk];unfold crE ce;rw [AS hp,AS hq])]
 refine bH (by omega) fun k h3 h4=>?_
 have e1:cc N (seq p) (seq q) k=0:=by
  rw [←aW p,←aW q];exact xe (by omega)
 have e2:cc N (seq q) (seq p) k=0:=by
  rw [←aW p,←aW q];exact xe (by omega)
 unfold ce;split
 ·rw [e1];grind
 ·rw [e1,e2];grind
theorem ET(N:Nat)(u v:Nat→Rat)(k:Nat):cc N (fun i=>u i+v i) (fun i=>u i+v i) k-cc N (fun i=>u i-v i) (fun i=>u i-v i) k=2*cc N u v k+2*cc N v u k:=by
 unfold cc;induction N with
 | zero=>show (0:Rat)-0=2*0+2*0;grind
 | succ N ih =>
  show (sm N _+_)-(sm N _+_)=2*(sm N _+_)+2*(sm N _+_);grind
theorem ES(N:Nat)(u v:Nat→Rat)(k:Nat):ce N (fun i=>u i+v i) (fun i=>u i+v i) k-ce N (fun i=>u i-v i) (fun i=>u i-v i) k=4*ce N u v k:=by
 have h:=ET N u v k;unfold ce;by_cases hk:k=0
 ·rw [if_pos hk,if_pos hk,if_pos hk];have:cc N v u k=cc N u v k:=by
   subst hk;unfold cc;exact sm_congr fun i _=>nYb ..
  grind
 ·rw [if_neg hk,if_neg hk,if_neg hk];grind
theorem oY{u v s d:List Rat}(hs:∀ n,seq s n=seq u n+seq v n)(hd:∀ n,seq d n=seq u n-seq v n)(n:Nat):4*seq (ah u v) n=seq (ah s s) n-seq (ah d d) n:=by
 obtain ⟨N,hN⟩:∃ N,N=u.length+v.length+s.length+d.length:=⟨_,rfl⟩;rw [cw (N:=N) (by omega) (by omega),cw (N:=N) (by omega) (by omega),cw (N:=N) (by omega) (by omega),←sm_mul];rw [show seq s=fun i=>seq u i+seq v i from funext hs,show seq d=fun i=>seq u i-seq v i from funext hd];have key:∀ f g:Nat→Rat,sm N f-sm N g=sm N (fun i=>f i-g i):=fun f g=>by
  have h1:=sm_add N (fun i=>f i-g i) g;rw [show (fun i=>f i-g i+g i)=f from funext fun i=>by grind] at h1;rw [h1];grind
 rw [key];refine sm_congr fun k _=>?_
 have:=ES N (seq u) (seq v) k;grind
theorem si(a p q:List Rat):ah (ag a q) (ag p q)=ag (ah a p) (ah q q):=by
 obtain ⟨s,hs⟩:∃ s,s=aS a p:=⟨_,rfl⟩;obtain ⟨d,hd⟩:∃ d,d=aS a (p.map (·*-1)):=⟨_,rfl⟩;have es:seq s=fun n=>seq a n+seq p n:=by rw [hs];exact funext fun n=>Sg.seq_add5 a p n
 have ed:seq d=fun n=>seq a n+-1*seq p n:=by rw [hd];exact funext fun n=>by rw [Sg.seq_add5,aT];grind
 have ms:∀ x n,seq (ag x q) n=cv (seq x) (seq q) n:=fun x n=>by rw [bu,cK]
 have h1:=oY (u:=ag a q) (v:=ag p q) (s:=ag s q) (d:=ag d q)
  (fun n=>by rw [ms,ms,ms,es,ij])
  (fun n=>by rw [ms,ms,ms,ed,ij,dZ];grind)
 have h2:=oY (u:=a) (v:=p) (s:=s) (d:=d) (fun n=>by rw [es]) (fun n=>by rw [ed];grind);have h3:seq (ah s s)=fun n=>4*seq (ah a p) n+seq (ah d d) n:=funext fun n=>by have:=h2 n;grind
 have h4:∀ n,seq (ah (ag a q) (ag p q)) n=seq (ag (ah a p) (ah q q)) n:=fun n=>by
  have h5:=h1 n;rw [fQ,fQ,bu,bu,cK,cK,h3,ij,dZ] at h5;rw [bu,cK];grind
 have h6:=dY h4;rw [dq] at h6;rw [←h6];unfold ah;rw [vW]
theorem lI{p q p' q':List Rat}(hp:∀ n,seq p n=seq p' n)(hq:∀ n,seq q n=seq q' n):ah p q=ah p' q':=by
 unfold ah;rw [dY hp,dY hq]
theorem EU(N:Nat)(u v x:Nat→Rat)(k:Nat):cc N (fun i=>u i+v i) x k=cc N u x k+cc N v x k∧cc N x (fun i=>u i+v i) k=cc N x u k+cc N x v k:=by
 unfold cc;constructor
 ·rw [←sm_add];exact sm_congr fun i _=>by grind
 ·rw [←sm_add];exact sm_congr fun i _=>by grind
theorem wL{u v s x:List Rat}(hs:∀ n,seq s n=seq u n+seq v n)(n:Nat):seq (ah s x) n=seq (ah u x) n+seq (ah v x) n:=by
 obtain ⟨N,hN⟩:∃ N,N=u.length+v.length+s.length+x.length:=⟨_,rfl⟩;rw [cw (N:=N) (by omega) (by omega),cw (N:=N) (by omega) (by omega),cw (N:=N) (by omega) (by omega),←sm_add];refine sm_congr fun k _=>?_
 rw [show seq s=fun i=>seq u i+seq v i from funext hs];obtain ⟨h1,h2⟩:=EU N (seq u) (seq v) (seq x) k;unfold ce;by_cases hk:k=0
 ·rw [if_pos hk,if_pos hk,if_pos hk,h1];grind
 ·rw [if_neg hk,if_neg hk,if_neg hk,h1,h2];grind
theorem dU(p:List Rat)(n:Nat):seq (bF p) n=(((n:Nat):Int):Rat)*seq p n:=by
 show (bF p).getD n 0=_;unfold bF;rw [bE];split
 ·rfl
 ·rw [show seq p n=0 from aG (by omega),nYa]
theorem A3(p q:List Rat)(n:Nat):seq (bF (ag p q)) n=seq (ag (bF p) q) n+seq (ag p (bF q)) n:=by
 rw [dU,bu,bu,bu,cK,cK,cK];unfold cv;rw [←sm_mul,←sm_add];refine sm_congr fun i hi=>?_
 rw [dU,dU];have:(((n:Nat):Int):Rat)=(((i:Nat):Int):Rat)+(((n-i:Nat):Int):Rat):=by
  rw [←Rat.intCast_add]
  congr 1
  omega
 rw [this];grind
theorem u4(p q:List Rat):ag p q=ag q p:=by
 have h:∀ n,seq (ag p q) n=seq (ag q p) n:=fun n=>by rw [bu,bu,cK,cK,cf]
 have:=dY h
 rwa [dq,dq] at this
theorem jE(p q:List Rat)(n:Nat):seq (ah (bF (ag p q)) (ag p q)) n=seq (ag (ah (bF p) p) (ah q q)) n+seq (ag (ah (bF q) q) (ah p p)) n:=by
 rw [wL (A3 p q),si];have h2:ah (ag p (bF q)) (ag p q)=ah (ag (bF q) p) (ag q p):=by rw [u4 p (bF q),u4 p q]
 rw [h2,si]
theorem oV{h:List Rat}{m:Nat}(hl:h.length≤2*m+1)(hs:∀ k,k≤2*m→seq h k=seq h (2*m-k))(n:Nat):seq (ah (bF h) h) n=(((m:Nat):Int):Rat)*seq (ah h h) n:=by
 rw [cw (N:=2*m+1) (by rw [co];exact hl) hl,cw (N:=2*m+1) hl hl,←sm_mul];refine sm_congr fun k hk=>?_
 have key:2*(cc (2*m+1) (seq (bF h)) (seq h) k+cc (2*m+1) (seq h) (seq (bF h)) k)=4*(((m:Nat):Int):Rat)*cc (2*m+1) (seq h) (seq h) k:=by
  have over:∀ i,2*m<i→seq h i=0:=fun i hi=>aG (by omega)
  -- only the first places count
  have cut:∀ f:Nat→Rat,(∀ i,2*m<i+k→f i=0)→sm (2*m+1) f=sm (2*m+1-k) f:=fun f hf=>(bH (by omega) (fun i h1 _=>hf i (by omega))).symm
  unfold cc;rw [cut _ (fun i hi=>by rw [over (i+k) (by omega),nYa]),cut _ (fun i hi=>by rw [dU,over (i+k) (by omega)];grind),cut _ (fun i hi=>by rw [over (i+k) (by omega),nYa])];rw [←sm_add];have e1:sm (2*m+1-k) (fun i=>seq (bF h) i*seq h (i+k)+seq h i*seq (bF h) (i+k))=sm (2*m+1-k) (fun i=>((((2*i+k:Nat):Int):Rat))*(seq h i*seq h (i+k))):=sm_congr fun i _=>by
   rw [dU,dU,show ((((2*i+k:Nat):Int):Rat))=(((i:Nat):Int):Rat)+((((i+k:Nat):Int):Rat)) by rw [←Rat.intCast_add];congr 1;omega];grind
  have e2:sm (2*m+1-k) (fun i=>((((2*i+k:Nat):Int):Rat))*(seq h i*seq h (i+k)))=sm (2*m+1-k) (fun i=>(4*(((m:Nat):Int):Rat)-((((2*i+k:Nat):Int):Rat)))*(seq h i*seq h (i+k))):=by
   rw [mj];refine sm_congr fun i hi=>?_
   rw [hs (2*m+1-k-1-i) (by omega),hs (2*m+1-k-1-i+k) (by omega),show 2*m-(2*m+1-k-1-i)=i+k by omega,show 2*m-(2*m+1-k-1-i+k)=i by omega];rw [show ((((2*(2*m+1-k-1-i)+k:Nat):Int):Rat))=4*(((m:Nat):Int):Rat)-((((2*i+k:Nat):Int):Rat)) by
    rw [show (4:Rat)=((4:Int):Rat) from rfl,←Rat.intCast_mul,←Rat.intCast_sub];congr 1;omega]
   grind
  rw [e1];have e3:sm (2*m+1-k) (fun i=>((((2*i+k:Nat):Int):Rat))*(seq h i*seq h (i+k)))+sm (2*m+1-k) (fun i=>(4*(((m:Nat):Int):Rat)-((((2*i+k:Nat):Int):Rat)))*(seq h i*seq h (i+k)))=4*(((m:Nat):Int):Rat)*sm (2*m+1-k) (fun i=>seq h i*seq h (i+k)):=by
   rw [←sm_add,←sm_mul];exact sm_congr fun i _=>by grind
  grind
 unfold ce;by_cases h0:k=0
 ·rw [if_pos h0,if_pos h0];have:cc (2*m+1) (seq h) (seq (bF h)) k=cc (2*m+1) (seq (bF h)) (seq h) k:=by
   subst h0;unfold cc;exact sm_congr fun i _=>nYb ..
  grind
 ·rw [if_neg h0,if_neg h0];have:cc (2*m+1) (seq h) (seq (bF h)) k+cc (2*m+1) (seq (bF h)) (seq h) k=cc (2*m+1) (seq (bF h)) (seq h) k+cc (2*m+1) (seq h) (seq (bF h)) k:=Rat.add_comm ..;grind
end Go.Proofs.YtohahgiidooijaaGreat
