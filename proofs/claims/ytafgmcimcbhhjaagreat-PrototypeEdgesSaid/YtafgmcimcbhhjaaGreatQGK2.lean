/- Powers and binomial coefficients. -/
import Derived.Test.YtafgmcimcbhhjaaGreatQGK1
set_option linter.unusedVariables false
set_option maxRecDepth 8000
set_option maxHeartbeats 2000000
namespace Go.Proofs.YtafgmcimcbhhjaaGreat
open Go.RowKit Go.Front Go.Num
attribute [local go_sem] XW.cell XW.frozen
theorem vz{v K m:Nat}(hv:v<W32 ^ K)(hm:m≤64)(hK:1≤K):(digs (v ^ m)).length≤64*K:=by
 apply bF;rcases Nat.eq_zero_or_pos m with h0|h0
 ·subst h0;rw [Nat.pow_zero];exact nXm (by decide:1<2) (gw (by omega))
 ·have h1:v ^ m<(W32 ^ K) ^ m:=Nat.pow_lt_pow_left hv (by omega);rw [←Nat.pow_mul] at h1;exact nXm h1 (nXo aB (by rw [nYc 64];exact nXf _ hm))
theorem uR{w:World}{L:Nat}{T:TypeId}(h:w.heap[L]?=some (.cells #[.int .u32 1] T (0,0))):U32 w (some ⟨L,0,none⟩) 1 1 (digs 1):=by
 rw [iO];refine ⟨rfl,nXd _,by decide,fun d hd=>?_,Or.inr ⟨L,0,rfl,fun k hk=>?_⟩⟩
 ·obtain rfl:d=1:=by simpa using hd
  decide
 ·obtain rfl:k=0:=by omega
  rw [ab h];rfl
theorem sA(ao:Option Addr)(n cap v K N:Nat)(w:World)(h:U32 w ao n cap (digs v))(hv:v<W32 ^ K)(hK:1≤K)(hK2:K≤1048576)(hN:N≤64) :
  Calls Tryz.prog 226 #[.slice ao n cap,.int .i64 (N:Nat)] w (gC (digs (v ^ N)) w):=by
 have H:=Hi h;have HX:=Hi (Ext.refl w);have HL:Hid (∀ m,m≤64→(digs (v ^ m)).length≤67108864):=Hi (fun m hm=>nXe (vz hv hm hK) (by omega));clear h;go_enter Tryz.func226,Tryz.ntmps226
 go_upto_region 2 with fail
 refine nmA ?_;intro w1 hE B1 hz_w1 hr_w1;replace HX:=hE.tr HX;have hs_w1:=hE.size;clear hE;replace b_B1:=bX3 B1;have HA:Hid (U32 w1 ao n cap (digs (v ^ 1))):=Hi (by rw [Nat.pow_one];exact H.out.ext HX.out);have HR:Hid (U32 w1 (some ⟨w.heap.size,0,none⟩) 1 1 (digs (v ^ 0))):=Hi (by rw [Nat.pow_zero];exact uR B1.out)
 go_loopg [0,1,5] N (fun g a z r wr=>∃ (m j:Nat) (s t:SH),a=s.v∧z=.int .i64 (g:Nat)∧r=t.v∧1≤m∧j+m*g=N∧Ext w wr∧(m≤64∨g=0)∧U32 wr s.a s.n s.c (digs (v ^ m))∧U32 wr t.a t.n t.c (digs (v ^ j)))
 case atStart=>exact ⟨1,0,⟨ao,n,cap⟩,⟨some ⟨w.heap.size,0,none⟩,1,1⟩,rfl,rfl,rfl,by decide,by omega,HX.out,Or.inl (by decide),HA.out,HR.out⟩
 case round =>
  obtain ⟨m,j,⟨sa,sn,sc⟩,⟨ta,tn,tc⟩,rfl,rfl,rfl,hm1,hj,g1,hm,g2,g3⟩:=hrel;clear HX HA HR;have HX:=Hi g1;have HA:=Hi g2;have HR:=Hi g3;simp only at g2 g3;clear g1 g2 g3;simp only [SH.v];simp only at HA HR;by_cases h0:gk=0
  case pos =>
   subst h0;have HE:Hid (v ^ j=v ^ N):=Hi (by rw [←hj,Nat.mul_zero,Nat.add_zero]);rw [HE.out] at HR;clear hj hm;go_wp2
   go_ret
   exact ⟨ta,tn,tc,rfl,HR.out,HX.out⟩
  have hm64:m≤64:=by omega
  have hgi:(0:Int)<gk:=by omega
  have hmg:m≤m*gk:=Nat.le_mul_of_pos_right m (by omega);have hj64:j≤64:=by omega
  have hsl:sn≤67108864:=by have h1:=HA.out.len;have h2:=HL.out m hm64;rw [h1] at h2;exact h2
  have htl:tn≤67108864:=by have h1:=HR.out.len;have h2:=HL.out j hj64;rw [h1] at h2;exact h2
  obtain ⟨g2,hg2⟩:∃ g2,g2=gk / 2:=⟨_,rfl⟩;have hdI:(gk:Int).tdiv 2=g2:=by have h2:(gk:Int).tdiv 2=((gk / 2:Nat):Int):=rfl;omega
  have hdJ:(gk:Int) / 2=g2:=by omega
  have hlt:g2<gk:=by omega
  have hgk:gk≤64:=by have:=Nat.le_mul_of_pos_left gk hm1;omega
  have hg64:(g2:Int)≤64:=by omega
  have HSq:Hid (val (digs (v ^ m))*val (digs (v ^ m))=v ^ (2*m)):=Hi (by rw [af,←Nat.pow_add,Nat.two_mul]);have HMu:Hid (val (digs (v ^ j))*val (digs (v ^ m))=v ^ (j+m)):=Hi (by rw [af,af,←Nat.pow_add]);rcases Nat.mod_two_eq_zero_or_one gk with hpar|hpar
  ·have hmI:(gk:Int).tmod 2=0:=by have h2:(gk:Int).tmod 2=((gk % 2:Nat):Int):=rfl;omega
   have hmJ:(gk:Int) % 2=0:=by omega
   have hg:gk=2*g2:=by omega
   have hg2p:(0:Int)<g2:=by omega
   have hjn:j+2*m*g2=N:=by rw [←hj,hg,nYc 2 m,Nat.mul_assoc]
   have hm2:2*m≤64∨g2=0:=by
    left
    have:=Nat.le_mul_of_pos_right (2*m) (show 0<g2 by omega);omega
   clear hj hm hmg hpar hg2 hg
   go_wp2_with fail
   refine Calls.mono (lU sa sa sn sc sn sc _ _ _ HA.out HA.out (by omega) (by omega)) ?_;rintro e w3 ⟨a3,n3,c3,rfl,hU,hE⟩;rw [HSq.out] at hU;have HU:=Hi hU;clear hU;refine mV3 hE ?_ HX HA HR;clear HX HA HR;intro HX HA HR;have hs_w3:=hE.size;clear hE;clear hdI hdJ hmI hmJ;go_wp2
   go_roundg g2
   case measure=>omega
   case rel=>exact ⟨2*m,j,⟨a3,n3,c3⟩,⟨ta,tn,tc⟩,rfl,by go_num,rfl,by omega,hjn,HX.out,hm2,HU.out,HR.out⟩
  ·have hmI:(gk:Int).tmod 2=1:=by have h2:(gk:Int).tmod 2=((gk % 2:Nat):Int):=rfl;omega
   have hmJ:(gk:Int) % 2=1:=by omega
   have hg:gk=2*g2+1:=by omega
   have hjn:j+m+2*m*g2=N:=by rw [←hj,hg,Nat.mul_add,Nat.mul_one,nYc 2 m,Nat.mul_assoc];omega
   have hm2:2*m≤64∨g2=0:=by
    rcases Nat.eq_zero_or_pos g2 with h1|h1
    ·exact Or.inr h1
    ·left
     have:=Nat.le_mul_of_pos_right (2*m) h1;omega
   have hjm:j+m≤64:=by omega
   clear hj hm hmg hpar hg2 hg
   go_wp2_with fail
   refine Calls.mono (lU ta sa tn tc sn sc _ _ _ HR.out HA.out (by omega) (by omega)) ?_;rintro e w3 ⟨a3,n3,c3,rfl,hU,hE⟩;rw [HMu.out] at hU;have HU:=Hi hU;clear hU;refine mV3 hE ?_ HX HA HR;clear HX HA HR;intro HX HA HR;have hs_w3:=hE.size;clear hE;by_cases hg0:g2=0
   case pos =>
    subst hg0;have hjn2:j+m+m*0=N:=by rw [Nat.mul_zero] at hjn ⊢;exact hjn
    go_wp2
    go_roundg 0
    case measure=>omega
    case rel=>exact ⟨m,j+m,⟨sa,sn,sc⟩,⟨a3,n3,c3⟩,rfl,rfl,rfl,hm1,hjn2,HX.out,Or.inr rfl,HA.out,HU.out⟩
   have hg2p:(0:Int)<g2:=by omega
   go_wp2_with fail
   refine Calls.mono (lU sa sa sn sc sn sc _ _ _ HA.out HA.out (by omega) (by omega)) ?_;rintro e w4 ⟨a4,n4,c4,rfl,hU,hE⟩;rw [HSq.out] at hU;have HU4:=Hi hU;clear hU;refine mV4 hE ?_ HU HX HA HR;clear HU HX HA HR;intro HU HX HA HR;have hs_w4:=hE.size;clear hE;clear hdI hdJ hmI hmJ;go_wp2
   go_roundg g2
   case measure=>omega
   case rel=>exact ⟨2*m,j+m,⟨a4,n4,c4⟩,⟨a3,n3,c3⟩,rfl,by go_num,rfl,by omega,hjn,HX.out,hm2,HU4.out,HU.out⟩
theorem pu(ao:Option Addr)(n cap v K N:Nat)(w:World)(h:U32 w ao n cap (digs v))(hv:v<W32 ^ K)(hK:1≤K)(hK2:K≤1048576)(hN:N≤64) :
  aq 214 [.slice ao n cap,.int .i64 (N:Nat)] w RF (fun x w'=>x.2=0∧x.1.U w' (digs (v ^ N))):=by
 have H:=Hi h;have HX:=Hi (Ext.refl w);have h1:¬ (N:Int)<0:=by omega
 have h2:¬ (64:Int)<N:=by omega
 clear h;unfold aq;go_enter Tryz.func214,Tryz.ntmps214
 go_wp2_with fail
 refine Calls.mono (sA ao n cap v K N _ H.out hv hK hK2 hN) ?_;rintro e w3 ⟨a3,n3,c3,rfl,hU,hE⟩;have HU:=Hi hU;clear hU;replace HX:=hE.tr HX;have hs_w3:=hE.size;clear hE;go_wp2;exact bodyPost_ret (v:=RF (⟨a3,n3,c3⟩,0)) (by simp [results,Tryz.results214,go_sem,RF]) rfl ⟨(⟨a3,n3,c3⟩,0),rfl,HX.out,rfl,HU.out⟩
theorem vw(n N:Nat):(-(n:Int)) ^ N=if N % 2=1 then -((n ^ N:Nat):Int) else ((n ^ N:Nat):Int):=by
 induction N with
 | zero=>simp
 | succ N ih =>
  rw [Int.pow_succ,ih,nXs];by_cases h:N % 2=1
  ·rw [if_pos h,if_neg (by omega),Int.neg_mul_neg,Int.natCast_mul]
  ·rw [if_neg h,if_pos (by omega),Int.mul_neg,Int.natCast_mul]
theorem yy(z:Int)(N:Nat):decide (z ^ N<0)=(decide (z<0) && decide (N % 2=1)):=by
 rcases Int.lt_or_le z 0 with h|h
 ·obtain ⟨n,rfl⟩:∃ n:Nat,z=-(n:Int):=⟨z.natAbs,by omega⟩;have hn:0<n:=by omega
  have hp:0<n ^ N:=nYk hn;rw [vw,decide_eq_true h,Bool.true_and];apply decide_eq_decide.2;split
  ·rename_i h1
   exact ⟨fun _=>h1,fun _=>by omega⟩
  ·rename_i h1
   exact ⟨fun h2=>by omega,fun h2=>absurd h2 h1⟩
 ·obtain ⟨n,rfl⟩:∃ n:Nat,z=(n:Int):=⟨z.natAbs,by omega⟩;rw [decide_eq_false (show ¬ ((n:Int)<0) by omega),Bool.false_and,←Int.natCast_pow];exact decide_eq_false (by omega)
theorem vi(t:RH)(q:Rat)(K N:Nat)(w:World)(h:aY w t q)(hz:Sz K q)(hK:1≤K)(hK2:K≤1048576)(hN:N≤64) :
  aq 197 [t.v,.int .i64 (N:Nat)] w (fun x:RH=>DV x 0) (fun x w'=>aw w' x (q ^ N)):=by
 obtain ⟨tneg,ta,tn,tc,tb,tm,td⟩:=t;have H:=Hi h;have HX:=Hi (Ext.refl w);have Hz:=Hi hz;have h1:¬ (N:Int)<0:=by omega
 have h2:¬ (64:Int)<N:=by omega
 clear h hz;unfold aq;go_enter Tryz.func197,Tryz.ntmps197
 go_upto_region 1 with fail
 refine ji ?_;intro w1 hE B2 B4 hz_w1 hr_w1;replace HX:=hE.tr HX;have hs_w1:=hE.size;clear hE;replace b_B2:=bX3 B2;replace b_B4:=bX3 B4
 go_wp2_with fail
 refine cM (cf ⟨tneg,ta,tn,tc,tb,tm,td⟩ q _ (H.out.ext HX.out)) fun x2 w2 hE G2=>?_
 refine mV3 hE ?_ B2 B4 HX;clear B2 B4 HX;intro B2 B4 HX;have hs_w2:=hE.size;clear hE;replace b_B2:=bX3 B2;replace b_B4:=bX3 B4;obtain ⟨xn,xa,xl,xc,xb,xm,xd⟩:=x2
 go_upto_region 4 with fail
 refine nmA ?_;intro y3 hE B6 hz_y3 hr_y3;refine mV4 hE ?_ G2 B2 B4 HX;clear G2 B2 B4 HX;intro G2 B2 B4 HX;have hs_y3:=hE.size;clear hE;replace b_B2:=bX3 B2;replace b_B4:=bX3 B4;replace b_B6:=bX3 B6;have U1:Hid (U32 y3 xa xl xc (digs q.num.natAbs)):=Hi G2.out.2.1;have U2:Hid (U32 y3 xb xm xd (digs q.den)):=Hi G2.out.2.2;have HN:Hid (xn=decide (q.num<0)):=Hi G2.out.1;clear G2
 go_wp2_with fail
 refine cM (pu xa xl xc q.num.natAbs K N _ U1.out Hz.out.1 hK hK2 hN) fun x5 w5 hE G5=>?_
 refine mV6 hE ?_ B6 B2 B4 HX U1 U2;clear B6 B2 B4 HX U1 U2;intro B6 B2 B4 HX U1 U2;have hs_w5:=hE.size;clear hE;replace b_B2:=bX3 B2;replace b_B4:=bX3 B4;replace b_B6:=bX3 B6;obtain ⟨⟨a5,n5,c5⟩,e5⟩:=x5;obtain ⟨he5,hu5⟩:=G5.out;simp only at he5 hu5;subst he5;have U5:=Hi hu5;clear hu5 G5;simp only [RF,SH.v]
 go_wp2_with fail
 refine cM (pu xb xm xd q.den K N _ U2.out Hz.out.2 hK hK2 hN) fun x6 w6 hE G6=>?_
 refine mV7 hE ?_ B6 B2 B4 HX U1 U2 U5;clear B6 B2 B4 HX U1 U2 U5;intro B6 B2 B4 HX U1 U2 U5;have hs_w6:=hE.size;clear hE;replace b_B2:=bX3 B2;replace b_B4:=bX3 B4;replace b_B6:=bX3 B6;obtain ⟨⟨a6,n6,c6⟩,e6⟩:=x6;obtain ⟨he6,hu6⟩:=G6.out;simp only at he6 hu6;subst he6;have U6:=Hi hu6;clear hu6 G6;simp only [RF,SH.v];have hmI:(N:Int).tmod 2=((N % 2:Nat):Int):=rfl;have hmJ:(N:Int) % 2=((N % 2:Nat):Int):=by omega
 have HS:Hid ((xn && decide (N % 2=1))=decide ((q ^ N).num<0)):=Hi (by rw [HN.out,Rat.num_pow,yy]);have HD:Hid (digs (q ^ N).num.natAbs=digs (q.num.natAbs ^ N)):=Hi (by rw [Rat.num_pow,Int.natAbs_pow]);have HD2:Hid (digs (q ^ N).den=digs (q.den ^ N)):=Hi (by rw [Rat.den_pow]);clear HN;have hbx:(((N % 2:Nat):Int) == 1)=decide (N % 2=1):=by
  by_cases h:N % 2=1
  ·rw [h];rfl
  ·rw [decide_eq_false h,nXr];omega
 obtain ⟨r,hr⟩:∃ r,r=N % 2:=⟨_,rfl⟩;rw [←hr] at hmI hmJ HS hbx;clear hr;cases xn
 case false =>
  have HC:Hid (aw w6 ⟨false,a5,n5,c5,a6,n6,c6⟩ (q ^ N)):=Hi ⟨by rw [←HS.out];rfl,by rw [HD.out];exact U5.out,by rw [HD2.out];exact U6.out⟩;go_wp2;have hF:=(((Fin.start (L:=w.heap.size+1) HX.out (ai B4.out rfl)).set (by omega) (i:=0) (v:=.bool false) rfl).set (by omega) (i:=1) (v:=.slice a5 n5 c5) rfl).set (by omega) (i:=2) (v:=.slice a6 n6 c6) rfl;exact bodyPost_ret (v:=DV ⟨false,a5,n5,c5,a6,n6,c6⟩ 0) (by simp [results,Tryz.results197,go_sem,ab B4.out,DV]) rfl ⟨⟨false,a5,n5,c5,a6,n6,c6⟩,rfl,hF.ext,HC.out.keep hF.keep⟩
 case true =>
  by_cases hr1:r=1
  case pos =>
   subst hr1;have HC:Hid (aw w6 ⟨true,a5,n5,c5,a6,n6,c6⟩ (q ^ N)):=Hi ⟨by rw [←HS.out];rfl,by rw [HD.out];exact U5.out,by rw [HD2.out];exact U6.out⟩;go_wp2;have hF:=(((Fin.start (L:=w.heap.size+1) HX.out (ai B4.out rfl)).set (by omega) (i:=0) (v:=.bool true) rfl).set (by omega) (i:=1) (v:=.slice a5 n5 c5) rfl).set (by omega) (i:=2) (v:=.slice a6 n6 c6) rfl;exact bodyPost_ret (v:=DV ⟨true,a5,n5,c5,a6,n6,c6⟩ 0) (by simp [results,Tryz.results197,go_sem,ab B4.out,DV]) rfl ⟨⟨true,a5,n5,c5,a6,n6,c6⟩,rfl,hF.ext,HC.out.keep hF.keep⟩
  case neg =>
   have hbf:((r:Int) == 1)=false:=by rw [hbx];exact decide_eq_false hr1
   have HC:Hid (aw w6 ⟨false,a5,n5,c5,a6,n6,c6⟩ (q ^ N)):=Hi ⟨by rw [←HS.out,decide_eq_false hr1];rfl,by rw [HD.out];exact U5.out,by rw [HD2.out];exact U6.out⟩;go_wp2;have hF:=(((Fin.start (L:=w.heap.size+1) HX.out (ai B4.out rfl)).set (by omega) (i:=0) (v:=.bool false) rfl).set (by omega) (i:=1) (v:=.slice a5 n5 c5) rfl).set (by omega) (i:=2) (v:=.slice a6 n6 c6) rfl;exact bodyPost_ret (v:=DV ⟨false,a5,n5,c5,a6,n6,c6⟩ 0) (by simp [results,Tryz.results197,go_sem,ab B4.out,DV]) rfl ⟨⟨false,a5,n5,c5,a6,n6,c6⟩,rfl,hF.ext,HC.out.keep hF.keep⟩
theorem dX{qs:List Rat}{i:Nat}(h:qs.length≤i):qs.getD i 0=0:=by
 rw [nXc,List.getElem?_eq_none h];rfl
theorem bU(g:Nat→Rat)(j:Nat):(List.range (j+1)).map g=(List.range j).map g++[g j]:=by rw [List.range_succ,List.map_append];rfl
def bg(ps qs:List Rat):List Rat:=tz ((List.range (max ps.length qs.length)).map (fun i=>ps.getD i 0+qs.getD i 0))
def pmS(p q:List Rat)(i k n:Nat):Rat:=Stab.sm i (fun i'=>p.getD i' 0*Stab.shn i' (Stab.seq q) n)+if i≤n∧n<i+k then p.getD i 0*q.getD (n-i) 0 else 0
theorem vB(p q:List Rat)(n:Nat):pmS p q 0 0 n=0:=by
 unfold pmS;rw [if_neg (by omega)];show (0:Rat)+0=0;grind
theorem vD(p q:List Rat)(i k:Nat):pmS p q i (k+1) (i+k)=pmS p q i k (i+k)+p.getD i 0*q.getD k 0:=by
 unfold pmS;rw [if_pos (by omega),if_neg (by omega),show i+k-i=k by omega];grind
theorem vE{p q:List Rat}{i k n:Nat}(h:n≠i+k):pmS p q i (k+1) n=pmS p q i k n:=by
 unfold pmS;by_cases h1:i≤n∧n<i+k
 ·rw [if_pos h1,if_pos (by omega)]
 ·rw [if_neg h1,if_neg (by omega)]
theorem vC{p q:List Rat}{i k:Nat}(hk:q.length=k)(n:Nat):pmS p q (i+1) 0 n=pmS p q i k n:=by
 unfold pmS;rw [if_neg (by omega)];simp only [Stab.sm];have e:Stab.shn i (Stab.seq q) n=if i≤n∧n<i+k then q.getD (n-i) 0 else 0:=by
  unfold Stab.shn Stab.seq;by_cases h1:i≤n
  ·rw [if_pos h1];by_cases h2:n<i+k
   ·rw [if_pos ⟨h1,h2⟩]
   ·rw [if_neg (by omega),dX (by omega)]
  ·rw [if_neg h1,if_neg (by omega)]
 rw [e];split <;> grind
theorem yB(p q:List Rat)(n:Nat):pmS p q p.length 0 n=Stab.ap p (Stab.seq q) n:=by
 unfold pmS;rw [if_neg (by omega),Stab.ap_sum];grind
def xX(w:World)(L:Nat)(os:List Rat)(b:Nat):Prop:=∃ rs,RBk w L rs #[]∧fu aY w rs os∧SzL b os
theorem xX.ext{w w':World}{L b:Nat}{os:List Rat}(h:xX w L os b)(he:Ext w w'):xX w' L os b:=let ⟨rs,h1,h2,h3⟩:=h;⟨rs,h1.ext he,h2.raw_ext he,h3⟩
instance {w w':World} {L b:Nat} {os:List Rat}:Go.Front.Mv w w' (xX w L os b) (xX w' L os b):=⟨fun e h=>xX.ext h e⟩

theorem fu.rawkeep{w w':World}{rs:List RH}{qs:List Rat}(h:fu aY w rs qs)(he:gS w w'):fu aY w' rs qs:=⟨h.1,fun k hk=>(h.2 k hk).keep he⟩
theorem fu.set{P:World→RH→Rat→Prop}{w:World}{rs:List RH}{qs:List Rat}(h:fu P w rs qs){r:RH}{q:Rat}(hr:P w r q)(k:Nat):fu P w (rs.set k r) (qs.set k q):=by
 refine ⟨by simp [h.1],fun j hj=>?_⟩;simp only [nXn] at hj;by_cases hjk:k=j
 ·subst hjk;rw [show (rs.set k r).getD k default=r by simp [show k<rs.length by rw [h.1];exact hj],show (qs.set k q).getD k 0=q by simp [hj]];exact hr
 ·rw [show (rs.set k r).getD j default=rs.getD j default by rw [nXc,nXc,List.getElem?_set_ne hjk],show (qs.set k q).getD j 0=qs.getD j 0 by rw [nXc,nXc,List.getElem?_set_ne hjk]];exact h.2 j hj
def ar(ps qs:List Rat):List Rat:=tz ((List.range ((tz ps).length+(tz qs).length-1)).map (Stab.ap (tz ps) (Stab.seq (tz qs))))
theorem uS{l:List Rat}(h:∀ x ∈ l,x=0):tz l=[]:=by
 induction l using Stab.snoc_ind with
 | h0=>rfl
 | h1 l r ih =>
  obtain rfl:r=0:=h r (by simp);rw [ey];exact ih (fun x hx=>h x (by simp [hx]))
theorem BU(n:Nat)(p:List Rat):Stab.ap p (Stab.seq []) n=0:=by
 rw [Stab.ap_sum,Stab.sm_congr (g:=fun _=>0) (fun i _=>?_),Stab.sm_zero];have:Stab.shn i (Stab.seq []) n=0:=by unfold Stab.shn Stab.seq;split <;> rfl
 rw [this];grind
theorem vT{ps qs:List Rat}(h:tz ps=[]∨tz qs=[]):ar ps qs=[]:=by
 unfold ar;apply uS;intro x hx;obtain ⟨n,-,rfl⟩:=nYd.1 hx;rcases h with h|h
 ·rw [h];rfl
 ·rw [h];exact BU n _
theorem Cq{os:List Rat}{M:Nat}{f:Nat→Rat}(hl:os.length=M)(h:∀ n,n<M→os.getD n 0=f n):os=(List.range M).map f:=by
 apply Stab.getD_ext
 ·simp [hl]
 ·intro i hi;rw [hl] at hi;rw [h i hi];simp [hi]
theorem u9{p q os:List Rat}{M i k:Nat}(hl:os.length=M)(h:∀ n,n<M→os.getD n 0=pmS p q i k n)(hj:i+k<M):∀ n,n<M→(os.set (i+k) (os.getD (i+k) 0+p.getD i 0*q.getD k 0)).getD n 0=pmS p q i (k+1) n:=by
 intro n hn;by_cases he:n=i+k
 ·subst he;rw [show (os.set (i+k) (os.getD (i+k) 0+p.getD i 0*q.getD k 0)).getD (i+k) 0=os.getD (i+k) 0+p.getD i 0*q.getD k 0 by simp [hl,hj],h _ hn,vD]
 ·rw [show (os.set (i+k) (os.getD (i+k) 0+p.getD i 0*q.getD k 0)).getD n 0=os.getD n 0 by rw [nXc,List.getElem?_set_ne (Ne.symm he),←nXc],h _ hn,vE he]
end Go.Proofs.YtafgmcimcbhhjaaGreat
namespace Go.Proofs.YtafgmcimcbhhjaaGreat
open Go.RowKit Go.Front Go.Num
theorem Ad{p q:List Rat}{n:Nat}(h:p.length+q.length≤n+1):Stab.ap p (Stab.seq q) n=0:=by
 rw [Stab.ap_sum,Stab.sm_congr (g:=fun _=>0) (fun i hi=>?_),Stab.sm_zero];have:Stab.shn i (Stab.seq q) n=0:=by
  unfold Stab.shn Stab.seq;split
  ·exact dX (by omega)
  ·rfl
 rw [this];grind
theorem vS(ps qs:List Rat):Stab.seq (ar ps qs)=Stab.ap (tz ps) (Stab.seq (tz qs)):=by
 funext n
 unfold Stab.seq ar;rw [bj];rcases Nat.lt_or_ge n ((tz ps).length+(tz qs).length-1) with h|h
 ·rw [nXc,nXu,List.getElem?_range h];rfl
 ·rw [dX (by simpa using h)];exact (Ad (by omega)).symm
end Go.Proofs.YtafgmcimcbhhjaaGreat
