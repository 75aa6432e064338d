import Derived.Test.YtafgmcimcbhhjaaGreatQFK11
set_option linter.unusedVariables false
set_option maxHeartbeats 8000000
set_option maxRecDepth 8000
namespace Go.Proofs.YtafgmcimcbhhjaaGreat
open Go.RowKit Go.Front Go.Num Stab Sg
attribute [local go_sem] XW.cell XW.frozen
theorem vN(l:List Rat)(j:Nat):(List.range (j+1)).map (pX l)=(List.range j).map (pX l)++[l.getD (j+1) 0*(((j+1:Nat):Int):Rat)]:=k8 (pX l) j
theorem nG(ao:Option Addr)(n cap:Nat)(l:List Rat)(w:World)(h:bB w ⟨ao,n,cap⟩ l)(hn:n≤1000000)(hz:SzL 8388608 l) :
  ar 53 [.slice ao n cap] w SH.v (fun s w'=>fh w.heap.size w' s (tz (derL l))):=by
 have HX:=Hi (Ext.refl w);have LA:=Hi h.lin;have Hlen:=Hi h.len;simp only at Hlen;have HZ:=Hi hz;clear h hz;unfold ar;go_enter Tryz.func53,Tryz.ntmps53;go_wp2
 go_loopg [3,4] (n-1) (fun g v i wr=>∃ (j:Nat) (s:SH),v=s.v∧j+g=n-1∧i=.int .i64 ((j:Int)+1)∧Ext w wr∧dJ wr (w.heap.size≤·) s.v ((List.range j).map (pX l)))
 case atStart=>exact ⟨0,⟨none,0,0⟩,rfl,zo,rfl,HX.out,dJ.nil _ _⟩
 case round =>
  obtain ⟨j,⟨sa,sn,sc⟩,rfl,hj,rfl,g1,g4⟩:=hrel;clear HX;have HX:=Hi g1;have HO:=Hi g4;have LA2:=Hi (LA.out.ext g1);have hsz:=g1.size;clear g1 g4;simp only [SH.v];have HLj:Hid (((List.range j).map (pX l)).length=j):=Hi (by simp);by_cases h0:gk=0
  case pos =>
   subst h0;have hin:¬ (j:Int)+1<n:=zo;have hsn:=dJ.len (s:=⟨sa,sn,sc⟩) HO.out;rw [HLj.out] at hsn;simp only at hsn;subst hsn;have HSz:Hid (SzL 16777216 ((List.range j).map (pX l))):=Hi (by
    intro q hq;obtain ⟨k,hk,rfl⟩:=nYf.1 hq;have hk:=List.mem_range.1 hk;have h1:Sz 8388608 (l.getD (k+1) 0):=HZ.out.at (by rw [Hlen.out];omega);exact (h1.mul (Sz.int (z:=((k+1:Nat):Int)) (by rw [nYh];show _<4294967296;omega))).mono dZ)
   have HV:Hid (tz ((List.range j).map (pX l))=tz (derL l)):=Hi (by
    by_cases h1:n=0
    ·have hl:l=[]:=nXj.1 (by rw [Hlen.out];exact h1);have hj0:j=0:=by omega
     rw [hl,hj0];rfl
    ·exact rJ l (by rw [Hlen.out];omega))
   go_wp2_with fail
   refine cM (bH sa j sc _ _ ((dJ.can (s:=⟨sa,j,sc⟩) HO.out).raw HSz.out dZ) zo) fun x22 w22 hE G22=>?_
   refine mV3 hE ?_ HX HO LA2;clear HX HO LA2;intro HX HO LA2;have hs_w22:=hE.size;go_wp2
   go_ret
   exact ⟨x22,rfl,HX.out,by rw [←HV.out];exact G22.out.mono hsz⟩
  have hjn:(j:Int)+1<n:=zo;have hjn2:j+1<n:=zo;have HJI:Hid ((j:Int)+1=((j+1:Nat):Int)):=Hi zo;obtain ⟨b,off,r,hao,hbl,⟨hc1,hc2,hc3⟩,hP⟩:=LA2.out.celx (k:=j+1) hjn2;obtain ⟨rneg,ra,rn,rc,rb,rm,rd⟩:=r;simp only at hc1 hc2 hc3;subst hao;have RP:=Hi hP;clear hP;have ZP:Hid (Sz 8388608 (l.getD (j+1) 0)):=Hi (HZ.out.at (by rw [Hlen.out];exact hjn2));have HNx:=Hi (vN l j)
  go_upto_region 5 with fail
  refine wpG 9 (fun opIx=>match opIx with
   | 6=>sR ((((j+1:Nat):Int):Rat))
   | 7=>sR (l.getD (j+1) 0*(((j+1:Nat):Int):Rat))
   | 8=>.spec (Nat×RH) ((0,default)) (fun p=>.slice (some ⟨p.1,0,none⟩) 1 1) (fun p w'=>j6 w' p (l.getD (j+1) 0*(((j+1:Nat):Int):Rat)))
   | _=>.quiet) (fun|7=>[6]|8=>[7]|_=>[]) fun w0 he0 hz0 hc0 hf0=>?_
  refine wps he0 (fun w1 hW hG=>?_) fun x30=>?_
  ·exact spc [.int .i64 ((j:Int)+1)] Tryz.func36 ((by rw [HJI.out];exact aO ((j+1:Nat):Int) _ zo zo))
  refine qZ ?_;refine wps he0 (fun w1 hW hG=>?_) fun x31=>?_
  ·have g30:=gS (hG 6 dZ);exact spc [RH.v ⟨rneg,ra,rn,rc,rb,rm,rd⟩,x30.v] Tryz.func48 (ep _ x30 _ _ _ ((RP.out.ext hW).raw ZP.out dZ) (g30.raw (Sz.int (by rw [nYh];show _<4294967296;omega)) dZ))
  refine qZ ?_;refine wps he0 (fun w1 hW hG=>?_) fun x32=>?_
  ·have g31:=gS (hG 7 dZ);exact se x31 _ g31 rfl (by simp [execOp,go_sem])
  refine qZ ?_;refine am ?_;intro w5 hI;have hE:=he0.out.trans hI.ext;have G30:=gT (hI.facts 6);have G31:=gT (hI.facts 7);have G32:=gT (hI.facts 8);clear hI he0 hz0 hc0 hf0;refine mV4 hE ?_ HX HO LA2 RP;clear HX HO LA2 RP;intro HX HO LA2 RP;have hs_w5:=hE.size;simp only [pD];clear hc1 hc2 hc3
  go_upto_region 4 with (at_builtin;refine f7 rfl (.tmp 11) (.tmp 19) 24 Tryz.underlying24 rfl (w.heap.size≤·) _ _ x32.2 _ x32.1 rfl HO.out rfl G32.out.1 G32.out.2 (by rw [HLj.out];omega) (fun k hk=>by omega) ?_;intro s' y3 q1 q2 q3)
  have HX3:=Hi (Ext.mods HX.out q2 (fun k h=>h));have HO3:Hid (dJ y3 (w.heap.size≤·) s'.v ((List.range (j+1)).map (pX l))):=Hi (by rw [HNx.out];exact q1);clear q1 q2 q3;go_wp2
  go_roundg (gk-1)
  case measure=>omega
  case rel=>exact ⟨j+1,s',rfl,zo,by go_num,HX3.out,HO3.out⟩
theorem yk:∀ (f:Nat) (p q:List Rat),bq p=p→bq q=q→bq (oI f p q)=oI f p q:=by
 intro f;induction f with
 | zero=>intro p q h _;exact h
 | succ f ih =>
  intro p q h k;by_cases h0:q=[]
  ·subst h0;rw [ia];exact h
  ·rw [gJ h0];exact ih q _ k (kr _)
theorem jn(p q:List Rat):bq (aM p q)=aM p q:=yk _ _ _ (kr p) (kr q)
theorem hZ(p q:List Rat):aM p (tz q)=aM p q:=by
 have h:bq (tz q)=bq q:=Pr.mon ⟨1,dZ,fun n=>by rw [aT,Rat.one_mul]⟩;unfold aM;rw [aC,h]
theorem iu{p:List Rat}(h:tz p≠[]):tz (aM p (derL p))≠[]:=zz h (rF (dr p (derL p)))
theorem j1(p:List Rat):Dv (evV (aM p (derL p))) (evV p):=(dr p (derL p)).1
theorem Cl{p:List Rat}{i:Nat}(h:seq p i≠0):i<p.length:=Classical.byContradiction fun hn=>h (bg zo)
theorem ze{p:List Rat}(h:tz p≠[]){T U:Nat}(hp:SzL T p)(hs:SzL U (sqfV p)):SzL (U+T) (bE p (aM p (derL p))):=by
 have hg0:=iu h;have he:=jf hg0 (j1 p);have ht:tz (bE p (aM p (derL p)))=bE p (aM p (derL p)):=(cd p hg0).2.2.1;have hsv:sqfV p=bq (bE p (aM p (derL p))):=rfl;have hgm:=jn p (derL p);generalize bE p (aM p (derL p))=q at *
 generalize aM p (derL p)=g at *
 have hq0:tz q≠[]:=fun h0=>by
  obtain ⟨y,hy⟩:=iC h;exact hy (by rw [he,av.1 h0 y];grind)
 obtain ⟨m,hm,hm0⟩:=dT hq0;obtain ⟨k,hk,hk0⟩:=dT hg0;have hgl:seq g k=1:=by
  have h1:=ri hg0;rw [hgm] at h1;unfold aK at h1;rw [hk,bj] at h1;exact h1
 have hlead:aK (tz q)=seq q m:=by
  unfold aK;rw [hm,bj];rfl
 have hsp:seq p (m+k)=seq q m:=by
  have h1:=gK (p:=p) (q:=aI q g) (fun x=>by rw [aU,he x];grind) (m+k);rw [h1,dQ,iJ];have b1:Bd (m+1) (seq q):=by rw [←aT,←hm];exact Bd.seq _
  have b2:Bd (k+1) (seq g):=by rw [←aT,←hk];exact Bd.seq _
  rw [oR b1 b2,hgl,Rat.mul_one]
 have hz:Sz T (seq p (m+k)):=hp.at (Cl (by rw [hsp];exact hm0));rw [hsv,jM hq0,hlead,ht] at hs;intro x hx;have h2:=hs _ (nYf.2 ⟨x,hx,rfl⟩);have h3:=h2.mul hz;rw [hsp] at h3;have h4:x*(((1:Int):Rat) / seq q m)*seq q m=x:=by rw [nYd,aA hm0];exact Rat.mul_one x
 rw [h4] at h3;exact h3
theorem nD(p q:List Rat):tz (aM p q)=aM p q:=by
 have h:=et (aM p q);rw [jn] at h;exact h
theorem nC{p:List Rat}(h:tz p≠[]):(aM p (derL p)).length≤p.length:=by
 have h1:=eE (j1 p) h;rw [nD] at h1;exact nXf h1 (af p)
theorem pw{p:List Rat}(h:tz p≠[]):(bE p (aM p (derL p))).length≤p.length:=by
 have hg0:=iu h;have he:=jf hg0 (j1 p);have h1:=eE (a:=bE p (aM p (derL p))) (b:=p) ⟨_,Pf.ev (aM p (derL p)),fun x=>by rw [he x];grind⟩ h;rw [(cd p hg0).2.2.1] at h1;exact nXf h1 (af p)
theorem kK{p:List Rat}(h:tz p≠[]):(sqfV p).length≤p.length:=by
 have h1:(sqfV p).length=(tz (bE p (aM p (derL p)))).length:=cP _;have h2:=af (bE p (aM p (derL p)));have:=pw h;omega
def FrK(K:Nat)(p:List Rat):Prop:=∃ S D,1≤S∧0<D∧D<W32 ^ S∧FrL S D p∧KZ K S p.length
theorem eM{p:List Rat}(h:tz p≠[]):(tz (derL p)).length+1≤p.length:=by
 obtain ⟨n,hn,-⟩:=dT h;have:=eF p n hn;have:=af p;omega
theorem xg(pa:Option Addr)(P pc:Nat)(p:List Rat)(K:Nat)(w:World)(h:co w ⟨pa,P,pc⟩ p)(hP:P≤1000)(h0:tz p≠[])(hk:FrK K p)(hK:K≤12000000)(hK2:(P+1)*(K / 3)≤25000000)(hs:FrK K (sqfV p)) :
  ar 133 [.slice pa P pc] w SH.v (fun x w'=>bB w' x (sqfV p)):=by
 obtain ⟨S,D,hS,hD,hD2,hf,hSK⟩:=hk;obtain ⟨U,E,hU,hEn,hE2,hfU,hUK⟩:=hs;have LP:=Hi (RIn.of h);have HX:=Hi (Ext.refl w);have hlen:=h.len;simp only at hlen;have hp1:1≤p.length:=by
  have:=af p;have:=nYg.2 h0;omega
 have hS3:=KZ.small3 hp1 hSK;have hUs:=KZ.small hUK;have hz:=hf.sz hS hD hD2;have HSz:Hid (SzL S p):=Hi hz;have HQ:Hid (SzL 16777216 (bE p (aM p (derL p)))):=Hi ((ze h0 hz (hfU.sz hU hEn hE2)).mono zo);have HF:Hid (FrL (S+1) D p):=Hi (hf.mono zo);have HF1:Hid (FrL S D p):=Hi hf;have HDF:Hid (∀ x ∈ tz (derL p),Fr (S+1) D x):=Hi (eZ hf zo);have hD3:D<W32 ^ (S+1):=nXn hD2 (nXp aw zo);have HDl:Hid ((tz (derL p)).length+1≤P):=Hi (by rw [←hlen];exact eM h0);have hgl0:(aM p (derL p)).length≤P:=by rw [←hlen];exact nC h0
 have hql0:(bE p (aM p (derL p))).length≤P:=by rw [←hlen];exact pw h0
 have HG0:Hid (tz (aM p (derL p))≠[]):=Hi (iu h0);have HSK:Hid (GZ K (S+1) p (tz (derL p))):=Hi (uP hD hf zo h0 hSK);have HPl:Hid (1≤P):=Hi zo;have hP1:P+1≤1001:=zo;clear h hlen hf hfU hUK hSK hz h0 hp1;unfold ar;go_enter Tryz.func133,Tryz.ntmps133
 go_wp2_with fail
 refine cM (jg pa P pc p _ LP.out.raw zo (HSz.out.mono zo)) fun x1 w1 hE G1=>?_
 refine mV2 hE ?_ LP HX;clear LP HX;intro LP HX;have hs_w1:=hE.size;obtain ⟨da,dn,dc⟩:=x1;have HD3:Hid (LIn w1 ⟨da,dn,dc⟩ (tz (derL p)) w.heap.size w1.heap.size):=Hi G1.out;clear G1;have hdn:dn+1≤P:=by have h1:=HD3.out.len;have h2:=HDl.out;simp only at h1;omega
 simp only [SH.v]
 go_wp2_with fail
 refine cM (qP pa da P pc dn dc p (tz (derL p)) (S+1) D D _ LP.out.raw HD3.out.can zo zo zo hD hD3 hD hD3 HF.out HDF.out K HSK.out zo) fun x2 w2 hE G2=>?_
 refine mV3 hE ?_ LP HX HD3;clear LP HX HD3;intro LP HX HD3;have hs_w2:=hE.size;rw [hZ] at G2;obtain ⟨ga,gn,gc⟩:=x2;have HGL:=Hi G2.out.1.lin;obtain ⟨X,F,hFX,hX1,hF0,hF2,hXK⟩:=G2.out.2;have HFX:=Hi hFX;have hX3:=GcR.small hXK;clear G2 hFX hXK;have hgl:=HGL.out.len;simp only at hgl;have hgn:0<gn:=by
  have:=af (aM p (derL p));have:=nYg.2 HG0.out;omega
 obtain ⟨m,rfl⟩:∃ m,gn=m+1:=⟨gn-1,zo⟩;have hz0:((m:Int)+1 == 0)=false:=by rw [nXs];omega
 have hgm:m+1≤P:=zo;clear HD3;have hm1:P*(X+1)≤P*(K / 3):=nXg _ hX3;have hm2:(P+1)*(K / 3)=P*(K / 3)+K / 3:=nXy _ _
 (try dsimp only)
 go_wp2_with fail
 refine cM (pE pa ga P pc (m+1) gc p (aM p (derL p)) S X D F _ LP.out.raw HGL.out.can zo zo hS hX1 hD hD2 hF0 hF2 HF1.out HFX.out HG0.out zo zo) fun x3 w3 hE G3=>?_
 refine mV3 hE ?_ LP HX HGL;clear LP HX HGL;intro LP HX HGL;have hs_w3:=hE.size;obtain ⟨⟨qa,qn,qc⟩,⟨ra,rn,rc⟩⟩:=x3;have HQL:=Hi G3.out.1.lin;clear G3;have hqn:=HQL.out.len;simp only at hqn
 (try dsimp only)
 go_wp2_with fail
 refine cM (mA qa qn qc (bE p (aM p (derL p))) 16777216 _ HQL.out.can zo zo HQ.out) fun x4 w4 hE G4=>?_
 refine mV4 hE ?_ LP HX HGL HQL;clear LP HX HGL HQL;intro LP HX HGL HQL;have hs_w4:=hE.size;go_wp2
 go_ret
 exact ⟨x4,rfl,HX.out,G4.out⟩
theorem gQ{P:Program}{o:Oper}{a:Act}{α:Type}{mk:α→Value}{φ:α→World→Prop}{w:World}{f:FuncId}{fn:Func}{t:Operand}{xs:Array Operand}{ats:Array TypeId}(first:Array Value)(args:List Value)
 (ho:o.op=.call { callee:=.value t,args:=xs,argTypes:=ats })(ht:a.eval t=.func (.func f) first #[])(ha:first.toList++xs.toList.map a.eval=args)
 (hf:P.funcs[f]?=some fn)(hn:(fn.name == "runtime.NumGoroutine")=false)(hb:fn.body.isNone=false)
 (h:Calls P f args.toArray w (fun e w''=>∃ x,e=.returned (mk x)∧Ext w w''∧φ x w'')):fT P o a w mk φ:=by
 obtain ⟨dst,op,type,pos,after,guard⟩:=o;simp only at ho;subst ho;unfold fT;have ha':first++xs.map a.eval++#[]=args.toArray:=by
  rw [←ha,Array.append_empty];apply Array.ext';simp
 have:execOp a.eval { dst,op:=.call { callee:=.value t,args:=xs,argTypes:=ats },type,pos,after,guard }=callFunc f (first++xs.map a.eval++#[]):=by
  simp only [execOp,resolve,ht,Deferred.ofValue];rfl
 rw [this,ha',jX hf hn hb];exact ⟨Ext.refl _,h⟩
def me(p:List Rat):Int:=if 49<(tz p).length then 12 else if tz p=[] then 3 else 0
theorem fH(ao:Option Addr)(n c:Nat)(p:List Rat)(w:World)(h:co w ⟨ao,n,c⟩ p):ar 68 [.slice ao n c] w (fun _:Unit=>.int .i64 (me p)) (fun _ _=>True):=by
 have HX:=Hi (Ext.refl w);have HP:=Hi h;clear h;unfold ar;go_enter Tryz.func68,Tryz.ntmps68
 go_wp2_with fail
 refine cM (lj ao n c p _ HP.out) fun x5 w5 hE _=>?_
 replace HX:=hE.tr HX;have hs_w5:=hE.size;obtain ⟨P,hP⟩:∃ P,P=(tz p).length:=⟨_,rfl⟩;rw [←hP];by_cases h1:49<P
 ·have e:me p=12:=by unfold me;rw [←hP,if_pos h1]
  have E:=Hi e;clear e;have h2:(48:Int)<(P:Int)-1:=zo;go_wp2
  go_ret
  exact ⟨(),by rw [E.out];rfl,HX.out,trivial⟩
 ·have h2:¬ (48:Int)<(P:Int)-1:=zo;by_cases h3:P=0
  ·have e:me p=3:=by unfold me;rw [←hP,if_neg h1,if_pos (nXj.1 zo)]
   have E:=Hi e;clear e;have h4:(P:Int)-1<0:=zo;go_wp2
   go_ret
   exact ⟨(),by rw [E.out];rfl,HX.out,trivial⟩
  ·have e:me p=0:=by unfold me;rw [←hP,if_neg h1,if_neg (fun h=>h3 (by rw [hP,h];rfl))]
   have E:=Hi e;clear e;have h4:¬ (P:Int)-1<0:=zo;go_wp2
   go_ret
   exact ⟨(),by rw [E.out];rfl,HX.out,trivial⟩
theorem ChM.at{w:World}{lo B:Nat}{va:Option Addr}{vn vc:Nat}{ms:List (List Rat)}(h:ChM w lo B (SH.v ⟨va,vn,vc⟩) ms):vn=ms.length∧∀ k,k<ms.length→∃ L a n c,va=some ⟨L,0,none⟩∧L<w.heap.size∧w.cell? ⟨L,k,none⟩=some (.slice a n c)∧bB w ⟨a,n,c⟩ (ms.getD k []):=by
 obtain ⟨xs,h1,h2,h3⟩:=h;rcases h1 with ⟨e,rfl⟩|⟨L,cap,re,e,g1,g2,g3⟩
 ·simp only [SH.v,Value.slice.injEq] at e;refine ⟨by rw [e.2.1,←h2];rfl,fun k hk=>?_⟩;rw [←h2] at hk;simp at hk
 ·simp only [SH.v,Value.slice.injEq] at e;refine ⟨by rw [e.2.1,h2],fun k hk=>?_⟩;obtain ⟨b,-,-,h4⟩:=h3 k hk;exact ⟨L,_,_,_,e.1,g2.lt,g2.cell zo,h4.can⟩
structure ChK (w:World) (v:SH) (ms:List (List Rat)) (K:Nat):Prop where
 ch:∃ lo B,ChM w lo B v.v ms
 wz:∀ m ∈ ms,∀ y ∈ m,Wz K y
 ln:ms.length≤1000
 ml:∀ m ∈ ms,m.length≤1000
 k1:1≤K
 k2:K≤30000000
theorem ChK.ext{w w':World}{v:SH}{ms:List (List Rat)}{K:Nat}(h:ChK w v ms K)(he:Ext w w'):ChK w' v ms K :=
 ⟨let ⟨lo,B,h1⟩:=h.ch;⟨lo,B,h1.ext he⟩,h.wz,h.ln,h.ml,h.k1,h.k2⟩
instance {w w':World} {v:SH} {ms:List (List Rat)} {K:Nat}:Go.Front.Mv w w' (ChK w v ms K) (ChK w' v ms K):=⟨fun e h=>ChK.ext h e⟩

theorem ChK.len{w:World}{va:Option Addr}{vn vc:Nat}{ms:List (List Rat)}{K:Nat}(h:ChK w ⟨va,vn,vc⟩ ms K):vn=ms.length:=let ⟨_,_,h1⟩:=h.ch;h1.at.1
theorem ChK.at{w:World}{va:Option Addr}{vn vc:Nat}{ms:List (List Rat)}{K k:Nat}(h:ChK w ⟨va,vn,vc⟩ ms K)(hk:k<ms.length):∃ L a n c,va=some ⟨L,0,none⟩∧L<w.heap.size∧w.cell? ⟨L,k,none⟩=some (.slice a n c)∧bB w ⟨a,n,c⟩ (ms.getD k [])∧n≤1000∧∀ y ∈ ms.getD k [],Wz K y:=by
 obtain ⟨lo,B,h1⟩:=h.ch;obtain ⟨L,a,n,c,e1,e2,e3,e4⟩:=h1.at.2 k hk;have hm:ms.getD k [] ∈ ms:=by
  rw [nXd,List.getElem?_eq_getElem hk];exact List.getElem_mem _
 refine ⟨L,a,n,c,e1,e2,e3,e4,?_,h.wz _ hm⟩;have:=h.ml _ hm;have:=e4.len;simp only at this;omega
theorem rG{α β:Type}(f:α→β)(l:List α)(d:α){k:Nat}(hk:k<l.length):(l.drop k).map f=f (l.getD k d) :: (l.drop (k+1)).map f:=by
 rw [List.drop_eq_getElem_cons hk,List.map_cons,nXd,List.getElem?_eq_getElem hk];rfl
theorem kg(v:SH)(ms:List (List Rat))(K:Nat)(t:RH)(x:Rat)(T:Nat)(w:World)(hc:ChK w v ms K)(ht:aB w t x)(hx:Sz T x)(hT:1≤T)(hT3:T≤1000) :
  ar 71 [CV v,t.v] w (fun _:Unit=>.int .i64 (cT ms x)) (fun _ _=>True):=by
 obtain ⟨va,vn,vc⟩:=v;obtain ⟨tn,ta,tl,tc,tb,tm,td⟩:=t;have HX:=Hi (Ext.refl w);have HC:=Hi hc;have HT:=Hi ht;have ZX:=Hi hx;obtain rfl:=hc.len;have hK1:=hc.k1;have hK2:=hc.k2;have hl:=hc.ln;clear hc ht hx;unfold ar;go_enter Tryz.func71,Tryz.ntmps71;simp only [CV,SH.v]
 go_upto_region 1 with fail
 refine jZ ?_;intro w1 hE B2 B3 hz_w1 hr_w1;refine mV3 hE ?_ HX HC HT;clear HX HC HT;intro HX HC HT;have hs_w1:=hE.size;replace b_B2:=bX3 B2;obtain ⟨c_B3,f_B3,l_B3⟩:=bX3 B3;obtain ⟨b3,hb3⟩:∃ b3,b3=w.heap.size+1:=⟨_,rfl⟩;have hb3w:b3<w1.heap.size:=zo;rw [←hb3] at B3 ⊢;clear c_B3 f_B3 l_B3;have c_B3:=ab B3.out;have f_B3:=ae B3.out;clear hb3;go_wp2
 go_loopg [5,6,13] ms.length (fun g cv lv iv wr=>∃ (k cnt:Nat) (la:Int),k+g=ms.length∧iv=.int .i64 (k:Nat)∧cv=.int .i64 (cnt:Nat)∧lv=.int .i64 la∧Ext w wr∧Ext w1 wr∧cnt+vr la ((ms.drop k).map fun m=>Sg.sg (evV m x))=cT ms x∧cnt≤k∧IsS la)
 case atStart=>exact ⟨0,0,0,zo,rfl,rfl,rfl,HX.out,Ext.refl _,by rw [Nat.zero_add];rfl,nXe _,Or.inr (Or.inl rfl)⟩
 case round =>
  obtain ⟨k,cnt,la,hk,rfl,rfl,rfl,g1,g2,g3,g4,g5⟩:=hrel;clear HX;have HX:=Hi g1;have HX7:=Hi g2;have HC2:=Hi (HC.out.ext g2);have HT2:=Hi (HT.out.ext g2);have B32:=Hi (g2.block B3.out);have HV:=Hi g3;have hla:-1≤la∧la≤1:=by unfold IsS at g5;omega
  have HLA:=Hi g5;have hb3r:=g2.size;clear g1 g2 g3 g5 b_B2 c_B3 f_B3;replace b_B32:=bX3 B32;by_cases h0:gk=0
  case pos =>
   subst h0;obtain rfl:k=ms.length:=by omega
   have HE:Hid (cnt=cT ms x):=Hi (by have:=HV.out;rw [List.drop_length,List.map_nil] at this;exact this);have hin:¬ ((ms.length:Nat):Int)<(ms.length:Nat):=zo;go_wp2
   go_ret
   exact ⟨(),by rw [HE.out];rfl,HX.out,trivial⟩
  have hin:(k:Int)<(ms.length:Nat):=zo;have hkn:k<ms.length:=zo;obtain ⟨L,a,n,c,hva,hLl,hcell,hcan,hn,hwz⟩:=HC2.out.at (k:=k) hkn;subst hva;have HL:=Hi hcan;have HW:=Hi hwz;have HD:=Hi (rG (fun m=>Sg.sg (evV m x)) ms [] hkn);clear hcan hwz
  go_wp2_with fail
  refine cM (cZ a n c (ms.getD k []) ⟨tn,ta,tl,tc,tb,tm,td⟩ x K T _ HL.out HT2.out hn HW.out ZX.out hT hK1 hK2 hT3) fun x19 w19 hE _=>?_
  refine mV6 hE ?_ HX HX7 HC2 HT2 B32 HL;clear HX HX7 HC2 HT2 B32 HL;intro HX HX7 HC2 HT2 B32 HL;have hs_w19:=hE.size;replace b_B32:=bX3 B32;rw [HD.out] at HV;have hs:=jA (evV (ms.getD k []) x);obtain ⟨s,es⟩:∃ s,s=Sg.sg (evV (ms.getD k []) x):=⟨_,rfl⟩;rw [←es] at HV hs ⊢;have HS:=Hi hs;clear es HD HL HW hcell;have hs2:-1≤s∧s≤1:=by unfold IsS at hs;omega
  clear hs;obtain ⟨rl,hrl⟩:∃ rl,rl=(ms.drop (k+1)).map fun m=>Sg.sg (evV m x):=⟨_,rfl⟩
  rw [←hrl] at HV;have HRL:=Hi hrl;clear hrl;by_cases hs0:s=0
  case pos =>
   subst hs0;have HV2:Hid (cnt+vr la rl=cT ms x):=Hi (by have:=HV.out;rw [show vr la (0 :: rl)=vr la rl by simp [vr]] at this;exact this);clear HV;go_wp2
   go_roundg (gk-1)
   case measure=>omega
   case rel=>exact ⟨k+1,cnt,la,zo,by go_num,rfl,rfl,HX.out,HX7.out,by rw [←HRL.out];exact HV2.out,zo,HLA.out⟩
  have hsb:(s == 0)=false:=by rw [nXs];exact hs0
  by_cases hl0:la=0
  case pos =>
   subst hl0;have HV2:Hid (cnt+vr s rl=cT ms x):=Hi (by have:=HV.out;rw [show vr 0 (s :: rl)=vr s rl by simp [vr,hs0]] at this;exact this);clear HV;go_wp2
   go_roundg (gk-1)
   case measure=>omega
   case rel=>exact ⟨k+1,cnt,s,zo,by go_num,rfl,rfl,HX.out,HX7.out,by rw [←HRL.out];exact HV2.out,zo,HS.out⟩
  have hlb:(la == 0)=false:=by rw [nXs];exact hl0
  by_cases hsl:s=la
  case pos =>
   subst hsl;have HV2:Hid (cnt+vr s rl=cT ms x):=Hi (by have:=HV.out;rw [show vr s (s :: rl)=vr s rl by simp [vr,hs0]] at this;exact this);clear HV;go_wp2
   go_roundg (gk-1)
   case measure=>omega
   case rel=>exact ⟨k+1,cnt,s,zo,by go_num,rfl,rfl,HX.out,HX7.out,by rw [←HRL.out];exact HV2.out,zo,HS.out⟩
  have hslb:(s == la)=false:=by rw [nXs];exact hsl
  have hlb2:(la != 0)=true:=by rw [bne,hlb];rfl
  have hslb2:(s != la)=true:=by rw [bne,hslb];rfl
  have HV2:Hid ((cnt+1)+vr s rl=cT ms x):=Hi (by have:=HV.out;rw [show vr la (s :: rl)=1+vr s rl by simp [vr,hs0,hl0,hsl]] at this;omega);clear HV;go_wp2
  go_roundg (gk-1)
  case measure=>omega
  case rel=>exact ⟨k+1,cnt+1,s,zo,by go_num,by go_num,rfl,HX.out,HX7.out,by rw [←HRL.out];exact HV2.out,zo,HS.out⟩
theorem kJ(v:SH)(ms:List (List Rat))(K:Nat)(t:RH)(x:Rat)(T:Nat)(w:World)(hc:ChK w v ms K)(h0:0<ms.length)(ht:aB w t x)(hx:Sz T x)(hT:1≤T)(hT3:T≤1000) :
  ar 72 [CV v,t.v] w (fun _:Unit=>.bool (rtV ms x)) (fun _ _=>True):=by
 obtain ⟨va,vn,vc⟩:=v;obtain ⟨tn,ta,tl,tc,tb,tm,td⟩:=t;have HX:=Hi (Ext.refl w);have HC:=Hi hc;have HT:=Hi ht;have ZX:=Hi hx;have hvl:=hc.len;obtain ⟨N,rfl⟩:∃ N,vn=N+1:=⟨vn-1,zo⟩;have hK1:=hc.k1;have hK2:=hc.k2;have hl:=hc.ln;clear hc ht hx;unfold ar;go_enter Tryz.func72,Tryz.ntmps72;simp only [CV,SH.v]
 go_upto_region 1 with fail
 refine jZ ?_;intro w1 hE B2 B3 hz_w1 hr_w1;refine mV3 hE ?_ HX HC HT;clear HX HC HT;intro HX HC HT;have hs_w1:=hE.size;replace b_B2:=bX3 B2;replace b_B3:=bX3 B3;obtain ⟨L,a,n,c,hva,hLl,hcell,hcan,hn,hwz⟩:=HC.out.at (k:=0) h0;subst hva;have HL:=Hi hcan;have HW:=Hi hwz;have hin:(0:Int)<(N:Int)+1:=zo;clear hcan hwz;obtain ⟨s,hs⟩:∃ s,s=Sg.sg (evV (ms.getD 0 []) x):=⟨_,rfl⟩;have HSE:=Hi hs;have HV:Hid (rtV ms x=(s == 0)):=Hi (by
  unfold rtV;rw [←hs];by_cases h:s=0
  ·rw [h];rfl
  ·rw [decide_eq_false h,nXs.2 h])
 clear hs;refine wpG 8 (fun opIx=>match opIx with
  | 5=>sU (.int .i64 s)
  | _=>.quiet) (fun _=>[]) fun w0 he0 hz0 hc0 hf0=>?_
 refine wps he0 (fun w1 hW hG=>?_) fun x20=>?_
 ·exact spc [.slice a n c,RH.v ⟨tn,ta,tl,tc,tb,tm,td⟩] Tryz.func79 ((by rw [HSE.out];exact cZ a n c (ms.getD 0 []) ⟨tn,ta,tl,tc,tb,tm,td⟩ x K T _ (HL.out.ext hW) (HT.out.ext hW) hn HW.out ZX.out hT hK1 hK2 hT3))
 refine qZ ?_;refine am ?_;intro w2 hI;have hE:=he0.out.trans hI.ext;clear hI he0 hz0 hc0 hf0;refine mV6 hE ?_ B2 B3 HX HC HL HT;clear B2 B3 HX HC HL HT;intro B2 B3 HX HC HL HT;have hs_w2:=hE.size;replace b_B2:=bX3 B2;replace b_B3:=bX3 B3;simp only [pD];go_wp2
 go_ret
 exact ⟨(),by rw [HV.out];rfl,HX.out,trivial⟩
theorem LIn.oneb{w:World}{s:SH}{qs:List Rat}{lo hi B:Nat}(h:LIn w s qs lo hi)(hB:hi≤B):∃ b,b≠B∧lo≤b∧LIn w s qs b (b+1):=by
 obtain ⟨rs,h1,h2,h3⟩:=h;rcases h3 with h0|⟨b,off,e,h4,h5⟩
 ·exact ⟨lo+B+1,zo,zo,rs,h1,h2,Or.inl h0⟩
 ·exact ⟨b,zo,h4,rs,h1,h2,Or.inr ⟨b,off,e,nXe _,Nat.lt_succ_self _⟩⟩
theorem kF(ao:Option Addr)(n cap:Nat)(l:List Rat)(S:Nat)(w:World)(h:bB w ⟨ao,n,cap⟩ l)(hn:n≤1000000)(hS:S≤8000000)(hz:SzL S l) :
  ar 138 [.slice ao n cap] w SH.v (fun x w'=>fh w.heap.size w' x (aX l)):=by
 have HX:=Hi (Ext.refl w);have LP:=Hi h.lin;have HSz:=Hi hz;have Hlen:=Hi h.len;simp only at Hlen;clear h hz;unfold ar;go_enter Tryz.func138,Tryz.ntmps138
 go_wp2_with fail
 refine cM (bH ao n cap l _ (LP.out.can.raw HSz.out zo) zo) fun x4 w4 hE G4=>?_
 refine mV2 hE ?_ HX LP;clear HX LP;intro HX LP;have hs_w4:=hE.size;obtain ⟨pa,P,pc⟩:=x4;have hP:=G4.out.len;simp only at hP;obtain ⟨p,hp⟩:∃ p,p=tz l:=⟨_,rfl⟩;rw [←hp] at G4 hP;have HTZ:=Hi hp;have HSp:Hid (SzL S p):=Hi (by rw [hp];exact SzL.tz HSz.out);have hPn:P≤n:=by rw [←hP,hp,←Hlen.out];exact af l
 have hHP:=Hi hP;have HG:Hid (LIn w4 ⟨pa,P,pc⟩ p w.heap.size w4.heap.size):=Hi G4.out;clear hp hP Hlen;clear LP;clear G4;simp only [SH.v];by_cases h0:P=0
 case pos =>
  subst h0;have HV:Hid (aX l=[]):=Hi (f9.2 (by rw [←HTZ.out];exact nXj.1 hHP.out));go_wp2
  go_ret
  exact ⟨⟨none,0,0⟩,rfl,HX.out,by rw [HV.out];exact fh.nil _ _⟩
 obtain ⟨m,rfl⟩:∃ m,P=m+1:=⟨P-1,zo⟩;have hz0:((m:Int)+1 == 0)=false:=by rw [nXs];omega
 have Hne:Hid (tz l≠[]):=Hi (by rw [←HTZ.out];intro h;have:=hHP.out;rw [h] at this;simp at this);have HL:Hid ((tz l).getLast?.getD 0=p.getD m 0):=Hi (by rw [←HTZ.out,List.getLast?_eq_getElem?,hHP.out,Nat.add_sub_cancel,←nXd]);have Zc:Hid (Sz S (p.getD m 0)):=Hi (HSp.out.at (by rw [hHP.out];omega));have Zb:Hid (Sz S (p.getD m 0).abs):=Hi Zc.out.abs;have ZI:Hid (Sz (1+S) (((1:Int):Rat) / (p.getD m 0).abs)):=Hi ((Sz.int dZ).div Zb.out);have HV:Hid (aX l=bQ p (((1:Int):Rat) / (p.getD m 0).abs)):=Hi (by
  unfold bQ;have h1:=il l;unfold aX at h1 ⊢;rw [HL.out,←HTZ.out] at h1 ⊢;exact h1.symm)
 obtain ⟨b,off,r,hao,hbl,⟨hc1,hc2,hc3⟩,hPc⟩:=HG.out.celx (k:=m) zo;obtain ⟨rneg,ra,rn,rc,rb,rm,rd⟩:=r;simp only at hc1 hc2 hc3;have HC:=Hi hPc;clear hPc h0;subst hao
 go_upto_region 4 with fail
 refine wpG 11 (fun opIx=>match opIx with
  | 1=>sR (((1:Int):Rat))
  | 8=>sR ((p.getD m 0).abs)
  | 9=>sR (((1:Int):Rat) / (p.getD m 0).abs)
  | 10=>.spec (SH) (default) (SH.v) (fun x w'=>fh w.heap.size w' x (bQ p (((1:Int):Rat) / (p.getD m 0).abs)))
  | _=>.quiet) (fun|9=>[1,8]|10=>[9]|_=>[]) fun w0 he0 hz0 hc0 hf0=>?_
 refine wps he0 (fun w1 hW hG=>?_) fun x20=>?_
 ·exact spc [.int .i64 1] Tryz.func36 (aO 1 _ dZ dZ)
 refine qZ ?_;refine wps he0 (fun w1 hW hG=>?_) fun x21=>?_
 ·exact spc [RH.v ⟨rneg,ra,rn,rc,rb,rm,rd⟩] Tryz.func188 (t6 ⟨rneg,ra,rn,rc,rb,rm,rd⟩ _ _ ((HC.out.ext hW).raw Zc.out zo))
 refine qZ ?_;refine wps he0 (fun w1 hW hG=>?_) fun x22=>?_
 ·have g20:=gS (hG 1 dZ);have g21:=gS (hG 8 dZ);exact spc [x20.v,x21.v] Tryz.func35 (gV x20 x21 _ _ _ (g20.raw (Sz.int dZ) dZ) (g21.raw Zb.out zo))
 refine qZ ?_;refine wps he0 (fun w1 hW hG=>?_) fun x23=>?_
 ·have g22:=gS (hG 9 dZ);exact spc [.slice (some ⟨b,off,none⟩) (m+1:Nat) pc,x22.v] Tryz.func51 ((gU (some ⟨b,off,none⟩) (m+1) pc p x22 (((1:Int):Rat) / (p.getD m 0).abs) _ ((HG.out.ext hW).can.raw HSp.out zo) (g22.raw ZI.out zo) zo (HSp.out.mono zo) (ZI.out.mono zo)).wk (fun _ _ _ h=>h.mono (by have:=hW.size;omega)))
 refine qZ ?_;refine am ?_;intro w5 hI;have hE:=he0.out.trans hI.ext;have G20:=gT (hI.facts 1);have G21:=gT (hI.facts 8);have G22:=gT (hI.facts 9);have G23:=gT (hI.facts 10);clear hI he0 hz0 hc0 hf0;refine mV3 hE ?_ HX HG HC;clear HX HG HC;intro HX HG HC;have hs_w5:=hE.size;simp only [pD];clear hc1 hc2 hc3;go_wp2
 go_ret
 exact ⟨x23,rfl,HX.out,by rw [HV.out];exact G23.out⟩
def ChR(w:World)(v:SH)(ms:List (List Rat)):Prop:=v.n=ms.length∧∀ k,k<ms.length→∃ L a n c,v.a=some ⟨L,0,none⟩∧L<w.heap.size∧w.cell? ⟨L,k,none⟩=some (.slice a n c)∧bB w ⟨a,n,c⟩ (ms.getD k [])
theorem ChR.ext{w w':World}{v:SH}{ms:List (List Rat)}(h:ChR w v ms)(he:Ext w w'):ChR w' v ms :=
 ⟨h.1,fun k hk=>let ⟨L,a,n,c,h1,h2,h3,h4⟩:=h.2 k hk;⟨L,a,n,c,h1,nXn h2 he.size,he.cell h3,h4.ext he⟩⟩
instance {w w':World} {v:SH} {ms:List (List Rat)}:Go.Front.Mv w w' (ChR w v ms) (ChR w' v ms):=⟨fun e h=>ChR.ext h e⟩

theorem ChM.r{w:World}{lo B:Nat}{va:Option Addr}{vn vc m:Nat}{ms:List (List Rat)}(h:ChM w lo B (.slice va vn vc) ms)(hm:m≤ms.length):ChR w ⟨va,m,vc⟩ (ms.take m):=by
 have h1:=(ChM.at (va:=va) (vn:=vn) (vc:=vc) h).2;refine ⟨by rw [nXk];show m=_;omega,fun k hk=>?_⟩;rw [nXk] at hk;obtain ⟨L,a,n,c,e1,e2,e3,e4⟩:=h1 k zo;refine ⟨L,a,n,c,e1,e2,e3,?_⟩;rw [show (ms.take m).getD k []=ms.getD k [] by rw [nXd,nXd,List.getElem?_take_of_lt zo]];exact e4
theorem ChM.le{w:World}{lo B n c:Nat}{va:Option Addr}{ms:List (List Rat)}(h:ChM w lo B (.slice va n c) ms):ms.length≤c:=by
 obtain ⟨xs,h1,h2,-⟩:=h;rcases h1 with ⟨e,rfl⟩|⟨L,cap,re,e,-,-,h3,-⟩
 ·rw [←h2];exact Nat.zero_le _
 ·simp only [Value.slice.injEq] at e;omega
theorem ChM.max{w:World}{lo B n c L:Nat}{ms:List (List Rat)}(h:ChM w lo B (.slice (some ⟨L,0,none⟩) n c) ms):c≤9223372036854775807:=by
 obtain ⟨xs,h1,h2,-⟩:=h;rcases h1 with ⟨e,rfl⟩|⟨L,cap,re,e,-,-,-,h3,-⟩
 ·simp at e
 ·simp only [Value.slice.injEq] at e;omega
theorem BD{w:World}{lo B:Nat}{xa xb:SH}{a b:List Rat}{ba bb:Nat}(hB:w.heap[B]?=some (.cells #[.slice xa.a xa.n xa.c,.slice xb.a xb.n xb.c] 24 (0,0)))(ha:LIn w xa a ba (ba+1))(hb:LIn w xb b bb (bb+1))(h1:ba≠B)(h2:bb≠B)(h3:lo≤ba)(h4:lo≤bb) :
  ChM w lo B (.slice (some ⟨B,0,none⟩) 2 2) [a,b]:=by
 refine ⟨[xa,xb],Or.inr ⟨B,2,#[],rfl,rfl,?_,nXe 2,dZ,rfl,rfl⟩,rfl,fun k hk=>?_⟩
 ·unfold SBk;rw [hB];rfl
 ·match k,hk with
  | 0,_=>exact ⟨ba,h1,h3,ha⟩
  | 1,_=>exact ⟨bb,h2,h4,hb⟩
def zv:Rat:=((-1:Int):Rat)
def UEq(p q:List Rat):Prop:=Unit→aX p=aX q
def QrP(p q:List Rat)(x:SH×SH)(w:World):Prop:=bB w x.1 (bE p q)∧bB w x.2 (bD p q)
theorem QrP.ext{p q:List Rat}{x:SH×SH}{w w':World}(h:QrP p q x w)(he:Ext w w'):QrP p q x w':=⟨h.1.ext he,h.2.ext he⟩
instance {p q:List Rat} {x:SH×SH} {w w':World}:Go.Front.Mv w w' (QrP p q x w) (QrP p q x w'):=⟨fun e h=>QrP.ext h e⟩

def CnI(w wr:World)(K:Nat)(q:List Rat)(v:Value)(g:Nat):Prop:=∃ (N cap L fuel X:Nat) (ps:List (List Rat)) (a b:List Rat),v=.slice (some ⟨L,0,none⟩) (N+1+1:Nat) cap∧b.length=g∧w.heap.size≤L∧ChM wr w.heap.size L (.slice (some ⟨L,0,none⟩) (N+1+1:Nat) cap) (ps++[aX a,aX b])∧ps.length=N∧N+b.length≤1000∧RmI K a b X∧a≠[]∧a.length<fuel∧(ps++(chn fuel a b).map aX)=(remsV q).map aX∧cap≤9223372036854775807
theorem mK(pa:Option Addr)(P pc:Nat)(p:List Rat)(S D K:Nat)(w:World)(h:bB w ⟨pa,P,pc⟩ p)(hP:P≤500)(h0:tz p≠[])(hS:1≤S)(hD:0<D)(hD2:D<W32 ^ S)(hf:∀ x ∈ p,Fr S D x)(hK:KZ K S P)(hK2:K≤7000000) :
  ar 75 [.slice pa P pc] w SH.v (fun x w'=>ChR w' x (iI p)):=by
 have LP:=Hi h.lin;have HX:=Hi (Ext.refl w);have HPl:Hid (p.length=P):=Hi h.len;have HF:=Hi hf;obtain ⟨X0,hSX,hI0⟩:=jG hS hD hf (by have:=h.len;simp only at this;omega) h0 (by have:=h.len;simp only at this;rw [this];exact hK);have HI0:=Hi hI0;clear hI0;have H0:=Hi h0;have hSK:S+2≤K:=by have:=HI0.out.small;omega
 have HSz:Hid (SzL S p):=Hi (bU hS hD hD2 hf);have HDF:Hid (∀ x ∈ tz (derL p),Fr (S+1) D x):=Hi (eZ hf (by have:=h.len;simp only at this;omega));have hD3:D<W32 ^ (S+1):=nXn hD2 (nXp aw zo);have HDZ:Hid (SzL (S+1) (tz (derL p))):=Hi (bU zo hD hD3 HDF.out);have HDl:Hid ((tz (derL p)).length≤P):=Hi (by
  have h1:=HI0.out.2.2.2.2.2.2.1;rw [ax,ax,aC] at h1;have h2:=af p;have h3:=HPl.out;rcases h1 with h1|h1
  ·exact absurd (bs.1 h1) h0
  ·omega)
 have HUD:Hid (aX (tz (derL p))=aX (ak (derL p))):=Hi (by rw [iR];unfold aX;rw [aC]);have HUP:Hid (aX p=aX (ak p)):=Hi (iR p).symm;clear h hf h0;unfold ar;go_enter Tryz.func75,Tryz.ntmps75
 go_wp2_with fail
 refine cM (kF pa P pc p S _ LP.out.can zo zo HSz.out) fun x8 w8 hE G8=>?_
 refine mV2 hE ?_ LP HX;clear LP HX;intro LP HX;have hs_w8:=hE.size
 go_wp2_with fail
 refine cM (nG pa P pc p _ LP.out.can zo (HSz.out.mono zo)) fun x10 w10 hE G10=>?_
 refine mV3 hE ?_ G8 LP HX;clear G8 LP HX;intro G8 LP HX;have hs_w10:=hE.size;obtain ⟨da,dn,dc⟩:=x10;have hdn:dn≤P:=by have h1:=G10.out.len;have h2:=HDl.out;simp only at h1;omega
 simp only [SH.v]
 go_wp2_with fail
 refine cM (kF da dn dc (tz (derL p)) (S+1) _ G10.out.can zo zo HDZ.out) fun x11 w11 hE G11=>?_
 refine mV4 hE ?_ G10 G8 LP HX;clear G10 G8 LP HX;intro G10 G8 LP HX;have hs_w11:=hE.size;rw [HUD.out] at G11;rw [HUP.out] at G8;obtain ⟨ba,hba,hba2,hla⟩:=LIn.oneb (B:=w11.heap.size) G8.out (nXe _);obtain ⟨bb,hbb,hbb2,hlb⟩:=LIn.oneb (B:=w11.heap.size) G11.out (nXe _);have LA:=Hi hla;have LB:=Hi hlb;have hs11:=HX.out.size;have hbb3:w.heap.size≤bb:=by have:=hs_w10;have:=hs_w8;omega
 clear hla hlb;clear G8;clear G10;clear G11;clear LP;obtain ⟨aa,an,ac⟩:=x8;obtain ⟨bao,bn,bc⟩:=x11;simp only [SH.v]
 go_upto_region 2 with fail
 refine nmA ?_;intro w12 hE BL hz_w12 hr_w12;refine mV3 hE ?_ HX LA LB;clear HX LA LB;intro HX LA LB;have hs_w12:=hE.size;replace b_BL:=bX3 BL;obtain ⟨L,hL⟩:∃ L,L=w11.heap.size:=⟨_,rfl⟩;rw [←hL] at BL hba hbb ⊢;have hLw:w.heap.size≤L:=zo;have HC:Hid (ChM w12 w.heap.size L (.slice (some ⟨L,0,none⟩) 2 2) [aX (ak p),aX (ak (derL p))]):=Hi (BD (xa:=⟨aa,an,ac⟩) (xb:=⟨bao,bn,bc⟩) BL.out LA.out LB.out hba hbb hba2 hbb3);have HLb:Hid ((ak (derL p)).length≤900):=Hi (by rw [ax];have h2:=HDl.out;omega);clear b_BL hL;clear LA;clear LB
 (try clear b_BL);(try clear BL)
 go_wp2
 go_loopg [3] (ak (derL p)).length (fun g v wr=>Ext w wr∧CnI w wr K p v g)
 case atStart=>exact ⟨HX.out,0,2,L,p.length+1,X0,[],ak p,ak (derL p),rfl,rfl,hLw,HC.out,rfl,by have:=HLb.out;omega,by have h:=HI0.out;rwa [kL] at h,fun k=>H0.out (bs.1 k),by rw [ax];have:=af p;omega,rfl,dZ⟩
 case round =>
  obtain ⟨g1,N,cap,L,fuel,X,ps,a,b,rfl,hbg,hLw,g2,hps,hNb,g3,ha0,hfu,g4,hcap⟩:=hrel;clear HX HC;have HX:=Hi g1;have HC:=Hi g2;have HI:=Hi g3;have HE:=Hi g4;have Ha:=Hi ha0;have hat:=(ChM.at (va:=some ⟨L,0,none⟩) (vn:=N+1+1) (vc:=cap) g2).2;obtain ⟨L1,aa,an,ac,e1,hl1,hcell1,hcan1⟩:=hat N (by simp;omega);obtain ⟨L2,bao,bn,bc,e2,hl2,hcell2,hcan2⟩:=hat (N+1) (by simp;omega);obtain rfl:L=L1:=by simpa using e1
  obtain rfl:L=L2:=by simpa using e2
  rw [show (ps++[aX a,aX b]).getD N []=aX a by rw [←hps];simp] at hcan1;rw [show (ps++[aX a,aX b]).getD (N+1) []=aX b by rw [←hps];simp] at hcan2;have LA:=Hi hcan1;have LB:=Hi hcan2;have hbl:b.length=bn:=by have h1:=hcan2.len;rw [jw,g3.2.1] at h1;exact h1
  have hal:a.length=an:=by have h1:=hcan1.len;rw [jw,g3.1] at h1;exact h1
  have hN2:((N:Int)+1+1)-2=(N:Int):=zo;have hN3:(N:Int)+1<(N:Int)+1+1:=zo;have hN4:(N:Int)<(N:Int)+1+1:=zo;have hNc:N+1+1≤cap:=by have h1:=ChM.le g2;simp at h1;omega
  have hNc1:(0:Int)≤(N:Int)+1∧(N:Int)+1≤(cap:Int):=zo;clear g1 g2 g3 g4 ha0 hat e1 e2 hcan1 hcan2;by_cases h0:bn=0
  case pos =>
   subst h0;have hb:b=[]:=nXj.1 hbl;have HV:Hid ((ps++[aX a,aX b]).take (N+1)=iI p):=Hi (by
    rw [nM,←HE.out,hb];obtain ⟨f2,rfl⟩:∃ f2,fuel=f2+1:=⟨fuel-1,zo⟩;rw [dw Ha.out,←hps];rw [List.take_append,nXm (Nat.le_succ _),show ps.length+1-ps.length=1 by omega];rfl)
   go_wp2
   go_ret
   exact ⟨⟨some ⟨L,0,none⟩,N+1,cap⟩,rfl,HX.out,by rw [←HV.out];exact ChM.r HC.out (by simp;omega)⟩
  have hbp:(0:Int)<(bn:Int):=zo;have Hb0:Hid (b≠[]):=Hi (by intro h;rw [h] at hbl;simp at hbl;omega);obtain ⟨e1,e2,e3,e4,e5,e6,e7,e8,e9⟩:=HI.out;obtain ⟨Da,u1,u2,u3⟩:=mQ e3 e1 e5;obtain ⟨Db,v1,v2,v3⟩:=mQ e4 e2 e5;have HT:Hid (tz a≠[]∧tz b≠[]):=Hi ⟨by rw [e1];exact Ha.out,by rw [e2];exact Hb0.out⟩;have HM0:Hid (tz (aX b)≠[]):=Hi (by rw [il];exact fun h=>HT.out.2 (f9.1 h));have hdz:=HI.out.dsz;obtain ⟨s,r,f,hf,hdv⟩:=vw (vA e3 e4 e1 e2 Hb0.out);obtain ⟨hN,X2,hI2⟩:=HI.out.next Hb0.out hf hdv;rw [hN] at hI2;obtain ⟨c,hc⟩:∃ c,c=ak ((bD a b).map (·*-1)):=⟨_,rfl⟩;rw [←hc] at hI2;have HNX:=Hi hI2;have HCc:=Hi hc;have hml:(aX a).length=an:=by rw [jw,e1];exact hal
  have HRS:Hid (SzL 7000000 (bD (aX a) (aX b))):=Hi ((qL u3 v3 HM0.out e5 e5 u1 u2 v1).mono (by rw [hml,←hal];omega));have HSS:Hid (SzL 7000001 (bQ (bD (aX a) (aX b)) zv)):=Hi ((tM HRS.out (show Sz 1 zv from pJ)).mono zo);have HUC:Hid (UEq (bQ (bD (aX a) (aX b)) zv) c):=Hi (fun _=>by rw [hc];exact xK HT.out.1 HT.out.2);have HRl:Hid ((bD (aX a) (aX b)).length≤1000):=Hi (by
   have h1:=(cd (aX a) HM0.out).1;rw [il,jw,e2] at h1;omega)
  have hcb:c.length<b.length:=by
   rcases hI2.2.2.2.2.2.2.1 with h|h
   ·exact absurd h Hb0.out
   ·exact h
  have HD3:Hid (X+(an+1)*(X+1)≤7000000):=Hi (by rw [←hal];omega);have han:an≤100000:=by rw [←hal];exact e8
  have hbn:bn≤1000:=zo;have HU3:=Hi u3;have HV3:=Hi v3;obtain ⟨qs,hqs⟩:∃ qs,qs=ps++[aX a,aX b]:=⟨_,rfl⟩;have hql:qs.length=N+1+1:=by rw [hqs];simp;omega
  rw [←hqs] at HC;have HQS:=Hi hqs;have HQL:=Hi hql;have Hps:=Hi hps;have Hbg:=Hi hbg;have Hbl:=Hi hbl;have hcg:c.length<gk:=zo;have hcN:N+1+c.length≤1000:=zo;have HLc:Hid (c.length<a.length∧b.length<fuel-1):=Hi (by
   have h1:=e7;rcases h1 with h|h
   ·exact absurd h Ha.out
   ·omega)
  clear hps hbg hbl hal hml hcb hNb;clear hc hqs hdv hN hI2 e1 e2 e3 e4 e6 e7 e8 e9 u3 v3 hdz hql h0 hf
  go_upto_region 3 with fail
  refine ci [(17,15),(17,16)] _ (by simp only [lT,nR,List.push_toArray,List.cons_append,List.nil_append];exact rfl) (by intro c a d v w h;cases d <;> exact h) 17 (fun opIx=>match opIx with
   | 12=>.spec (SH×SH) ((default,default)) (QT) (fun x w'=>QrP (aX a) (aX b) x w')
   | _=>.quiet) (fun _=>[]) kZ kZ kZ (fun w0 he0 hz0 hc0 hf0=>?_)
  replace he0:=Hi he0;simp only [pT];refine qQ ?_;refine wps he0 (fun w1 hW hG=>?_) fun x40=>?_
  ·exact spc [.slice aa an ac,.slice bao bn bc] Tryz.func134 (pU aa bao an ac bn bc (aX a) (aX b) X X Da Db _ (LA.out.ext hW) (LB.out.ext hW) zo zo e5 e5 u1 u2 v1 v2 HU3.out HV3.out HM0.out (by have:=HD3.out;omega))
  refine qZ ?_;refine am ?_;intro w14 hI;have hE:=he0.out.trans hI.ext;have G40:=gT (hI.facts 12);clear hI he0 hz0 hc0 hf0;refine mV4 hE ?_ HX HC LA LB;clear HX HC LA LB;intro HX HC LA LB;have hs_w14:=hE.size;simp only [pD];obtain ⟨xq,⟨ra,rn,rc⟩⟩:=x40;have HR1:=Hi G40.out.2.lin;have hrl:=G40.out.2.len;have hrn:rn≤1000:=by have:=HRl.out;simp only at hrl;omega
  clear G40 hrl;simp only [QT] at *
  go_wp2_with fail
  refine cM (aO (-1) _ dZ dZ) fun x50 w50 hE G50=>?_
  refine mV5 hE ?_ HX HC LA LB HR1;clear HX HC LA LB HR1;intro HX HC LA LB HR1;have hs_w50:=hE.size
  go_wp2_with fail
  refine cM (gU ra rn rc (bD (aX a) (aX b)) x50 zv _ (HR1.out.can.raw HRS.out zo) (show aR _ x50 zv from G50.out.raw pJ dZ) zo (HRS.out.mono zo) ((show Sz 1 zv from pJ).mono zo)) fun x51 w51 hE G51=>?_
  refine mV6 hE ?_ G50 HX HC LA LB HR1;clear G50 HX HC LA LB HR1;intro G50 HX HC LA LB HR1;have hs_w51:=hE.size;obtain ⟨sa,sn,sc⟩:=x51;have hsn:sn≤1000:=by
   have h1:=G51.out.len;have h2:=su (bD (aX a) (aX b)) zv;have h3:=HRl.out;simp only at h1;omega
  simp only [SH.v]
  go_wp2_with fail
  refine cM (kF sa sn sc (bQ (bD (aX a) (aX b)) zv) 7000001 _ G51.out.can zo zo HSS.out) fun x52 w52 hE G52=>?_
  refine mV7 hE ?_ G51 G50 HX HC LA LB HR1;clear G51 G50 HX HC LA LB HR1;intro G51 G50 HX HC LA LB HR1;have hs_w52:=hE.size;rw [HUC.out ()] at G52;have hLr:L<wr.heap.size:=hl1;obtain ⟨bm,hbm,hbm2,hlm⟩:=LIn.oneb (B:=w52.heap.size) G52.out (nXe _);have LM:=Hi hlm;clear hlm;obtain ⟨ma,mn,mc⟩:=x52;simp only [SH.v];clear G51;clear G52;clear G50;clear HR1;clear LA;clear LB
  go_wp2_with (at_builtin;refine fS rfl (.tmp 38) (.tmp 43) 93 Tryz.underlying93 rfl w.heap.size L (.slice (some ⟨L,0,none⟩) (N+1+1:Nat) cap) qs ⟨ma,mn,mc⟩ (aX c) bm rfl HC.out LM.out zo zo rfl (by rw [HQL.out];omega) ?_;intro L2 cap2 y1 q1 q2 q3 q4)
  have HX2:=Hi (q2.ext HX.out zo);have HC2:=Hi q1;have hL2:w.heap.size≤L2:=zo;clear q1 q2 q3 q4 HX HC;obtain ⟨f2,rfl⟩:∃ f2,fuel=f2+1:=⟨fuel-1,zo⟩;go_wp2
  go_roundg c.length
  case measure=>exact hcg
  case rel =>
   have hl:qs.length+1=N+1+1+1:=by rw [HQL.out]
   refine ⟨HX2.out,N+1,cap2,L2,f2,X2,ps++[aX a],b,c,?_,rfl,hL2,?_,?_,hcN,HNX.out,Hb0.out,?_,?_,?_⟩
   ·first|(rw [←hl];rfl)|simp [HQL.out]
   ·have h:=HC2.out;rw [hl,HQS.out] at h;rw [List.append_assoc] at h ⊢;exact h
   ·rw [nXi,Hps.out];rfl
   ·have:=HLc.out.2;omega
   ·have h:=HE.out;rw [dY Ha.out Hb0.out,←HCc.out,List.map_cons] at h;rw [List.append_assoc];exact h
   ·exact ChM.max HC2.out
end Go.Proofs.YtafgmcimcbhhjaaGreat
