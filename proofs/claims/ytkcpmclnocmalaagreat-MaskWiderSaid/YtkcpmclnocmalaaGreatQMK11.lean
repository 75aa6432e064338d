import Derived.Test.YtkcpmclnocmalaaGreatQMK10
set_option linter.unusedVariables false
set_option maxHeartbeats 8000000
set_option maxRecDepth 8000
namespace Go.Proofs.YtkcpmclnocmalaaGreat
open Go.RowKit Go.Front Go.Num Stab Sg
attribute [local go_sem] XW.cell XW.frozen
theorem gK{P:Program}{o:Oper}{a:Act}{α:Type}{mk:α→Value}{φ:α→World→Prop}{w:World}{f:FuncId}{fn:Func}{t:Operand}{xs:Array Operand}{ats:Array TypeId}(first:Array Value)(args:List Value)
 (ho:o.op=.call { callee:=.value t,args:=xs,argTypes:=ats })(ht:a.eval t=.func (.func f) first #[])(ha:first.toList++xs.toList.map a.eval=args)
 (hf:P.funcs[f]?=some fn)(hn:(fn.name == "runtime.NumGoroutine")=false)(hb:fn.body.isNone=false)
 (h:Calls P f args.toArray w (fun e w''=>∃ x,e=.returned (mk x)∧Ext w w''∧φ x w'')):bV P o a w mk φ:=by
 obtain ⟨dst,op,type,pos,after,guard⟩:=o;simp only at ho;subst ho;unfold bV;have ha':first++xs.map a.eval++#[]=args.toArray:=by
  rw [←ha,Array.append_empty];apply Array.ext';simp
 have:execOp a.eval { dst,op:=.call { callee:=.value t,args:=xs,argTypes:=ats },type,pos,after,guard }=callFunc f (first++xs.map a.eval++#[]):=by
  simp only [execOp,resolve,ht,Deferred.ofValue];rfl
 rw [this,ha',gj hf hn hb];exact ⟨Ext.refl _,h⟩
def tw(p:List Rat):Int:=if 49<(tz p).length then 12 else if tz p=[] then 3 else 0
theorem mI(ao:Option Addr)(n c:Nat)(p:List Rat)(w:World)(h:cN w ⟨ao,n,c⟩ p):ar 76 [.slice ao n c] w (fun _:Unit=>.int .i64 (tw p)) (fun _ _=>True):=by
 have HX:=Hi (Ext.refl w);have HP:=Hi h;clear h;unfold ar;go_enter Tryz.func76,Tryz.ntmps76
 go_wp2_with fail
 refine cM (cV ao n c p _ HP.out) fun x5 w5 hE _=>?_
 replace HX:=hE.tr HX;have hs_w5:=hE.size;obtain ⟨P,hP⟩:∃ P,P=(tz p).length:=⟨_,rfl⟩;rw [←hP];by_cases h1:49<P
 ·have e:tw p=12:=by unfold tw;rw [←hP,if_pos h1]
  have E:=Hi e;clear e;have h2:(48:Int)<(P:Int)-1:=zo;go_wp2
  go_ret
  exact ⟨(),by rw [E.out];rfl,HX.out,trivial⟩
 ·have h2:¬ (48:Int)<(P:Int)-1:=zo;by_cases h3:P=0
  ·have e:tw p=3:=by unfold tw;rw [←hP,if_neg h1,if_pos (nXj.1 zo)]
   have E:=Hi e;clear e;have h4:(P:Int)-1<0:=zo;go_wp2
   go_ret
   exact ⟨(),by rw [E.out];rfl,HX.out,trivial⟩
  ·have e:tw p=0:=by unfold tw;rw [←hP,if_neg h1,if_neg (fun h=>h3 (by rw [hP,h];rfl))]
   have E:=Hi e;clear e;have h4:¬ (P:Int)-1<0:=zo;go_wp2
   go_ret
   exact ⟨(),by rw [E.out];rfl,HX.out,trivial⟩
theorem ChM.at{w:World}{lo B:Nat}{va:Option Addr}{vn vc:Nat}{ms:List (List Rat)}(h:ChM w lo B (SH.v ⟨va,vn,vc⟩) ms):vn=ms.length∧∀ k,k<ms.length→∃ L a n c,va=some ⟨L,0,none⟩∧L<w.heap.size∧w.cell? ⟨L,k,none⟩=some (.slice a n c)∧bg w ⟨a,n,c⟩ (ms.getD k []):=by
 obtain ⟨xs,h1,h2,h3⟩:=h;rcases h1 with ⟨e,rfl⟩|⟨L,cap,re,e,g1,g2,g3⟩
 ·simp only [SH.v,Value.slice.injEq] at e;refine ⟨by rw [e.2.1,←h2];rfl,fun k hk=>?_⟩;rw [←h2] at hk;simp at hk
 ·simp only [SH.v,Value.slice.injEq] at e;refine ⟨by rw [e.2.1,h2],fun k hk=>?_⟩;obtain ⟨b,-,-,h4⟩:=h3 k hk;exact ⟨L,_,_,_,e.1,g2.lt,g2.cell zo,h4.can⟩
structure ChK (w:World) (v:SH) (ms:List (List Rat)) (K:Nat):Prop where
 ch:∃ lo B,ChM w lo B v.v ms
 wz:∀ m ∈ ms,∀ y ∈ m,Wz K y
 ln:ms.length≤1000
 ml:∀ m ∈ ms,m.length≤1000
 k1:1≤K
 k2:K≤30000000
theorem ChK.ext{w w':World}{v:SH}{ms:List (List Rat)}{K:Nat}(h:ChK w v ms K)(he:Ext w w'):ChK w' v ms K :=
 ⟨let ⟨lo,B,h1⟩:=h.ch;⟨lo,B,h1.ext he⟩,h.wz,h.ln,h.ml,h.k1,h.k2⟩
instance {w w':World} {v:SH} {ms:List (List Rat)} {K:Nat}:Go.Front.Mv w w' (ChK w v ms K) (ChK w' v ms K):=⟨fun e h=>ChK.ext h e⟩

theorem ChK.len{w:World}{va:Option Addr}{vn vc:Nat}{ms:List (List Rat)}{K:Nat}(h:ChK w ⟨va,vn,vc⟩ ms K):vn=ms.length:=let ⟨_,_,h1⟩:=h.ch;h1.at.1
theorem ChK.at{w:World}{va:Option Addr}{vn vc:Nat}{ms:List (List Rat)}{K k:Nat}(h:ChK w ⟨va,vn,vc⟩ ms K)(hk:k<ms.length):∃ L a n c,va=some ⟨L,0,none⟩∧L<w.heap.size∧w.cell? ⟨L,k,none⟩=some (.slice a n c)∧bg w ⟨a,n,c⟩ (ms.getD k [])∧n≤1000∧∀ y ∈ ms.getD k [],Wz K y:=by
 obtain ⟨lo,B,h1⟩:=h.ch;obtain ⟨L,a,n,c,e1,e2,e3,e4⟩:=h1.at.2 k hk;have hm:ms.getD k [] ∈ ms:=by
  rw [nXd,List.getElem?_eq_getElem hk];exact List.getElem_mem _
 refine ⟨L,a,n,c,e1,e2,e3,e4,?_,h.wz _ hm⟩;have:=h.ml _ hm;have:=e4.len;simp only at this;omega
theorem zr{α β:Type}(f:α→β)(l:List α)(d:α){k:Nat}(hk:k<l.length):(l.drop k).map f=f (l.getD k d) :: (l.drop (k+1)).map f:=by
 rw [List.drop_eq_getElem_cons hk,List.map_cons,nXd,List.getElem?_eq_getElem hk];rfl
theorem Ep{ms:List (List Rat)}{T k n:Nat}(h:∀ m ∈ ms,T*m.length≤1000000)(hk:k<ms.length)(hn:(ms.getD k []).length=n):T*n≤1000000:=by
 rw [←hn];refine h _ ?_;rw [nXd,List.getElem?_eq_getElem hk];exact List.getElem_mem _
theorem xD(v:SH)(ms:List (List Rat))(K:Nat)(t:RH)(x:Rat)(T:Nat)(w:World)(hc:ChK w v ms K)(ht:aA w t x)(hx:Sz T x)(hT:1≤T)(hT4:T≤500000)(hTm:∀ m ∈ ms,T*m.length≤1000000) :
  ar 130 [CV v,t.v] w (fun _:Unit=>.int .i64 (jQ ms x)) (fun _ _=>True):=by
 obtain ⟨va,vn,vc⟩:=v;obtain ⟨tn,ta,tl,tc,tb,tm,td⟩:=t;have HX:=Hi (Ext.refl w);have HC:=Hi hc;have HTM:=Hi hTm;have HT:=Hi ht;have ZX:=Hi hx;obtain rfl:=hc.len;have hK1:=hc.k1;have hK2:=hc.k2;have hl:=hc.ln;clear hc ht hx hTm;unfold ar;go_enter Tryz.func130,Tryz.ntmps130;simp only [CV,SH.v]
 go_upto_region 1 with fail
 refine eX ?_;intro w1 hE B2 B3 hz_w1 hr_w1;refine mV3 hE ?_ HX HC HT;clear HX HC HT;intro HX HC HT;have hs_w1:=hE.size;replace b_B2:=bX3 B2;obtain ⟨c_B3,f_B3,l_B3⟩:=bX3 B3;obtain ⟨b3,hb3⟩:∃ b3,b3=w.heap.size+1:=⟨_,rfl⟩;have hb3w:b3<w1.heap.size:=zo;rw [←hb3] at B3 ⊢;clear c_B3 f_B3 l_B3;have c_B3:=ae B3.out;have f_B3:=af B3.out;clear hb3;go_wp2
 go_loopg [5,6,13] ms.length (fun g cv lv iv wr=>∃ (k cnt:Nat) (la:Int),k+g=ms.length∧iv=.int .i64 (k:Nat)∧cv=.int .i64 (cnt:Nat)∧lv=.int .i64 la∧Ext w wr∧Ext w1 wr∧cnt+vr la ((ms.drop k).map fun m=>Sg.sg (evV m x))=jQ ms x∧cnt≤k∧IsS la)
 case atStart=>exact ⟨0,0,0,zo,rfl,rfl,rfl,HX.out,Ext.refl _,by rw [Nat.zero_add];rfl,nXe _,Or.inr (Or.inl rfl)⟩
 case round =>
  obtain ⟨k,cnt,la,hk,rfl,rfl,rfl,g1,g2,g3,g4,g5⟩:=hrel;clear HX;have HX:=Hi g1;have HX7:=Hi g2;have HC2:=Hi (HC.out.ext g2);have HT2:=Hi (HT.out.ext g2);have B32:=Hi (g2.block B3.out);have HV:=Hi g3;have hla:-1≤la∧la≤1:=by unfold IsS at g5;omega
  have HLA:=Hi g5;have hb3r:=g2.size;clear g1 g2 g3 g5 b_B2 c_B3 f_B3;replace b_B32:=bX3 B32;by_cases h0:gk=0
  case pos =>
   subst h0;obtain rfl:k=ms.length:=by omega
   have HE:Hid (cnt=jQ ms x):=Hi (by have:=HV.out;rw [List.drop_length,List.map_nil] at this;exact this);have hin:¬ ((ms.length:Nat):Int)<(ms.length:Nat):=zo;go_wp2
   go_ret
   exact ⟨(),by rw [HE.out];rfl,HX.out,trivial⟩
  have hin:(k:Int)<(ms.length:Nat):=zo;have hkn:k<ms.length:=zo;obtain ⟨L,a,n,c,hva,hLl,hcell,hcan,hn,hwz⟩:=HC2.out.at (k:=k) hkn;subst hva;have HL:=Hi hcan;have HTN:Hid (T*n≤1000000):=Hi (Ep HTM.out hkn hcan.len);have HW:=Hi hwz;have HD:=Hi (zr (fun m=>Sg.sg (evV m x)) ms [] hkn);clear hcan hwz
  go_wp2_with fail
  refine cM (iW a n c (ms.getD k []) ⟨tn,ta,tl,tc,tb,tm,td⟩ x K T _ HL.out HT2.out hn HW.out ZX.out hT hK1 hK2 hT4 HTN.out) fun x19 w19 hE _=>?_
  refine mV6 hE ?_ HX HX7 HC2 HT2 B32 HL;clear HX HX7 HC2 HT2 B32 HL;intro HX HX7 HC2 HT2 B32 HL;have hs_w19:=hE.size;replace b_B32:=bX3 B32;rw [HD.out] at HV;have hs:=mG (evV (ms.getD k []) x);obtain ⟨s,es⟩:∃ s,s=Sg.sg (evV (ms.getD k []) x):=⟨_,rfl⟩;rw [←es] at HV hs ⊢;have HS:=Hi hs;clear es HD HL HW hcell;have hs2:-1≤s∧s≤1:=by unfold IsS at hs;omega
  clear hs;obtain ⟨rl,hrl⟩:∃ rl,rl=(ms.drop (k+1)).map fun m=>Sg.sg (evV m x):=⟨_,rfl⟩
  rw [←hrl] at HV;have HRL:=Hi hrl;clear hrl;by_cases hs0:s=0
  case pos =>
   subst hs0;have HV2:Hid (cnt+vr la rl=jQ ms x):=Hi (by have:=HV.out;rw [show vr la (0 :: rl)=vr la rl by simp [vr]] at this;exact this);clear HV;go_wp2
   go_roundg (gk-1)
   case measure=>omega
   case rel=>exact ⟨k+1,cnt,la,zo,by go_num,rfl,rfl,HX.out,HX7.out,by rw [←HRL.out];exact HV2.out,zo,HLA.out⟩
  have hsb:(s == 0)=false:=by rw [nXs];exact hs0
  by_cases hl0:la=0
  case pos =>
   subst hl0;have HV2:Hid (cnt+vr s rl=jQ ms x):=Hi (by have:=HV.out;rw [show vr 0 (s :: rl)=vr s rl by simp [vr,hs0]] at this;exact this);clear HV;go_wp2
   go_roundg (gk-1)
   case measure=>omega
   case rel=>exact ⟨k+1,cnt,s,zo,by go_num,rfl,rfl,HX.out,HX7.out,by rw [←HRL.out];exact HV2.out,zo,HS.out⟩
  have hlb:(la == 0)=false:=by rw [nXs];exact hl0
  by_cases hsl:s=la
  case pos =>
   subst hsl;have HV2:Hid (cnt+vr s rl=jQ ms x):=Hi (by have:=HV.out;rw [show vr s (s :: rl)=vr s rl by simp [vr,hs0]] at this;exact this);clear HV;go_wp2
   go_roundg (gk-1)
   case measure=>omega
   case rel=>exact ⟨k+1,cnt,s,zo,by go_num,rfl,rfl,HX.out,HX7.out,by rw [←HRL.out];exact HV2.out,zo,HS.out⟩
  have hslb:(s == la)=false:=by rw [nXs];exact hsl
  have hlb2:(la != 0)=true:=by rw [bne,hlb];rfl
  have hslb2:(s != la)=true:=by rw [bne,hslb];rfl
  have HV2:Hid ((cnt+1)+vr s rl=jQ ms x):=Hi (by have:=HV.out;rw [show vr la (s :: rl)=1+vr s rl by simp [vr,hs0,hl0,hsl]] at this;omega);clear HV;go_wp2
  go_roundg (gk-1)
  case measure=>omega
  case rel=>exact ⟨k+1,cnt+1,s,zo,by go_num,by go_num,rfl,HX.out,HX7.out,by rw [←HRL.out];exact HV2.out,zo,HS.out⟩
theorem jU(v:SH)(ms:List (List Rat))(K:Nat)(t:RH)(x:Rat)(T:Nat)(w:World)(hc:ChK w v ms K)(ht:aA w t x)(hx:Sz T x)(hT:1≤T)(hT3:T≤1000) :
  ar 130 [CV v,t.v] w (fun _:Unit=>.int .i64 (jQ ms x)) (fun _ _=>True) :=
 xD v ms K t x T w hc ht hx hT zo (fun m hm=>nXy hT3 (hc.ml m hm))
theorem o5(v:SH)(ms:List (List Rat))(K:Nat)(t:RH)(x:Rat)(T:Nat)(w:World)(hc:ChK w v ms K)(h0:0<ms.length)(ht:aA w t x)(hx:Sz T x)(hT:1≤T)(hT4:T≤500000)(hTm:∀ m ∈ ms,T*m.length≤1000000) :
  ar 131 [CV v,t.v] w (fun _:Unit=>.bool (rtV ms x)) (fun _ _=>True):=by
 obtain ⟨va,vn,vc⟩:=v;obtain ⟨tn,ta,tl,tc,tb,tm,td⟩:=t;have HX:=Hi (Ext.refl w);have HC:=Hi hc;have HTM:=Hi hTm;have HT:=Hi ht;have ZX:=Hi hx;have hvl:=hc.len;obtain ⟨N,rfl⟩:∃ N,vn=N+1:=⟨vn-1,zo⟩;have hK1:=hc.k1;have hK2:=hc.k2;have hl:=hc.ln;clear hc ht hx hTm;unfold ar;go_enter Tryz.func131,Tryz.ntmps131;simp only [CV,SH.v]
 go_upto_region 1 with fail
 refine eX ?_;intro w1 hE B2 B3 hz_w1 hr_w1;refine mV3 hE ?_ HX HC HT;clear HX HC HT;intro HX HC HT;have hs_w1:=hE.size;replace b_B2:=bX3 B2;replace b_B3:=bX3 B3;obtain ⟨L,a,n,c,hva,hLl,hcell,hcan,hn,hwz⟩:=HC.out.at (k:=0) h0;subst hva;have HL:=Hi hcan;have HTN:Hid (T*n≤1000000):=Hi (Ep HTM.out h0 hcan.len);have HW:=Hi hwz;have hin:(0:Int)<(N:Int)+1:=zo;clear hcan hwz;obtain ⟨s,hs⟩:∃ s,s=Sg.sg (evV (ms.getD 0 []) x):=⟨_,rfl⟩;have HSE:=Hi hs;have HV:Hid (rtV ms x=(s == 0)):=Hi (by
  unfold rtV;rw [←hs];by_cases h:s=0
  ·rw [h];rfl
  ·rw [decide_eq_false h,nXs.2 h])
 clear hs;refine wpG 8 (fun opIx=>match opIx with
  | 5=>sU (.int .i64 s)
  | _=>.quiet) (fun _=>[]) fun w0 he0 hz0 hc0 hf0=>?_
 refine wps he0 (fun w1 hW hG=>?_) fun x20=>?_
 ·exact spc [.slice a n c,RH.v ⟨tn,ta,tl,tc,tb,tm,td⟩] Tryz.func78 ((by rw [HSE.out];exact iW a n c (ms.getD 0 []) ⟨tn,ta,tl,tc,tb,tm,td⟩ x K T _ (HL.out.ext hW) (HT.out.ext hW) hn HW.out ZX.out hT hK1 hK2 hT4 HTN.out))
 refine qZ ?_;refine aq ?_;intro w2 hI;have hE:=he0.out.trans hI.ext;clear hI he0 hz0 hc0 hf0;refine mV6 hE ?_ B2 B3 HX HC HL HT;clear B2 B3 HX HC HL HT;intro B2 B3 HX HC HL HT;have hs_w2:=hE.size;replace b_B2:=bX3 B2;replace b_B3:=bX3 B3;simp only [pD];go_wp2
 go_ret
 exact ⟨(),by rw [HV.out];rfl,HX.out,trivial⟩
theorem kk(v:SH)(ms:List (List Rat))(K:Nat)(t:RH)(x:Rat)(T:Nat)(w:World)(hc:ChK w v ms K)(h0:0<ms.length)(ht:aA w t x)(hx:Sz T x)(hT:1≤T)(hT3:T≤1000) :
  ar 131 [CV v,t.v] w (fun _:Unit=>.bool (rtV ms x)) (fun _ _=>True) :=
 o5 v ms K t x T w hc h0 ht hx hT zo (fun m hm=>nXy hT3 (hc.ml m hm))
theorem qr(ms:List (List Rat))(x:Rat):jQ ms x≤ms.length:=by
 unfold jQ;have:∀ (l:List Int) (z:Int),vr z l≤l.length:=by
  intro l;induction l with
  | nil=>intro z;exact nXe _
  | cons s l ih =>
   intro z;have h1:=ih z;have h2:=ih s;unfold vr;rw [List.length_cons];split
   ·omega
   ·split <;> omega
 have h:=this (ms.map fun m=>Sg.sg (evV m x)) 0
 rwa [nXl] at h
theorem CH:∀ (n:Nat) (a b:List Rat),(chn n a b).length≤n:=by
 intro n;induction n with
 | zero=>intro a b;exact nXe _
 | succ n ih =>
  intro a b;by_cases ha:a=[]
  ·rw [show chn (n+1) a b=[] by simp [chn,ha]];exact Nat.zero_le _
  ·by_cases hb:b=[]
   ·subst hb;rw [eQ ha];simp
   ·rw [ic ha hb,List.length_cons];exact Nat.succ_le_succ (ih _ _)
theorem CG{L:Nat}:∀ (n:Nat) (a b:List Rat),a.length≤L→b.length≤L→tz b=b→∀ m ∈ chn n a b,m.length≤L:=by
 intro n;induction n with
 | zero=>intro a b _ _ _ m hm;simp [chn] at hm
 | succ n ih =>
  intro a b ha hb ht m hm;by_cases ha0:a=[]
  ·rw [show chn (n+1) a b=[] by simp [chn,ha0]] at hm;simp at hm
  ·by_cases hb0:b=[]
   ·subst hb0;rw [eQ ha0] at hm;obtain rfl:m=a:=by simpa using hm
    exact ha
   ·rw [ic ha0 hb0] at hm;rcases List.mem_cons.1 hm with rfl|hm
    ·exact ha
    ·have:=pr a b (by rw [ht];exact hb0);rw [ht] at this;exact ih _ _ hb zo (bq _) m hm
theorem mN(p:List Rat):(aP p).length≤p.length+1:=CH _ _ _
theorem xZ{p:List Rat}(h:tz p≠[]):∀ m ∈ aP p,m.length≤p.length:=by
 refine CG _ _ _ ?_ ?_ (bq _)
 ·rw [aG];exact aj p
 ·rw [aG];have:=ia h;omega
theorem jW{p:List Rat}(h:tz p≠[]):0<(aP p).length:=by
 obtain ⟨l,e⟩:=nX h;rw [e];exact Nat.succ_pos _
theorem uw{p:List Rat}(h:tz p≠[]){N:Nat}(hN:(aP p).length=N+1):(aP p).getLast?.getD []=(aP p).getD N []∧tz ((aP p).getD N [])=(aP p).getD N []:=by
 have h1:(aP p).getLast?.getD []=(aP p).getD N []:=by
  rw [List.getLast?_eq_getElem?,hN,nXd];rfl
 have hlen:(ay (derL p)).length≤p.length:=by
  rw [aG];have:=ia h;omega
 obtain ⟨e,k1,k2,k3,-⟩:=rZ p.length (ay p) (ay (derL p)) hlen (bq _) (bq _) (fun h0=>h (spl_ne.1 h0));have h7:(aP p).getLast?=some e:=k1;refine ⟨h1,?_⟩;rw [←h1,h7];exact k3
theorem ChM.chk{w:World}{lo B:Nat}{v:SH}{r:List Rat}{K:Nat}(h:ChM w lo B v.v (aP r))(hr:tz r≠[])(hl:r.length≤999)(hW:∀ m ∈ aP r,∀ y ∈ m,Wz K y)(h1:1≤K)(h2:K≤30000000):ChK w v (aP r) K :=
 ⟨⟨lo,B,h⟩,hW,by have:=mN r;omega,fun m hm=>by have:=xZ hr m hm;omega,h1,h2⟩
theorem qG(pa:Option Addr)(P pc:Nat)(p:List Rat)(K:Nat)(w:World)(h:cN w ⟨pa,P,pc⟩ p)(hP:P≤900)(h0:tz p≠[])(hk:FrK K p)(hK:K≤12000000)(hK2:(P+1)*(K / 3)≤25000000)(hs:FrK K (sqfV p)) :
  ar 129 [.slice pa P pc] w CV (fun x w'=>ChK w' x (aP (aT p)) K):=by
 have HK1:=Hi hk;have HK2:=Hi hs;obtain ⟨S,D,hS,hD,hD2,hf,hSK⟩:=hk;obtain ⟨U,E,hU,hE,hE2,hfU,hUK⟩:=hs;have LP:=Hi (RIn.of h);have HX:=Hi (Ext.refl w);have hlen:=h.len;simp only at hlen;have H0:=Hi h0;have HF:=Hi hf;have HFU:=Hi hfU;have HSK:Hid (KZ K S P):=Hi (by rw [←hlen];exact hSK);have hUs:=KZ.small hUK;have HUK:Hid (KZ K U (sqfV p).length):=Hi hUK;have hsl:(sqfV p).length≤P:=by rw [←hlen];exact tX h0
 have hK1:1≤K:=zo;obtain ⟨N,hN⟩:∃ N,(aP p).length=N+1:=⟨(aP p).length-1,by have:=jW h0;omega⟩;have hN2:N≤P:=by have:=mN p;omega
 have HLA:=Hi (uw h0 hN);have HPl:Hid (p.length=P):=Hi hlen;have HRT:=Hi (tV h0).ne;have HMm:Hid ((aP p).getD N [] ∈ aP p):=Hi (by
  rw [nXd,List.getElem?_eq_getElem zo];exact List.getElem_mem _)
 have HRV:Hid (aT p=if 2≤(tz ((aP p).getD N [])).length then sqfV p else p):=Hi (by
  unfold aT;rw [HLA.out.1,HLA.out.2])
 clear h hlen hf hfU hSK hUK h0;unfold ar;go_enter Tryz.func129,Tryz.ntmps129
 go_upto_region 1 with fail
 refine nmA ?_;intro w1 hE B2 hz_w1 hr_w1;refine mV2 hE ?_ LP HX;clear LP HX;intro LP HX;have hs_w1:=hE.size;clear hE;replace b_B2:=bX3 B2
 go_wp2_with fail
 refine cM (nQ pa P pc p S D K _ LP.out.raw zo H0.out hS hD hD2 HF.out HSK.out zo) fun x5 w5 hE G5=>?_
 refine mV3 hE ?_ B2 LP HX;clear B2 LP HX;intro B2 LP HX;have hs_w5:=hE.size;clear hE;replace b_B2:=bX3 B2;obtain ⟨xa,xn,xc⟩:=x5;obtain ⟨⟨B,hB,hch⟩,hwz⟩:=G5.out;have HC:=Hi hch;have HW:=Hi hwz;clear G5 hch hwz
 go_upto_region 2 with fail
 refine nmA ?_;intro w6 hE B3 hz_w6 hr_w6;refine mV4 hE ?_ B2 LP HX HC;clear B2 LP HX HC;intro B2 LP HX HC;have hs_w6:=hE.size;clear hE;replace b_B2:=bX3 B2;replace b_B3:=bX3 B3;obtain ⟨hxn,hat⟩:=HC.out.at;rw [hN] at hxn;subst hxn;obtain ⟨L,a,n,c,hva,hLl,hcell,hcan⟩:=hat N zo;subst hva;have HL:=Hi hcan;have HZ:Hid (SzL K ((aP p).getD N [])):=Hi (fun y hy=>(HW.out _ HMm.out y hy).sz hK1);obtain ⟨D2,hD2e⟩:∃ D2,D2=(tz ((aP p).getD N [])).length:=⟨_,rfl⟩;have HDe:=Hi hD2e;rw [←hD2e] at HRV;clear hat hcan;have hN1:((N:Int)+1)-1=N:=by omega
 have hN3:(N:Int)<(N:Int)+1:=zo
 go_wp2_with fail
 refine cM (cV a n c ((aP p).getD N []) _ (HL.out.raw HZ.out zo)) fun x14 w14 hE _=>?_
 refine mV6 hE ?_ B3 B2 LP HX HC HL;clear B3 B2 LP HX HC HL;intro B3 B2 LP HX HC HL;have hs_w14:=hE.size;clear hE;replace b_B2:=bX3 B2;replace b_B3:=bX3 B3;rw [←hD2e];clear hD2e hcell;clear HL;by_cases hd:2≤D2
 case pos =>
  have hd2:(0:Int)<(D2:Int)-1:=zo;have HV:Hid (aT p=sqfV p):=Hi (by rw [HRV.out,if_pos hd]);clear hd
  go_wp2_with fail
  refine cM (yf pa P pc p K _ LP.out.raw zo H0.out HK1.out hK hK2 HK2.out) fun x17 w17 hE G17=>?_
  refine mV5 hE ?_ B3 B2 LP HX HC;clear B3 B2 LP HX HC;intro B3 B2 LP HX HC;have hs_w17:=hE.size;clear hE;replace b_B2:=bX3 B2;replace b_B3:=bX3 B3;obtain ⟨qa,qn,qc⟩:=x17;have HQ:=Hi G17.out.lin;have hqn:=HQ.out.len;simp only at hqn;clear G17;clear HC;clear LP;simp only [SH.v]
  go_wp2_with fail
  refine cM (tU qa qn qc (sqfV p) U E K _ HQ.out.can zo HRT.out hU hE hE2 HFU.out (by rw [←hqn];exact HUK.out) zo) fun x18 w18 hE G18=>?_
  refine mV4 hE ?_ B3 B2 HX HQ;clear B3 B2 HX HQ;intro B3 B2 HX HQ;have hs_w18:=hE.size;clear hE;replace b_B2:=bX3 B2;replace b_B3:=bX3 B3;obtain ⟨ya,yn,yc⟩:=x18;obtain ⟨⟨B',hB',hch'⟩,hwz'⟩:=G18.out;have HC2:=Hi hch';have HW2:=Hi hwz';clear G18 hch' hwz';clear HQ
  go_upto_region 4 with fail
  refine iC B3.out rfl ?_;intro w19 T;replace HX:=Hi (T.ext HX.out zo);replace B2:=Hi (T.rest _ _ zo B2.out);replace B3:=Hi (T.bx);replace HC2:=Hi (HC2.out.put T zo);have hs_w19:=nle T.size;have hr_w19:=nle T.size.symm;clear T;replace b_B2:=bX3 B2;replace b_B3:=bX3 B3;go_wp2;refine iC (F:=fun W=>bodyPost _ _ _ _ _ W) B2.out rfl ?_;intro w20 T;replace HX:=Hi (T.ext HX.out zo);replace B2:=Hi (T.bx);replace B3:=Hi (T.rest _ _ zo B3.out);replace HC2:=Hi (HC2.out.put T zo);have hs_w20:=nle T.size;have hr_w20:=nle T.size.symm;clear T;replace b_B2:=bX3 B2;replace b_B3:=bX3 B3;exact nXa (v:=CV ⟨ya,yn,yc⟩) (by simp [results,Tryz.results129,go_sem,CV,b_B2.1]) rfl ⟨⟨ya,yn,yc⟩,rfl,HX.out,by rw [HV.out];exact HC2.out.chk HRT.out zo HW2.out hK1 zo⟩
 have hd2:¬ (0:Int)<(D2:Int)-1:=zo;have HV:Hid (aT p=p):=Hi (by rw [HRV.out,if_neg hd]);go_wp2;refine iC (F:=fun W=>bodyPost _ _ _ _ _ W) B2.out rfl ?_;intro w20 T;replace HX:=Hi (T.ext HX.out zo);replace LP:=Hi (LP.out.put T zo);replace B2:=Hi (T.bx);replace HC:=Hi (HC.out.put T zo);replace B3:=Hi (T.rest _ _ zo B3.out);have hs_w20:=nle T.size;have hr_w20:=nle T.size.symm;clear T;replace b_B2:=bX3 B2;replace b_B3:=bX3 B3;exact nXa (v:=CV ⟨some ⟨L,0,none⟩,N+1,xc⟩) (by simp [results,Tryz.results129,go_sem,CV,b_B2.1]) rfl ⟨⟨some ⟨L,0,none⟩,N+1,xc⟩,rfl,HX.out,by rw [HV.out];exact HC.out.chk H0.out (by rw [HPl.out];omega) HW.out hK1 zo⟩
theorem qH(pa:Option Addr)(P pc:Nat)(p:List Rat)(K:Nat)(w:World)(h:bg w ⟨pa,P,pc⟩ p)(hP:P≤900)(h0:tz p≠[])(hk:FrK K p)(hK:K≤12000000)(hK2:(P+1)*(K / 3)≤25000000)(hs:FrK K (sqfV p)) :
  ar 129 [.slice pa P pc] w CV (fun x w'=>ChK w' x (aP (aT p)) K):=by
 obtain ⟨S,D,h1,h2,h3,h4,h5⟩:=id hk;exact qG pa P pc p K w (h.raw (h4.sz h1 h2 h3) (by have:=KZ.small h5;omega)) hP h0 hk hK hK2 hs
def btM(ms:List (List Rat))(lo hi:Rat):Int:=(jQ ms lo:Int)-jQ ms hi-(if rtV ms hi=true∧lo<hi then 1 else 0)
theorem rX{a b:Rat}:cG a b<0↔a<b:=by
 unfold cG;split
 ·exact ⟨fun _=>by assumption,fun _=>by decide⟩
 ·split <;> constructor <;> intro h <;> first|omega|contradiction
theorem qI(v:SH)(ms:List (List Rat))(K:Nat)(s t:RH)(a b:Rat)(T:Nat)(w:World)(hc:ChK w v ms K)(h0:0<ms.length)(hs:aA w s a)(ht:aA w t b)(za:Sz T a)(zb:Sz T b)(hT:1≤T)(hT3:T≤1000) :
  ar 137 [CV v,s.v,t.v] w (fun _:Unit=>.int .i64 (btM ms a b)) (fun _ _=>True):=by
 obtain ⟨va,vn,vc⟩:=v;obtain ⟨sn,sa,sl,sc,sb,sm,sd⟩:=s;obtain ⟨tn,ta,tl,tc,tb,tm,td⟩:=t;have HX:=Hi (Ext.refl w);have HC:=Hi hc;have HS:=Hi hs;have HT:=Hi ht;have ZA:=Hi za;have ZB:=Hi zb;have hl:=hc.ln;have v1:=qr ms a;have v2:=qr ms b;obtain ⟨x1,hx1⟩:∃ x1,x1=jQ ms a:=⟨_,rfl⟩;obtain ⟨x2,hx2⟩:∃ x2,x2=jQ ms b:=⟨_,rfl⟩;have HV1:=Hi hx1;have HV2:=Hi hx2;rw [←hx1] at v1;rw [←hx2] at v2;clear hc hs ht za zb hx1 hx2;unfold ar;go_enter Tryz.func137,Tryz.ntmps137;simp only [CV,SH.v]
 go_upto_region 1 with fail
 refine sO ?_;intro w1 hE B3 B4 B5 hz_w1 hr_w1;refine mV4 hE ?_ HX HC HS HT;clear HX HC HS HT;intro HX HC HS HT;have hs_w1:=hE.size;replace b_B3:=bX3 B3;replace b_B4:=bX3 B4;replace b_B5:=bX3 B5
 go_upto_region 2 with fail
 refine wpG 8 (fun opIx=>match opIx with
  | 2=>sU (.int .i64 (x1:Nat))
  | 5=>sU (.int .i64 (x2:Nat))
  | _=>.quiet) (fun _=>[]) fun w0 he0 hz0 hc0 hf0=>?_
 refine wps he0 (fun w1 hW hG=>?_) fun x20=>?_
 ·exact (by rw [HV1.out];exact gK #[CV ⟨va,vn,vc⟩] [CV ⟨va,vn,vc⟩,RH.v ⟨sn,sa,sl,sc,sb,sm,sd⟩] rfl rfl rfl Tryz.func130 kZ kZ (jU ⟨va,vn,vc⟩ ms K ⟨sn,sa,sl,sc,sb,sm,sd⟩ a T _ (HC.out.ext hW) (HS.out.ext hW) ZA.out hT hT3))
 refine qZ ?_;refine wps he0 (fun w1 hW hG=>?_) fun x21=>?_
 ·exact (by rw [HV2.out];exact gK #[CV ⟨va,vn,vc⟩] [CV ⟨va,vn,vc⟩,RH.v ⟨tn,ta,tl,tc,tb,tm,td⟩] rfl rfl rfl Tryz.func130 kZ kZ (jU ⟨va,vn,vc⟩ ms K ⟨tn,ta,tl,tc,tb,tm,td⟩ b T _ (HC.out.ext hW) (HT.out.ext hW) ZB.out hT hT3))
 refine qZ ?_;refine aq ?_;intro w2 hI;have hE:=he0.out.trans hI.ext;clear hI he0 hz0 hc0 hf0;refine mV7 hE ?_ B3 B4 B5 HX HS HC HT;clear B3 B4 B5 HX HS HC HT;intro B3 B4 B5 HX HS HC HT;have hs_w2:=hE.size;replace b_B3:=bX3 B3;replace b_B4:=bX3 B4;replace b_B5:=bX3 B5;simp only [pD]
 go_wp2_with fail
 refine cM (kk ⟨va,vn,vc⟩ ms K ⟨tn,ta,tl,tc,tb,tm,td⟩ b T _ HC.out h0 HT.out ZB.out hT hT3) fun x20 w20 hE _=>?_
 refine mV7 hE ?_ B3 B4 B5 HX HS HC HT;clear B3 B4 B5 HX HS HC HT;intro B3 B4 B5 HX HS HC HT;have hs_w20:=hE.size;replace b_B3:=bX3 B3;replace b_B4:=bX3 B4;replace b_B5:=bX3 B5;obtain ⟨r,hr⟩:∃ r,r=rtV ms b:=⟨_,rfl⟩;have HR:=Hi hr;rw [←hr];clear hr;cases r
 case false =>
  have HE:Hid (btM ms a b=(x1:Int)-(x2:Int)):=Hi (by unfold btM;rw [←HR.out,←HV1.out,←HV2.out,if_neg (by simp)];omega);go_wp2
  go_ret
  exact ⟨(),by rw [HE.out];rfl,HX.out,trivial⟩
 go_wp2_with fail
 refine cM (bS ⟨sn,sa,sl,sc,sb,sm,sd⟩ ⟨tn,ta,tl,tc,tb,tm,td⟩ a b _ (HS.out.raw ZA.out zo) (HT.out.raw ZB.out zo)) fun x24 w24 hE _=>?_
 refine mV7 hE ?_ B3 B4 B5 HX HS HC HT;clear B3 B4 B5 HX HS HC HT;intro B3 B4 B5 HX HS HC HT;have hs_w24:=hE.size;replace b_B3:=bX3 B3;replace b_B4:=bX3 B4;replace b_B5:=bX3 B5;by_cases hlt:a<b
 ·have hc:cG a b<0:=rX.2 hlt;have HE:Hid (btM ms a b=(x1:Int)-(x2:Int)-1):=Hi (by unfold btM;rw [←HR.out,←HV1.out,←HV2.out,if_pos ⟨rfl,hlt⟩]);generalize cG a b=c at *
  clear hlt;go_wp2
  go_ret
  exact ⟨(),by rw [HE.out];rfl,HX.out,trivial⟩
 ·have hc:¬ cG a b<0:=fun h=>hlt (rX.1 h)
  have HE:Hid (btM ms a b=(x1:Int)-(x2:Int)):=Hi (by unfold btM;rw [←HR.out,←HV1.out,←HV2.out,if_neg (fun h=>hlt h.2)];omega);generalize cG a b=c at *
  clear hlt;go_wp2
  go_ret
  exact ⟨(),by rw [HE.out];rfl,HX.out,trivial⟩
theorem sF(pa:Option Addr)(P pc:Nat)(p:List Rat)(K:Nat)(s t:RH)(a b:Rat)(T:Nat)(w:World)(h:cN w ⟨pa,P,pc⟩ p)(hP:P≤49)(h0:tz p≠[])(hk:FrK K p)(hK:K≤12000000)(hK2:(P+1)*(K / 3)≤25000000)(hsq:FrK K (sqfV p))
 (hs:aX w s a)(ht:aX w t b)(za:Sz T a)(zb:Sz T b)(hT:1≤T)(hT3:T≤1000) :
  ar 80 [.slice pa P pc,IvV (s,t)] w (fun _:Unit=>.tuple #[.int .i64 (zG p (loV a b) (hiV a b)),.int .i64 0]) (fun _ _=>True):=by
 obtain ⟨sn,sa,sl,sc,sb,sm,sd⟩:=s;obtain ⟨tn,ta,tl,tc,tb,tm,td⟩:=t;have HX:=Hi (Ext.refl w);have LP:=Hi (RIn.of h);have HS:=Hi hs;have HT:=Hi ht;have hlen:=h.len;simp only at hlen;have HKp:=Hi hk;have HKs:=Hi hsq;have H0:=Hi h0;have HSz:Hid (SzL K p):=Hi (by
  obtain ⟨S,D,h1,h2,h3,h4,h5⟩:=hk;exact (h4.sz h1 h2 h3).mono (by have:=KZ.small h5;omega))
 have HCK:Hid (tw p=0):=Hi (by unfold tw;rw [if_neg (by have:=aj p;omega),if_neg h0]);have ZA:Hid (Sz T (loV a b)):=Hi (by rcases oo a b with e|e <;> rw [e] <;> assumption);have ZB:Hid (Sz T (hiV a b)):=Hi (by rcases oD a b with e|e <;> rw [e] <;> assumption);have hms:Hid (0<(aP (aT p)).length):=Hi (jW (fk h0).ne);obtain ⟨lo,hlo⟩:∃ lo,lo=loV a b:=⟨_,rfl⟩;obtain ⟨hi,hhi⟩:∃ hi,hi=hiV a b:=⟨_,rfl⟩;rw [←hlo] at ZA;rw [←hhi] at ZB;have v1:=qr (aP (aT p)) lo;have v2:=qr (aP (aT p)) hi;have hml:(aP (aT p)).length≤P+1:=by
  have e1:=mN (aT p);have e2:(aT p).length≤p.length:=by unfold aT;split;exact tX h0;exact nXe _
  omega
 obtain ⟨x1,hx1⟩:∃ x1,x1=jQ (aP (aT p)) lo:=⟨_,rfl⟩;obtain ⟨x2,hx2⟩:∃ x2,x2=jQ (aP (aT p)) hi:=⟨_,rfl⟩;have HV1:=Hi hx1;have HV2:=Hi hx2;rw [←hx1] at v1;rw [←hx2] at v2;have hx1b:x1≤100:=zo;have hx2b:x2≤100:=zo;have HCN:Hid (zG p (loV a b) (hiV a b)=(x1:Int)-(x2:Int)+(if rtV (aP (aT p)) lo=true then 1 else 0)):=Hi (by rw [hx1,hx2,←hlo,←hhi];rfl);have HLO:=Hi hlo;have HHI:=Hi hhi;obtain ⟨ms,hmse⟩:∃ ms,ms=aP (aT p):=⟨_,rfl⟩;have HMS:=Hi hmse;rw [←hmse] at hms HV1 HV2 HCN;clear h hs ht hk hsq h0 za zb hlo hhi hx1 hx2 v1 v2 hml hmse hlen;unfold ar;go_enter Tryz.func80,Tryz.ntmps80
 go_upto_region 1 with fail
 refine nmA ?_;intro w1 hE B3 hz_w1 hr_w1;refine mV4 hE ?_ HX LP HS HT;clear HX LP HS HT;intro HX LP HS HT;have hs_w1:=hE.size;replace b_B3:=bX3 B3
 go_wp2_with fail
 refine cM (mI pa P pc p _ LP.out.raw) fun x11 w11 hE _=>?_
 refine mV5 hE ?_ B3 HX LP HS HT;clear B3 HX LP HS HT;intro B3 HX LP HS HT;have hs_w11:=hE.size;replace b_B3:=bX3 B3;rw [HCK.out]
 go_wp2_with fail
 refine cM (cE ⟨sn,sa,sl,sc,sb,sm,sd⟩ ⟨tn,ta,tl,tc,tb,tm,td⟩ a b _ HS.out HT.out) fun x16 w16 hE G16=>?_
 refine mV5 hE ?_ B3 HX LP HS HT;clear B3 HX LP HS HT;intro B3 HX LP HS HT;have hs_w16:=hE.size;replace b_B3:=bX3 B3;obtain ⟨⟨ln,la,ll,lc,lb,lm,ld⟩,⟨hn,ha,hl,hc,hb,hm,hd⟩⟩:=x16;rw [←HLO.out,←HHI.out] at G16;have HL:=Hi G16.out.1;have HH:=Hi G16.out.2;clear G16;clear HS;clear HT
 go_upto_region 5 with fail
 refine dC B3.out rfl ?_;intro w17 T;replace HX:=Hi (T.ext HX.out zo);replace LP:=Hi (LP.out.put T zo);replace B3:=Hi (T.bx);replace HL:=Hi (HL.out.keep T.keep);replace HH:=Hi (HH.out.keep T.keep);have hs_w17:=nle T.size;have hr_w17:=nle T.size.symm;clear T;replace b_B3:=bX3 B3
 go_wp2_with fail
 refine cM (qG pa P pc p K _ LP.out.raw zo H0.out HKp.out hK hK2 HKs.out) fun x18 w18 hE G18=>?_
 refine mV5 hE ?_ HX LP B3 HL HH;clear HX LP B3 HL HH;intro HX LP B3 HL HH;have hs_w18:=hE.size;replace b_B3:=bX3 B3;rw [←HMS.out] at G18;obtain ⟨va,vn,vc⟩:=x18;simp only [CV,SH.v]
 go_upto_region 6 with fail
 refine nmA ?_;intro w19 hE B7 hz_w19 hr_w19;refine mV6 hE ?_ G18 HX LP B3 HL HH;clear G18 HX LP B3 HL HH;intro G18 HX LP B3 HL HH;have hs_w19:=hE.size;replace b_B3:=bX3 B3;replace b_B7:=bX3 B7
 go_upto_region 7 with fail
 refine wpG 10 (fun opIx=>match opIx with
  | 3=>sU (.int .i64 (x1:Nat))
  | 7=>sU (.int .i64 (x2:Nat))
  | _=>.quiet) (fun _=>[]) fun w0 he0 hz0 hc0 hf0=>?_
 refine wps he0 (fun w1 hW hG=>?_) fun x30=>?_
 ·exact (by rw [HV1.out];exact gK #[CV ⟨va,vn,vc⟩] [CV ⟨va,vn,vc⟩,RH.v ⟨ln,la,ll,lc,lb,lm,ld⟩] rfl rfl rfl Tryz.func130 kZ kZ (jU ⟨va,vn,vc⟩ ms K ⟨ln,la,ll,lc,lb,lm,ld⟩ lo T _ (G18.out.ext hW) (HL.out.ext hW) ZA.out hT hT3))
 refine qZ ?_;refine wps he0 (fun w1 hW hG=>?_) fun x31=>?_
 ·exact (by rw [HV2.out];exact gK #[CV ⟨va,vn,vc⟩] [CV ⟨va,vn,vc⟩,RH.v ⟨hn,ha,hl,hc,hb,hm,hd⟩] rfl rfl rfl Tryz.func130 kZ kZ (jU ⟨va,vn,vc⟩ ms K ⟨hn,ha,hl,hc,hb,hm,hd⟩ hi T _ (G18.out.ext hW) (HH.out.ext hW) ZB.out hT hT3))
 refine qZ ?_;refine aq ?_;intro w20 hI;have hE:=he0.out.trans hI.ext;clear hI he0 hz0 hc0 hf0;refine mV7 hE ?_ B7 HX LP B3 HL G18 HH;clear B7 HX LP B3 HL G18 HH;intro B7 HX LP B3 HL G18 HH;have hs_w20:=hE.size;replace b_B3:=bX3 B3;replace b_B7:=bX3 B7;simp only [pD]
 go_wp2_with fail
 refine cM (kk ⟨va,vn,vc⟩ ms K ⟨ln,la,ll,lc,lb,lm,ld⟩ lo T _ G18.out hms.out HL.out ZA.out hT hT3) fun x33 w33 hE _=>?_
 refine mV7 hE ?_ B7 HX LP B3 HL G18 HH;clear B7 HX LP B3 HL G18 HH;intro B7 HX LP B3 HL G18 HH;have hs_w33:=hE.size;replace b_B3:=bX3 B3;replace b_B7:=bX3 B7;obtain ⟨r,hr⟩:∃ r,r=rtV ms lo:=⟨_,rfl⟩;rw [←hr] at HCN ⊢;clear hr;cases r
 ·go_wp2;exact nXa (v:=.tuple #[.int .i64 (zG p (loV a b) (hiV a b)),.int .i64 0]) (by rw [HCN.out];simp [results,Tryz.results80,go_sem]) rfl ⟨(),rfl,HX.out,trivial⟩
 ·go_wp2;exact nXa (v:=.tuple #[.int .i64 (zG p (loV a b) (hiV a b)),.int .i64 0]) (by rw [HCN.out];simp [results,Tryz.results80,go_sem]) rfl ⟨(),rfl,HX.out,trivial⟩
theorem sG(pa:Option Addr)(P pc:Nat)(p:List Rat)(K:Nat)(s t:RH)(a b:Rat)(T:Nat)(w:World)(h:bg w ⟨pa,P,pc⟩ p)(hP:P≤49)(h0:tz p≠[])(hk:FrK K p)(hK:K≤12000000)(hK2:(P+1)*(K / 3)≤25000000)(hsq:FrK K (sqfV p))
 (hs:aX w s a)(ht:aX w t b)(za:Sz T a)(zb:Sz T b)(hT:1≤T)(hT3:T≤1000) :
  ar 80 [.slice pa P pc,IvV (s,t)] w (fun _:Unit=>.tuple #[.int .i64 (zG p (loV a b) (hiV a b)),.int .i64 0]) (fun _ _=>True):=by
 obtain ⟨S,D,h1,h2,h3,h4,h5⟩:=id hk;exact sF pa P pc p K s t a b T w (h.raw (h4.sz h1 h2 h3) (by have:=KZ.small h5;omega)) hP h0 hk hK hK2 hsq hs ht za zb hT hT3
theorem DS{S:Nat}{x:Rat}(h:Fr S 1 x):Wz S x:=by
 unfold Fr at h;rw [show x*((1:Nat):Rat)=x from Rat.mul_one x] at h;exact h
theorem D8{S:Nat}{p:List Rat}(h:∀ x ∈ p,Wz S x)(hl:p.length≤100000):∀ x ∈ tz (derL p),Wz (S+1) x:=fun x hx=>DS (iH (D:=1) (fun y hy=>Fr.one (h y hy)) hl x hx)
theorem Bf(n:Nat)(x:Rat):jI n [] x=0:=by cases n <;> simp [jI]
theorem De:∀ (n:Nat) (p:List Rat) (x:Rat),IsS (jI n p x):=by
 intro n;induction n with
 | zero=>intro p x;exact Or.inr (Or.inl rfl)
 | succ n ih =>
  intro p x;unfold jI;split
  ·exact Or.inr (Or.inl rfl)
  ·split
   ·exact mG _
   ·exact ih _ _
theorem xH(pa:Option Addr)(P pc:Nat)(p:List Rat)(t:RH)(x:Rat)(S T:Nat)(w:World)(h:bg w ⟨pa,P,pc⟩ p)(hP:P≤900)(htz:tz p=p)(hW:∀ y ∈ p,Wz S y)(hS:1≤S)(hS2:S≤16770000)(ht:aA w t x)(hx:Sz T x)(hT:1≤T)(hT4:T≤500000)(hT3:T*P≤1000000) :
  ar 82 [.slice pa P pc,t.v] w (fun _:Unit=>.int .i64 (jI (P+1) p x)) (fun _ _=>True):=by
 obtain ⟨tn,ta,tl,tc,tb,tm,td⟩:=t;have HX:=Hi (Ext.refl w);have LP:=Hi h.lin;have HT:=Hi ht;have ZX:=Hi hx;have HW:=Hi hW;have HTZ:=Hi htz;have HLn:=Hi h.len;simp only at HLn;clear h ht hx hW htz;unfold ar;go_enter Tryz.func82,Tryz.ntmps82
 go_upto_region 1 with fail
 refine nmA ?_;intro w1 hE B3 hz_w1 hr_w1;refine mV3 hE ?_ HX LP HT;clear HX LP HT;intro HX LP HT;have hs_w1:=hE.size;replace b_B3:=bX3 B3;obtain ⟨b3,hb3⟩:∃ b,b=w.heap.size:=⟨_,rfl⟩;have hw3:w.heap.size≤b3:=zo;rw [←hb3] at B3 ⊢;clear hb3 b_B3;go_wp2
 go_loopg [0] P (fun g v wr=>∃ (qa:Option Addr) (qn qc i:Nat) (q:List Rat),v=.slice qa qn qc∧Ext w wr∧bg wr ⟨qa,qn,qc⟩ q∧aA wr ⟨tn,ta,tl,tc,tb,tm,td⟩ x∧wr.heap[b3]?=some (.cells #[.bool tn,.slice ta tl tc,.slice tb tm td] 37 (0,0))∧tz q=q∧i+g=P∧qn≤g∧(∀ y ∈ q,Wz (S+i) y)∧jI (g+1) q x=jI (P+1) p x)
 case atStart=>exact ⟨pa,P,pc,0,p,rfl,HX.out,LP.out.can,HT.out,B3.out,HTZ.out,zo,nXe _,HW.out,rfl⟩
 case round =>
  obtain ⟨qa,qn,qc,i,q,rfl,g1,g2,g3,g4,g5,g6,g7,g8,g9⟩:=hrel;clear HX LP HT B3;have HX:=Hi g1;have LQ:=Hi g2.lin;have HT:=Hi g3;have B3:=Hi g4;have HQZ:=Hi g5;have HQW:=Hi g8;have HV:=Hi g9;have HQl:=Hi g2.len;simp only at HQl;clear g1 g2 g3 g4 g5 g8 g9;replace b_B3:=bX3 B3;by_cases h0:qn=0
  case pos =>
   subst h0;have HE:Hid (jI (P+1) p x=0):=Hi (by rw [←HV.out,nXj.1 HQl.out,Bf]);go_wp2
   go_ret
   exact ⟨(),by rw [HE.out];rfl,HX.out,trivial⟩
  obtain ⟨m,rfl⟩:∃ m,qn=m+1:=⟨qn-1,zo⟩;have hpos:(0:Int)<(m:Int)+1:=zo;have Hne:Hid (q≠[]):=Hi (fun h=>by have:=HQl.out;rw [h] at this;simp at this)
  go_wp2_with fail
  refine cM (iW qa (m+1) qc q ⟨tn,ta,tl,tc,tb,tm,td⟩ x (S+i) T _ LQ.out.can HT.out zo HQW.out ZX.out hT zo zo hT4 (nXf (nXg T zo) hT3)) fun x11 w11 hE _=>?_
  refine mV4 hE ?_ HX LQ HT B3;clear HX LQ HT B3;intro HX LQ HT B3;have hs_w11:=hE.size;replace b_B3:=bX3 B3;obtain ⟨s,hs⟩:∃ s,s=Sg.sg (evV q x):=⟨_,rfl⟩;have HS:=Hi hs;rw [←hs];clear hs;obtain ⟨g0,rfl⟩:∃ g0,gk=g0+1:=⟨gk-1,zo⟩;have HST:Hid (jI (g0+1+1) q x=if s≠0 then s else jI (g0+1) (tz (derL q)) x):=Hi (by
   rw [show jI (g0+1+1) q x=if q=[] then 0 else if Sg.sg (evV q x)≠0 then Sg.sg (evV q x) else jI (g0+1) (tz (derL q)) x from rfl,if_neg Hne.out,←HS.out])
  by_cases hs0:s=0
  case neg =>
   have hsb:(s == 0)=false:=by rw [nXs];exact hs0
   have hsb2:(s != 0)=true:=by rw [bne,hsb];rfl
   have HE:Hid (jI (P+1) p x=s):=Hi (by rw [←HV.out,HST.out,if_pos hs0]);go_wp2
   go_ret
   exact ⟨(),by rw [HE.out];rfl,HX.out,trivial⟩
  have HE:Hid (jI (g0+1) (tz (derL q)) x=jI (P+1) p x):=Hi (by rw [←HV.out,HST.out,if_neg (fun h=>h hs0)]);subst hs0;have HQ2:Hid ((tz (derL q)).length+1≤m+1):=Hi (by have:=ia (p:=q) (by rw [HQZ.out];exact Hne.out);have:=HQl.out;omega);have HSZ:Hid (SzL 16777216 q):=Hi (fun y hy=>((HQW.out y hy).sz zo).mono zo)
  go_wp2_with fail
  refine cM (i9 qa (m+1) qc q _ (LQ.out.can.raw HSZ.out zo) zo HSZ.out) fun x16 w16 hE G16=>?_
  refine mV4 hE ?_ HX LQ HT B3;clear HX LQ HT B3;intro HX LQ HT B3;have hs_w16:=hE.size;replace b_B3:=bX3 B3;obtain ⟨da,dn,dc⟩:=x16;have HD:Hid (bg w16 ⟨da,dn,dc⟩ (tz (derL q))):=Hi G16.out.can;have hdn:=HD.out.len;simp only at hdn;have hd2:=HQ2.out;simp only [SH.v];go_wp2
  go_roundg g0
  case measure=>omega
  case rel=>exact ⟨da,dn,dc,i+1,_,rfl,HX.out,HD.out,HT.out,B3.out,bQ _,zo,zo,fun y hy=>(D8 HQW.out (by have:=HQl.out;omega) y hy).mono zo,HE.out⟩
theorem xI(pa:Option Addr)(P pc:Nat)(p:List Rat)(t:RH)(x:Rat)(S T:Nat)(w:World)(h:bg w ⟨pa,P,pc⟩ p)(hP:P≤900)(htz:tz p=p)(hW:∀ y ∈ p,Wz S y)(hS:1≤S)(hS2:S≤16770000)(ht:aA w t x)(hx:Sz T x)(hT:1≤T)(hT3:T≤1000) :
  ar 82 [.slice pa P pc,t.v] w (fun _:Unit=>.int .i64 (jI (P+1) p x)) (fun _ _=>True) :=
 xH pa P pc p t x S T w h hP htz hW hS hS2 ht hx hT zo (nXy hT3 (by omega:P≤1000))
end Go.Proofs.YtkcpmclnocmalaaGreat
