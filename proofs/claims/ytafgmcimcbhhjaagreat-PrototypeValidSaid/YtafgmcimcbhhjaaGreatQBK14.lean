import Derived.Test.YtafgmcimcbhhjaaGreatQBK13
set_option linter.unusedVariables false
set_option maxHeartbeats 8000000
set_option maxRecDepth 8000
namespace Go.Proofs.YtafgmcimcbhhjaaGreat
open Go.RowKit Go.Front Go.Num Stab Sg
attribute [local go_sem] XW.cell XW.frozen
theorem mZ{P:Program}{o:Oper}{a:Act}{α:Type}{mk:α→Value}{φ:α→World→Prop}{w:World}{f:FuncId}{fn:Func}{t:Operand}{xs:Array Operand}{ats:Array TypeId}(first:Array Value)(args:List Value)
 (ho:o.op=.call { callee:=.value t,args:=xs,argTypes:=ats })(ht:a.eval t=.func (.func f) first #[])(ha:first.toList++xs.toList.map a.eval=args)
 (hf:P.funcs[f]?=some fn)(hn:(fn.name == "runtime.NumGoroutine")=false)(hb:fn.body.isNone=false)
 (h:Calls P f args.toArray w (fun e w''=>∃ x,e=.returned (mk x)∧Ext w w''∧φ x w'')):gL P o a w mk φ:=by
 obtain ⟨dst,op,type,pos,after,guard⟩:=o;simp only at ho;subst ho;unfold gL;have ha':first++xs.map a.eval++#[]=args.toArray:=by
  rw [←ha,Array.append_empty];apply Array.ext';simp
 have:execOp a.eval { dst,op:=.call { callee:=.value t,args:=xs,argTypes:=ats },type,pos,after,guard }=callFunc f (first++xs.map a.eval++#[]):=by
  simp only [execOp,resolve,ht,Deferred.ofValue];rfl
 rw [this,ha',kC hf hn hb];exact ⟨Ext.refl _,h⟩
def ux(p:List Rat):Int:=if 49<(tz p).length then 12 else if tz p=[] then 3 else 0
theorem sx(ao:Option Addr)(n c:Nat)(p:List Rat)(w:World)(h:ct w ⟨ao,n,c⟩ p):ak 68 [.slice ao n c] w (fun _:Unit=>.int .i64 (ux p)) (fun _ _=>True):=by
 have HX:=Hi (Ext.refl w);have HP:=Hi h;clear h;unfold ak;go_enter Tryz.func68,Tryz.ntmps68
 go_wp2_with fail
 refine cM (dr ao n c p _ HP.out) fun x5 w5 hE _=>?_
 replace HX:=hE.tr HX;obtain ⟨P,hP⟩:∃ P,P=(tz p).length:=⟨_,rfl⟩;rw [←hP];by_cases h1:49<P
 ·have e:ux p=12:=by unfold ux;rw [←hP,if_pos h1]
  have E:=Hi e;clear e;go_wp2
  go_ret
  exact ⟨(),by rw [E.out];rfl,HX.out,trivial⟩
 ·have h2:¬ (48:Int)<(P:Int)-1:=zo;by_cases h3:P=0
  ·have e:ux p=3:=by unfold ux;rw [←hP,if_neg h1,if_pos (nXj.1 zo)]
   have E:=Hi e;clear e;go_wp2
   go_ret
   exact ⟨(),by rw [E.out];rfl,HX.out,trivial⟩
  ·have e:ux p=0:=by unfold ux;rw [←hP,if_neg h1,if_neg (fun h=>h3 (by rw [hP,h];rfl))]
   have E:=Hi e;clear e;have h4:¬ (P:Int)-1<0:=zo;go_wp2
   go_ret
   exact ⟨(),by rw [E.out];rfl,HX.out,trivial⟩
theorem ChM.at{w:World}{lo B:Nat}{va:Option Addr}{vn vc:Nat}{ms:List (List Rat)}(h:ChM w lo B (SH.v ⟨va,vn,vc⟩) ms):vn=ms.length∧∀ k,k<ms.length→∃ L a n c,va=some ⟨L,0,none⟩∧L<w.heap.size∧w.cell? ⟨L,k,none⟩=some (.slice a n c)∧aD w ⟨a,n,c⟩ (ms.getD k []):=by
 obtain ⟨xs,h1,h2,h3⟩:=h;rcases h1 with ⟨e,rfl⟩|⟨L,cap,re,e,g1,g2,g3⟩
 ·simp only [SH.v,Value.slice.injEq] at e;refine ⟨by rw [e.2.1,←h2];rfl,fun k hk=>?_⟩;rw [←h2] at hk;simp at hk
 ·simp only [SH.v,Value.slice.injEq] at e;refine ⟨by rw [e.2.1,h2],fun k hk=>?_⟩;obtain ⟨b,-,-,h4⟩:=h3 k hk;exact ⟨L,_,_,_,e.1,g2.lt,g2.cell zo,h4.can⟩
structure ChK (w:World) (v:SH) (ms:List (List Rat)) (K:Nat):Prop where
 ch:∃ lo B,ChM w lo B v.v ms
 wz:∀ m ∈ ms,∀ y ∈ m,Wz K y
 ln:ms.length≤1000
 ml:∀ m ∈ ms,m.length≤1000
 k1:1≤K
 k2:K≤30000000
theorem ChK.ext{w w':World}{v:SH}{ms:List (List Rat)}{K:Nat}(h:ChK w v ms K)(he:Ext w w'):ChK w' v ms K :=
 ⟨let ⟨lo,B,h1⟩:=h.ch;⟨lo,B,h1.ext he⟩,h.wz,h.ln,h.ml,h.k1,h.k2⟩
instance {w w':World} {v:SH} {ms:List (List Rat)} {K:Nat}:Go.Front.Mv w w' (ChK w v ms K) (ChK w' v ms K):=⟨fun e h=>ChK.ext h e⟩

theorem ChK.len{w:World}{va:Option Addr}{vn vc:Nat}{ms:List (List Rat)}{K:Nat}(h:ChK w ⟨va,vn,vc⟩ ms K):vn=ms.length:=let ⟨_,_,h1⟩:=h.ch;h1.at.1
theorem ChK.at{w:World}{va:Option Addr}{vn vc:Nat}{ms:List (List Rat)}{K k:Nat}(h:ChK w ⟨va,vn,vc⟩ ms K)(hk:k<ms.length):∃ L a n c,va=some ⟨L,0,none⟩∧L<w.heap.size∧w.cell? ⟨L,k,none⟩=some (.slice a n c)∧aD w ⟨a,n,c⟩ (ms.getD k [])∧n≤1000∧∀ y ∈ ms.getD k [],Wz K y:=by
 obtain ⟨lo,B,h1⟩:=h.ch;obtain ⟨L,a,n,c,e1,e2,e3,e4⟩:=h1.at.2 k hk;have hm:ms.getD k [] ∈ ms:=by
  rw [nXd,List.getElem?_eq_getElem hk];exact List.getElem_mem _
 refine ⟨L,a,n,c,e1,e2,e3,e4,?_,h.wz _ hm⟩;have:=h.ml _ hm;have:=e4.len;simp only at this;omega
theorem tv{α β:Type}(f:α→β)(l:List α)(d:α){k:Nat}(hk:k<l.length):(l.drop k).map f=f (l.getD k d) :: (l.drop (k+1)).map f:=by
 rw [List.drop_eq_getElem_cons hk,List.map_cons,nXd,List.getElem?_eq_getElem hk];rfl
theorem sj(v:SH)(ms:List (List Rat))(K:Nat)(t:RH)(x:Rat)(T:Nat)(w:World)(hc:ChK w v ms K)(ht:aA w t x)(hx:Sz T x)(hT:1≤T)(hT3:T≤1000) :
  ak 71 [CV v,t.v] w (fun _:Unit=>.int .i64 (d9 ms x)) (fun _ _=>True):=by
 obtain ⟨va,vn,vc⟩:=v;obtain ⟨tn,ta,tl,tc,tb,tm,td⟩:=t;have HX:=Hi (Ext.refl w);have HC:=Hi hc;have HT:=Hi ht;have ZX:=Hi hx;obtain rfl:=hc.len;have hK1:=hc.k1;have hK2:=hc.k2;have hl:=hc.ln;clear hc ht hx;unfold ak;go_enter Tryz.func71,Tryz.ntmps71;simp only [CV,SH.v]
 go_upto_region 1 with fail
 refine kE ?_;intro w1 hE B2 B3 hz_w1 hr_w1;refine mV3 hE ?_ HX HC HT;clear HX HC HT;intro HX HC HT;replace b_B2:=bX3 B2;obtain ⟨b3,hb3⟩:∃ b3,b3=w.heap.size+1:=⟨_,rfl⟩;rw [←hb3] at B3 ⊢;have c_B3:=ab B3.out;have f_B3:=ah B3.out;clear hb3;go_wp2
 go_loopg [5,6,13] ms.length (fun g cv lv iv wr=>∃ (k cnt:Nat) (la:Int),k+g=ms.length∧iv=.int .i64 (k:Nat)∧cv=.int .i64 (cnt:Nat)∧lv=.int .i64 la∧Ext w wr∧Ext w1 wr∧cnt+vr la ((ms.drop k).map fun m=>Sg.sg (evV m x))=d9 ms x∧cnt≤k∧IsS la)
 case atStart=>exact ⟨0,0,0,zo,rfl,rfl,rfl,HX.out,Ext.refl _,by rw [Nat.zero_add];rfl,nXe _,Or.inr (Or.inl rfl)⟩
 case round =>
  obtain ⟨k,cnt,la,hk,rfl,rfl,rfl,g1,g2,g3,g4,g5⟩:=hrel;clear HX;have HX:=Hi g1;have HX7:=Hi g2;have HC2:=Hi (HC.out.ext g2);have HT2:=Hi (HT.out.ext g2);have B32:=Hi (g2.block B3.out);have HV:=Hi g3;have hla:-1≤la∧la≤1:=by unfold IsS at g5;omega
  have HLA:=Hi g5;clear g1 g2 g3 g5 b_B2 c_B3 f_B3;replace b_B32:=bX3 B32;by_cases h0:gk=0
  case pos =>
   subst h0;obtain rfl:k=ms.length:=by omega
   have HE:Hid (cnt=d9 ms x):=Hi (by have:=HV.out;rw [List.drop_length,List.map_nil] at this;exact this);have hin:¬ ((ms.length:Nat):Int)<(ms.length:Nat):=zo;go_wp2
   go_ret
   exact ⟨(),by rw [HE.out];rfl,HX.out,trivial⟩
  have hin:(k:Int)<(ms.length:Nat):=zo;have hkn:k<ms.length:=zo;obtain ⟨L,a,n,c,hva,hLl,hcell,hcan,hn,hwz⟩:=HC2.out.at (k:=k) hkn;subst hva;have HL:=Hi hcan;have HW:=Hi hwz;have HD:=Hi (tv (fun m=>Sg.sg (evV m x)) ms [] hkn);clear hcan hwz
  go_wp2_with fail
  refine cM (lF a n c (ms.getD k []) ⟨tn,ta,tl,tc,tb,tm,td⟩ x K T _ HL.out HT2.out hn HW.out ZX.out hT hK1 hK2 hT3) fun x19 w19 hE _=>?_
  refine mV2 hE ?_ HX HX7;clear HX HX7;intro HX HX7;rw [HD.out] at HV;have hs:=o8 (evV (ms.getD k []) x);obtain ⟨s,es⟩:∃ s,s=Sg.sg (evV (ms.getD k []) x):=⟨_,rfl⟩;rw [←es] at HV hs ⊢;have HS:=Hi hs;clear es HD HL HW hcell;have hs2:-1≤s∧s≤1:=by unfold IsS at hs;omega
  clear hs;obtain ⟨rl,hrl⟩:∃ rl,rl=(ms.drop (k+1)).map fun m=>Sg.sg (evV m x):=⟨_,rfl⟩
  rw [←hrl] at HV;have HRL:=Hi hrl;clear hrl;by_cases hs0:s=0
  case pos =>
   subst hs0;have HV2:Hid (cnt+vr la rl=d9 ms x):=Hi (by have:=HV.out;rw [show vr la (0 :: rl)=vr la rl by simp [vr]] at this;exact this);clear HV;go_wp2
   go_roundg (gk-1)
   case measure=>omega
   case rel=>exact ⟨k+1,cnt,la,zo,by go_num,rfl,rfl,HX.out,HX7.out,by rw [←HRL.out];exact HV2.out,zo,HLA.out⟩
  have hsb:(s == 0)=false:=by rw [nXs];exact hs0
  by_cases hl0:la=0
  case pos =>
   subst hl0;have HV2:Hid (cnt+vr s rl=d9 ms x):=Hi (by have:=HV.out;rw [show vr 0 (s :: rl)=vr s rl by simp [vr,hs0]] at this;exact this);clear HV;go_wp2
   go_roundg (gk-1)
   case measure=>omega
   case rel=>exact ⟨k+1,cnt,s,zo,by go_num,rfl,rfl,HX.out,HX7.out,by rw [←HRL.out];exact HV2.out,zo,HS.out⟩
  have hlb:(la == 0)=false:=by rw [nXs];exact hl0
  by_cases hsl:s=la
  case pos =>
   subst hsl;have HV2:Hid (cnt+vr s rl=d9 ms x):=Hi (by have:=HV.out;rw [show vr s (s :: rl)=vr s rl by simp [vr,hs0]] at this;exact this);clear HV;go_wp2
   go_roundg (gk-1)
   case measure=>omega
   case rel=>exact ⟨k+1,cnt,s,zo,by go_num,rfl,rfl,HX.out,HX7.out,by rw [←HRL.out];exact HV2.out,zo,HS.out⟩
  have hslb:(s == la)=false:=by rw [nXs];exact hsl
  have hlb2:(la != 0)=true:=by rw [bne,hlb];rfl
  have hslb2:(s != la)=true:=by rw [bne,hslb];rfl
  have HV2:Hid ((cnt+1)+vr s rl=d9 ms x):=Hi (by have:=HV.out;rw [show vr la (s :: rl)=1+vr s rl by simp [vr,hs0,hl0,hsl]] at this;omega);clear HV;go_wp2
  go_roundg (gk-1)
  case measure=>omega
  case rel=>exact ⟨k+1,cnt+1,s,zo,by go_num,by go_num,rfl,HX.out,HX7.out,by rw [←HRL.out];exact HV2.out,zo,HS.out⟩
theorem qK(v:SH)(ms:List (List Rat))(K:Nat)(t:RH)(x:Rat)(T:Nat)(w:World)(hc:ChK w v ms K)(h0:0<ms.length)(ht:aA w t x)(hx:Sz T x)(hT:1≤T)(hT3:T≤1000) :
  ak 72 [CV v,t.v] w (fun _:Unit=>.bool (rtV ms x)) (fun _ _=>True):=by
 obtain ⟨va,vn,vc⟩:=v;obtain ⟨tn,ta,tl,tc,tb,tm,td⟩:=t;have HX:=Hi (Ext.refl w);have HC:=Hi hc;have HT:=Hi ht;have ZX:=Hi hx;have hvl:=hc.len;obtain ⟨N,rfl⟩:∃ N,vn=N+1:=⟨vn-1,zo⟩;have hK1:=hc.k1;have hK2:=hc.k2;clear hc ht hx;unfold ak;go_enter Tryz.func72,Tryz.ntmps72;simp only [CV,SH.v]
 go_upto_region 1 with fail
 refine kE ?_;intro w1 hE B2 B3 hz_w1 hr_w1;refine mV3 hE ?_ HX HC HT;clear HX HC HT;intro HX HC HT;replace b_B2:=bX3 B2;replace b_B3:=bX3 B3;obtain ⟨L,a,n,c,hva,hLl,hcell,hcan,hn,hwz⟩:=HC.out.at (k:=0) h0;subst hva;have HL:=Hi hcan;have HW:=Hi hwz;clear hcan hwz;obtain ⟨s,hs⟩:∃ s,s=Sg.sg (evV (ms.getD 0 []) x):=⟨_,rfl⟩;have HSE:=Hi hs;have HV:Hid (rtV ms x=(s == 0)):=Hi (by
  unfold rtV;rw [←hs];by_cases h:s=0
  ·rw [h];rfl
  ·rw [decide_eq_false h,nXs.2 h])
 clear hs;refine wpG 8 (fun opIx=>match opIx with
  | 5=>sU (.int .i64 s)
  | _=>.quiet) (fun _=>[]) fun w0 he0 hz0 hc0 hf0=>?_
 refine wps he0 (fun w1 hW hG=>?_) fun x20=>?_
 ·exact spc [.slice a n c,RH.v ⟨tn,ta,tl,tc,tb,tm,td⟩] Tryz.func79 ((by rw [HSE.out];exact lF a n c (ms.getD 0 []) ⟨tn,ta,tl,tc,tb,tm,td⟩ x K T _ (HL.out.ext hW) (HT.out.ext hW) hn HW.out ZX.out hT hK1 hK2 hT3))
 refine qZ ?_;refine aj ?_;intro w2 hI;have hE:=he0.out.trans hI.ext;clear hI he0 hz0 hc0 hf0;replace HX:=hE.tr HX;simp only [pD];go_wp2
 go_ret
 exact ⟨(),by rw [HV.out];rfl,HX.out,trivial⟩
theorem lk(ms:List (List Rat))(x:Rat):d9 ms x≤ms.length:=by
 unfold d9;have:∀ (l:List Int) (z:Int),vr z l≤l.length:=by
  intro l;induction l with
  | nil=>intro z;exact nXe _
  | cons s l ih =>
   intro z;have h1:=ih z;have h2:=ih s;unfold vr;rw [List.length_cons];split
   ·omega
   ·split <;> omega
 have h:=this (ms.map fun m=>Sg.sg (evV m x)) 0
 rwa [nXl] at h
theorem DE:∀ (n:Nat) (a b:List Rat),(chn n a b).length≤n:=by
 intro n;induction n with
 | zero=>intro a b;exact nXe _
 | succ n ih =>
  intro a b;by_cases ha:a=[]
  ·rw [show chn (n+1) a b=[] by simp [chn,ha]];exact Nat.zero_le _
  ·by_cases hb:b=[]
   ·subst hb;rw [dY ha];simp
   ·rw [eI ha hb,List.length_cons];exact Nat.succ_le_succ (ih _ _)
theorem DD{L:Nat}:∀ (n:Nat) (a b:List Rat),a.length≤L→b.length≤L→tz b=b→∀ m ∈ chn n a b,m.length≤L:=by
 intro n;induction n with
 | zero=>intro a b _ _ _ m hm;simp [chn] at hm
 | succ n ih =>
  intro a b ha hb ht m hm;by_cases ha0:a=[]
  ·rw [show chn (n+1) a b=[] by simp [chn,ha0]] at hm;simp at hm
  ·by_cases hb0:b=[]
   ·subst hb0;rw [dY ha0] at hm;obtain rfl:m=a:=by simpa using hm
    exact ha
   ·rw [eI ha0 hb0] at hm;rcases List.mem_cons.1 hm with rfl|hm
    ·exact ha
    ·have:=nZ a b (by rw [ht];exact hb0);rw [ht] at this;exact ih _ _ hb zo (bj _) m hm
theorem jM(p:List Rat):(remsV p).length≤p.length+1:=DE _ _ _
theorem nY{p:List Rat}(h:tz p≠[]):∀ m ∈ remsV p,m.length≤p.length:=by
 refine DD _ _ _ ?_ ?_ (bj _)
 ·rw [ay];exact ae p
 ·rw [ay];have:=j1 h;omega
theorem sC{p:List Rat}(h:tz p≠[]):0<(remsV p).length:=by
 obtain ⟨l,e⟩:=lS h;rw [e];exact Nat.succ_pos _
theorem vF{p:List Rat}(h:tz p≠[]){N:Nat}(hN:(remsV p).length=N+1):(remsV p).getLast?.getD []=(remsV p).getD N []∧tz ((remsV p).getD N [])=(remsV p).getD N []:=by
 have h1:(remsV p).getLast?.getD []=(remsV p).getD N []:=by
  rw [List.getLast?_eq_getElem?,hN,nXd];rfl
 have hlen:(av (derL p)).length≤p.length:=by
  rw [ay];have:=j1 h;omega
 obtain ⟨e,k1,k2,k3,-⟩:=tF p.length (av p) (av (derL p)) hlen (bj _) (bj _) (fun h0=>h (cu.1 h0));have h7:(remsV p).getLast?=some e:=k1;refine ⟨h1,?_⟩;rw [←h1,h7];exact k3
theorem ChM.chk{w:World}{lo B:Nat}{v:SH}{r:List Rat}{K:Nat}(h:ChM w lo B v.v (remsV r))(hr:tz r≠[])(hl:r.length≤999)(hW:∀ m ∈ remsV r,∀ y ∈ m,Wz K y)(h1:1≤K)(h2:K≤30000000):ChK w v (remsV r) K :=
 ⟨⟨lo,B,h⟩,hW,by have:=jM r;omega,fun m hm=>by have:=nY hr m hm;omega,h1,h2⟩
theorem zh(pa:Option Addr)(P pc:Nat)(p:List Rat)(K:Nat)(w:World)(h:ct w ⟨pa,P,pc⟩ p)(hP:P≤900)(h0:tz p≠[])(hk:FrK K p)(hK:K≤12000000)(hK2:(P+1)*(K / 3)≤25000000)(hs:FrK K (sqfV p)) :
  ak 70 [.slice pa P pc] w CV (fun x w'=>ChK w' x (remsV (rootV p)) K):=by
 have HK1:=Hi hk;have HK2:=Hi hs;obtain ⟨S,D,hS,hD,hD2,hf,hSK⟩:=hk;obtain ⟨U,E,hU,hEn,hE2,hfU,hUK⟩:=hs;have LP:=Hi (RIn.of h);have HX:=Hi (Ext.refl w);have hlen:=h.len;simp only at hlen;have H0:=Hi h0;have HF:=Hi hf;have HFU:=Hi hfU;have HSK:Hid (KZ K S P):=Hi (by rw [←hlen];exact hSK);have hUs:=KZ.small hUK;have HUK:Hid (KZ K U (sqfV p).length):=Hi hUK;have hsl:(sqfV p).length≤P:=by rw [←hlen];exact lG h0
 have hK1:1≤K:=zo;obtain ⟨N,hN⟩:∃ N,(remsV p).length=N+1:=⟨(remsV p).length-1,by have:=sC h0;omega⟩;have hN2:N≤P:=by have:=jM p;omega
 have HLA:=Hi (vF h0 hN);have HPl:Hid (p.length=P):=Hi hlen;have HRT:=Hi (kB h0).ne;have HMm:Hid ((remsV p).getD N [] ∈ remsV p):=Hi (by
  rw [nXd,List.getElem?_eq_getElem zo];exact List.getElem_mem _)
 have HRV:Hid (rootV p=if 2≤(tz ((remsV p).getD N [])).length then sqfV p else p):=Hi (by
  unfold rootV;rw [HLA.out.1,HLA.out.2])
 clear h hlen hf hfU hSK hUK h0;unfold ak;go_enter Tryz.func70,Tryz.ntmps70
 go_upto_region 1 with fail
 refine nmA ?_;intro w1 hE B2 hz_w1 hr_w1;refine mV2 hE ?_ LP HX;clear LP HX;intro LP HX
 go_wp2_with fail
 refine cM (o5 pa P pc p S D K _ LP.out.raw zo H0.out hS hD hD2 HF.out HSK.out zo) fun x5 w5 hE G5=>?_
 refine mV3 hE ?_ B2 LP HX;clear B2 LP HX;intro B2 LP HX;have hs_w5:=hE.size;obtain ⟨xa,xn,xc⟩:=x5;obtain ⟨⟨B,hB,hch⟩,hwz⟩:=G5.out;have HC:=Hi hch;have HW:=Hi hwz;clear G5 hch hwz
 go_upto_region 2 with fail
 refine nmA ?_;intro w6 hE B3 hz_w6 hr_w6;refine mV4 hE ?_ B2 LP HX HC;clear B2 LP HX HC;intro B2 LP HX HC;replace b_B3:=bX3 B3;obtain ⟨hxn,hat⟩:=HC.out.at;rw [hN] at hxn;subst hxn;obtain ⟨L,a,n,c,hva,hLl,hcell,hcan⟩:=hat N zo;subst hva;have HL:=Hi hcan;have HZ:Hid (SzL K ((remsV p).getD N [])):=Hi (fun y hy=>(HW.out _ HMm.out y hy).sz hK1);obtain ⟨D2,hD2e⟩:∃ D2,D2=(tz ((remsV p).getD N [])).length:=⟨_,rfl⟩;rw [←hD2e] at HRV;clear hat hcan;have hN1:((N:Int)+1)-1=N:=by omega
 have hN3:(N:Int)<(N:Int)+1:=zo
 go_wp2_with fail
 refine cM (dr a n c ((remsV p).getD N []) _ (HL.out.raw HZ.out zo)) fun x14 w14 hE _=>?_
 refine mV5 hE ?_ B3 B2 LP HX HC;clear B3 B2 LP HX HC;intro B3 B2 LP HX HC;have hs_w14:=hE.size;replace b_B2:=bX3 B2;replace b_B3:=bX3 B3;rw [←hD2e];clear hD2e hcell;clear HL;by_cases hd:2≤D2
 case pos =>
  have hd2:(0:Int)<(D2:Int)-1:=zo;have HV:Hid (rootV p=sqfV p):=Hi (by rw [HRV.out,if_pos hd]);clear hd
  go_wp2_with fail
  refine cM (zA pa P pc p K _ LP.out.raw zo H0.out HK1.out hK hK2 HK2.out) fun x17 w17 hE G17=>?_
  refine mV3 hE ?_ B3 B2 HX;clear B3 B2 HX;intro B3 B2 HX;have hs_w17:=hE.size;obtain ⟨qa,qn,qc⟩:=x17;have HQ:=Hi G17.out.lin;have hqn:=HQ.out.len;simp only at hqn;clear G17;clear HC;clear LP;simp only [SH.v]
  go_wp2_with fail
  refine cM (uU qa qn qc (sqfV p) U E K _ HQ.out.can zo HRT.out hU hEn hE2 HFU.out (by rw [←hqn];exact HUK.out) zo) fun x18 w18 hE G18=>?_
  refine mV3 hE ?_ B3 B2 HX;clear B3 B2 HX;intro B3 B2 HX;replace b_B3:=bX3 B3;obtain ⟨ya,yn,yc⟩:=x18;obtain ⟨⟨B',hB',hch'⟩,hwz'⟩:=G18.out;have HC2:=Hi hch';have HW2:=Hi hwz';clear G18 hch' hwz';clear HQ
  go_upto_region 4 with fail
  refine mh B3.out rfl ?_;intro w19 T;replace HX:=Hi (T.ext HX.out zo);replace B2:=Hi (T.rest _ _ zo B2.out);replace B3:=Hi (T.bx);replace HC2:=Hi (HC2.out.put T zo);clear T;replace b_B2:=bX3 B2;replace b_B3:=bX3 B3;go_wp2;refine mh (F:=fun W=>bodyPost _ _ _ _ _ W) B2.out rfl ?_;intro w20 T;replace HX:=Hi (T.ext HX.out zo);replace B2:=Hi (T.bx);replace HC2:=Hi (HC2.out.put T zo);clear T;replace b_B2:=bX3 B2;exact nXa (v:=CV ⟨ya,yn,yc⟩) (by simp [results,Tryz.results70,go_sem,CV,b_B2.1]) rfl ⟨⟨ya,yn,yc⟩,rfl,HX.out,by rw [HV.out];exact HC2.out.chk HRT.out zo HW2.out hK1 zo⟩
 have HV:Hid (rootV p=p):=Hi (by rw [HRV.out,if_neg hd]);go_wp2;refine mh (F:=fun W=>bodyPost _ _ _ _ _ W) B2.out rfl ?_;intro w20 T;replace HX:=Hi (T.ext HX.out zo);replace B2:=Hi (T.bx);replace HC:=Hi (HC.out.put T zo);clear T;replace b_B2:=bX3 B2;exact nXa (v:=CV ⟨some ⟨L,0,none⟩,N+1,xc⟩) (by simp [results,Tryz.results70,go_sem,CV,b_B2.1]) rfl ⟨⟨some ⟨L,0,none⟩,N+1,xc⟩,rfl,HX.out,by rw [HV.out];exact HC.out.chk H0.out (by rw [HPl.out];omega) HW.out hK1 zo⟩
theorem tW(pa:Option Addr)(P pc:Nat)(p:List Rat)(K:Nat)(s t:RH)(a b:Rat)(T:Nat)(w:World)(h:ct w ⟨pa,P,pc⟩ p)(hP:P≤49)(h0:tz p≠[])(hk:FrK K p)(hK:K≤12000000)(hK2:(P+1)*(K / 3)≤25000000)(hsq:FrK K (sqfV p))
 (hs:aP w s a)(ht:aP w t b)(za:Sz T a)(zb:Sz T b)(hT:1≤T)(hT3:T≤1000) :
  ak 22 [.slice pa P pc,IvV (s,t)] w (fun _:Unit=>.tuple #[.int .i64 (cntV p (loV a b) (hiV a b)),.int .i64 0]) (fun _ _=>True):=by
 obtain ⟨sn,sa,sl,sc,sb,sm,sd⟩:=s;obtain ⟨tn,ta,tl,tc,tb,tm,td⟩:=t;have HX:=Hi (Ext.refl w);have LP:=Hi (RIn.of h);have HS:=Hi hs;have HT:=Hi ht;have hlen:=h.len;simp only at hlen;have HKp:=Hi hk;have HKs:=Hi hsq;have H0:=Hi h0;have HSz:Hid (SzL K p):=Hi (by
  obtain ⟨S,D,h1,h2,h3,h4,h5⟩:=hk;exact (h4.sz h1 h2 h3).mono (by have:=KZ.small h5;omega))
 have HCK:Hid (ux p=0):=Hi (by unfold ux;rw [if_neg (by have:=ae p;omega),if_neg h0]);have ZA:Hid (Sz T (loV a b)):=Hi (by rcases Ac a b with e|e <;> rw [e] <;> assumption);have ZB:Hid (Sz T (hiV a b)):=Hi (by rcases Ak a b with e|e <;> rw [e] <;> assumption);have hms:Hid (0<(remsV (rootV p)).length):=Hi (sC (vw h0).ne);obtain ⟨lo,hlo⟩:∃ lo,lo=loV a b:=⟨_,rfl⟩;obtain ⟨hi,hhi⟩:∃ hi,hi=hiV a b:=⟨_,rfl⟩;rw [←hlo] at ZA;rw [←hhi] at ZB;have v1:=lk (remsV (rootV p)) lo;have v2:=lk (remsV (rootV p)) hi;have hml:(remsV (rootV p)).length≤P+1:=by
  have e1:=jM (rootV p);have e2:(rootV p).length≤p.length:=by unfold rootV;split;exact lG h0;exact nXe _
  omega
 obtain ⟨x1,hx1⟩:∃ x1,x1=d9 (remsV (rootV p)) lo:=⟨_,rfl⟩;obtain ⟨x2,hx2⟩:∃ x2,x2=d9 (remsV (rootV p)) hi:=⟨_,rfl⟩;have HV1:=Hi hx1;have HV2:=Hi hx2;rw [←hx1] at v1;rw [←hx2] at v2;have hx1b:x1≤100:=zo;have hx2b:x2≤100:=zo;have HCN:Hid (cntV p (loV a b) (hiV a b)=(x1:Int)-(x2:Int)+(if rtV (remsV (rootV p)) lo=true then 1 else 0)):=Hi (by rw [hx1,hx2,←hlo,←hhi];rfl);have HLO:=Hi hlo;have HHI:=Hi hhi;obtain ⟨ms,hmse⟩:∃ ms,ms=remsV (rootV p):=⟨_,rfl⟩;have HMS:=Hi hmse;rw [←hmse] at hms HV1 HV2 HCN;clear h hs ht hk hsq h0 za zb hlo hhi hx1 hx2 v1 v2 hml hmse hlen;unfold ak;go_enter Tryz.func22,Tryz.ntmps22
 go_upto_region 1 with fail
 refine nmA ?_;intro w1 hE B3 hz_w1 hr_w1;refine mV4 hE ?_ HX LP HS HT;clear HX LP HS HT;intro HX LP HS HT
 go_wp2_with fail
 refine cM (sx pa P pc p _ LP.out.raw) fun x11 w11 hE _=>?_
 refine mV5 hE ?_ B3 HX LP HS HT;clear B3 HX LP HS HT;intro B3 HX LP HS HT;replace b_B3:=bX3 B3;rw [HCK.out]
 go_wp2_with fail
 refine cM (nt ⟨sn,sa,sl,sc,sb,sm,sd⟩ ⟨tn,ta,tl,tc,tb,tm,td⟩ a b _ HS.out HT.out) fun x16 w16 hE G16=>?_
 refine mV3 hE ?_ B3 HX LP;clear B3 HX LP;intro B3 HX LP;replace b_B3:=bX3 B3;obtain ⟨⟨ln,la,ll,lc,lb,lm,ld⟩,⟨hn,ha,hl,hc,hb,hm,hd⟩⟩:=x16;rw [←HLO.out,←HHI.out] at G16;have HL:=Hi G16.out.1;have HH:=Hi G16.out.2;clear G16;clear HS;clear HT
 go_upto_region 5 with fail
 refine bh B3.out rfl ?_;intro w17 T;replace HX:=Hi (T.ext HX.out zo);replace LP:=Hi (LP.out.put T zo);replace B3:=Hi (T.bx);replace HL:=Hi (HL.out.keep T.keep);replace HH:=Hi (HH.out.keep T.keep);clear T
 go_wp2_with fail
 refine cM (zh pa P pc p K _ LP.out.raw zo H0.out HKp.out hK hK2 HKs.out) fun x18 w18 hE G18=>?_
 refine mV4 hE ?_ HX B3 HL HH;clear HX B3 HL HH;intro HX B3 HL HH;rw [←HMS.out] at G18;obtain ⟨va,vn,vc⟩:=x18;simp only [CV,SH.v]
 go_upto_region 6 with fail
 refine nmA ?_;intro w19 hE B7 hz_w19 hr_w19;refine mV5 hE ?_ G18 HX B3 HL HH;clear G18 HX B3 HL HH;intro G18 HX B3 HL HH;replace b_B3:=bX3 B3;replace b_B7:=bX3 B7
 go_upto_region 7 with fail
 refine wpG 10 (fun opIx=>match opIx with
  | 3=>sU (.int .i64 (x1:Nat))
  | 7=>sU (.int .i64 (x2:Nat))
  | _=>.quiet) (fun _=>[]) fun w0 he0 hz0 hc0 hf0=>?_
 refine wps he0 (fun w1 hW hG=>?_) fun x30=>?_
 ·exact (by rw [HV1.out];exact mZ #[CV ⟨va,vn,vc⟩] [CV ⟨va,vn,vc⟩,RH.v ⟨ln,la,ll,lc,lb,lm,ld⟩] rfl rfl rfl Tryz.func71 kZ kZ (sj ⟨va,vn,vc⟩ ms K ⟨ln,la,ll,lc,lb,lm,ld⟩ lo T _ (G18.out.ext hW) (HL.out.ext hW) ZA.out hT hT3))
 refine qZ ?_;refine wps he0 (fun w1 hW hG=>?_) fun x31=>?_
 ·exact (by rw [HV2.out];exact mZ #[CV ⟨va,vn,vc⟩] [CV ⟨va,vn,vc⟩,RH.v ⟨hn,ha,hl,hc,hb,hm,hd⟩] rfl rfl rfl Tryz.func71 kZ kZ (sj ⟨va,vn,vc⟩ ms K ⟨hn,ha,hl,hc,hb,hm,hd⟩ hi T _ (G18.out.ext hW) (HH.out.ext hW) ZB.out hT hT3))
 refine qZ ?_;refine aj ?_;intro w20 hI;have hE:=he0.out.trans hI.ext;clear hI he0 hz0 hc0 hf0;refine mV5 hE ?_ B7 HX B3 HL G18;clear B7 HX B3 HL G18;intro B7 HX B3 HL G18;replace b_B3:=bX3 B3;replace b_B7:=bX3 B7;simp only [pD]
 go_wp2_with fail
 refine cM (qK ⟨va,vn,vc⟩ ms K ⟨ln,la,ll,lc,lb,lm,ld⟩ lo T _ G18.out hms.out HL.out ZA.out hT hT3) fun x33 w33 hE _=>?_
 replace HX:=hE.tr HX;obtain ⟨r,hr⟩:∃ r,r=rtV ms lo:=⟨_,rfl⟩;rw [←hr] at HCN ⊢;clear hr;cases r
 ·go_wp2;exact nXa (v:=.tuple #[.int .i64 (cntV p (loV a b) (hiV a b)),.int .i64 0]) (by rw [HCN.out];simp [results,Tryz.results22,go_sem]) rfl ⟨(),rfl,HX.out,trivial⟩
 ·go_wp2;exact nXa (v:=.tuple #[.int .i64 (cntV p (loV a b) (hiV a b)),.int .i64 0]) (by rw [HCN.out];simp [results,Tryz.results22,go_sem]) rfl ⟨(),rfl,HX.out,trivial⟩
theorem Cg(n:Nat)(x:Rat):kj n [] x=0:=by cases n <;> simp [kj]
def D4(n:Nat)(w:World)(x:SH)(l:List Rat):Prop:=aD w x l∧x.n=n
theorem D4.ext{n:Nat}{w w':World}{x:SH}{l:List Rat}(h:D4 n w x l)(he:Ext w w'):D4 n w' x l:=⟨h.1.ext he,h.2⟩
instance {n:Nat} {w w':World} {x:SH} {l:List Rat}:Go.Front.Mv w w' (D4 n w x l) (D4 n w' x l):=⟨fun e h=>D4.ext h e⟩

theorem FO{p:List Rat}(h:tz p≠[])(hl:p.length≤49):ux p=0:=by unfold ux;rw [if_neg (by have:=ae p;omega),if_neg h]
end Go.Proofs.YtafgmcimcbhhjaaGreat
/- What the answers of package sturm say: positive, nowhere negative. Plain facts. -/
namespace Go.Proofs.YtafgmcimcbhhjaaGreat.Sg
open Go.RowKit Go.Front Go.Num Go.Stab Go.Proofs.YtafgmcimcbhhjaaGreat
theorem Cp.bound{v w:Rat→Rat}(h:Cp v w)(A B:Rat):∃ d,0<d∧∀ x,A≤x→x≤B→Big d (v x)∨Big d (w x):=by
 obtain ⟨a,b,ha,hb,h1⟩:=h;obtain ⟨K,hK,k1⟩:=ha.on A B;obtain ⟨L,hL,k2⟩:=hb.on A B;have hM:0<K+L+1:=by grind
 have hd:0<1 / (K+L+1):=tw dZ hM;have he:=aK (a:=1) (b:=K+L+1) (by grind);refine ⟨1 / (K+L+1),hd,fun x hx1 hx2=>Classical.byContradiction fun hn=>?_⟩;generalize 1 / (K+L+1)=d at *
 obtain ⟨n1,n2⟩:¬ Big d (v x)∧¬ Big d (w x):=⟨fun h=>hn (Or.inl h),fun h=>hn (Or.inr h)⟩;obtain ⟨p1,p2⟩:=jf n1;obtain ⟨p3,p4⟩:=jf n2;have b1:Bd (K*d) (a x*v x):=(k1 x hx1 hx2).mul (N:=d) ⟨by grind,by grind⟩;have b2:Bd (L*d) (b x*w x):=(k2 x hx1 hx2).mul (N:=d) ⟨by grind,by grind⟩;have b3:=(b1.add b2).2;rw [h1 x] at b3;grind
theorem Gf{q:Rat}(h:q≠0):sg q≠0:=fun h0=>h (lL.1 h0)
theorem Gu{r:List Rat}(h:tz r≠[])(hc:Cp (evV r) (evD r)):∃ l,remsV r=av r :: l∧∀ A B,Fit A B (evV (av r)) (l.map evV):=by
 obtain ⟨l,e,-⟩:=sE h hc 0 0;refine ⟨l,e,fun A B=>?_⟩;obtain ⟨l',e',h'⟩:=sE h hc A B;have:l=l':=by rw [e] at e';exact (List.cons.inj e').2
 rw [this];exact h'
theorem Gh{c x:Rat}(h:0<c):sg (c*x)=sg x:=by rw [jJ,sg_pos h];omega
theorem su{p:List Rat}(h:tz p≠[])(x:Rat):sg (evV (av p) x)=sg (evV p x):=by rw [dV p x,Gh (bM h)]
theorem yW{A B d:Rat}{r:Rat→Rat}(hr:Pf r)(hd:0<d)(hb:∀ x,A≤x→x≤B→Big d (r x)):∀ s t,A≤s→s<t→t≤B→sg (r t)=sg (r s):=by
 obtain ⟨K,hK,k1⟩:=hr.lip A B;obtain ⟨e,he,k2⟩:=jc hK hd;exact k7 he (fun s t h1 h2 h3 h4=>((hb s h1 (by grind)).sign k1 h1 (by grind) h3 (k2 _ h4)).1) (fun s t u _ _ _ _ h1 h2=>h2.trans h1)
theorem og{A B:List Rat}(hA:tz A≠[])(hB:tz B≠[]):av ((bC (av A) (av B)).map (·*-1))=av ((bC A B).map (·*-1)):=by
 obtain ⟨h1,-,-,h4⟩:=cx A hB;have hb:tz (av B)≠[]:=by rw [bj];exact fun h=>hB (cu.1 h)
 refine (np (a:=av A) (b:=av B) (s:=(bE A B).map (·*aM B)) (r:=bC A B) (f:=aM A) hb (bM hA) (by rw [bj,ay];exact h1) (fun n=>?_)).symm;rw [←cQ A n,h4 n];have h5:seq ((bE A B).map (·*aM B))=fun i=>aM B*seq (bE A B) i:=by funext i;rw [aX];grind
 have h6:seq B=fun i=>aM B*seq (av B) i:=by funext i;exact cQ B i
 rw [h5,fF,h6,fN _ (fun i=>aM B*_),fF,fN]
def bg(p:List Rat):List Rat:=(tz p).map (·*(1 / ((tz p).getLast?.getD 0).abs))
theorem yR{p:List Rat}(h:tz p≠[]):0<1 / ((tz p).getLast?.getD 0).abs:=by
 have h1:((tz p).getLast?.getD 0)≠0:=by
  obtain ⟨n,hn⟩:∃ n,(tz p).length=n+1:=⟨(tz p).length-1,by have:=nYh.2 h;omega⟩;have h2:=jC (l:=tz p) (n:=n) (by rw [aI];exact hn);rw [nXd] at h2;rw [List.getLast?_eq_getElem?,hn];exact h2
 refine tw dZ ?_;unfold Rat.abs;split <;> grind
theorem gX(p:List Rat):av (bg p)=av p:=by
 by_cases h:tz p=[]
 ·have:bg p=[]:=by unfold bg;rw [h];rfl
  rw [this,cu.2 h];rfl
 ·refine cF (yR h) (fun n=>?_);unfold bg;rw [aX,aZ]
theorem gY{p:List Rat}:bg p=[]↔tz p=[]:=by unfold bg;exact List.map_eq_nil_iff
theorem i7(p:List Rat):tz (bg p)=bg p:=by
 by_cases h:tz p=[]
 ·rw [gY.2 h];rfl
 ·unfold bg;rw [fT (fun h0=>by have:=yR h;rw [h0] at this;exact absurd this Rat.lt_irrefl),aI]
def rch:Nat→List Rat→List Rat→List (List Rat)
 | 0,_,_=>[]
 | n+1,a,b=>if a=[] then [] else if b=[] then [a] else a :: rch n b (bg ((bC a b).map (·*-1)))
theorem qT:∀ (n:Nat) (a b:List Rat),tz a=a→tz b=b→(rch n a b).map av=chn n (av a) (av b)
 | 0,_,_,_,_=>rfl
 | n+1,a,b,ha,hb=>by
  have ka:av a=[]↔a=[]:=by rw [cu,ha]
  have kb:av b=[]↔b=[]:=by rw [cu,hb]
  unfold rch chn;by_cases h1:a=[]
  ·rw [if_pos h1,if_pos (ka.2 h1)];rfl
  ·rw [if_neg h1,if_neg (fun h=>h1 (ka.1 h))];by_cases h2:b=[]
   ·rw [if_pos h2,if_pos (kb.2 h2)];rfl
   ·rw [if_neg h2,if_neg (fun h=>h2 (kb.1 h)),List.map_cons,qT n b _ hb (i7 _),gX,og (by rw [ha];exact h1) (by rw [hb];exact h2)]
theorem lI(p:List Rat)(x:Rat):sg (evV (av p) x)=sg (evV p x):=by
 by_cases h:tz p=[]
 ·rw [cu.2 h,ev_tznil.1 h x];rfl
 ·rw [dV p x,jJ,sg_pos (bM h)];omega
theorem BW(l:List (List Rat))(x:Rat):d9 (l.map av) x=d9 l x:=by
 unfold d9;rw [List.map_map]
 congr 1
 exact List.map_congr_left fun m _=>lI m x
def jp(q:List Rat):List (List Rat):=rch (q.length+1) (bg q) (bg (derL q))
theorem fG(q:List Rat)(x:Rat):d9 (jp q) x=d9 (remsV q) x:=by
 rw [←BW (jp q)];unfold jp remsV;rw [qT _ _ _ (i7 _) (i7 _),gX,gX]
def qA(p:List Rat)(lo hi:Rat):Int:=(d9 (jp (sqfV p)) lo:Int)-d9 (jp (sqfV p)) hi+(if sg (evV (sqfV p) lo)=0 then 1 else 0)
theorem cnt6_on{p:List Rat}{c:Rat}(hc:0<c)(lo hi:Rat)(hlh:lo≤hi)(he:∀ x,lo≤x→x≤hi→c≤evV p x):qA p lo hi=0:=by
 have h0:tz p≠[]:=fun h=>by have h1:=he lo Rat.le_refl hlh;rw [ev_tznil.1 h lo] at h1;grind
 have hr:=kB h0;obtain ⟨l,e,hfit⟩:=Gu hr.ne hr.cp;obtain ⟨g,q1,hg,-,-,k1,-⟩:=hr.dv;have hnr:¬ sg (evV (sqfV p) lo)=0:=fun h=>by
  have h1:=lL.1 h;have h2:=he lo Rat.le_refl hlh;rw [k1 lo,h1,nYc] at h2;grind
 unfold qA;rw [if_neg hnr,fG,fG,mT e,mT e];rcases Rat.le_iff_lt_or_eq.1 hlh with h1|h1
 ·obtain ⟨M,hM,k2⟩:=hg.on lo hi;have hM1:0<M+1:=by grind
  have hd:0<c / (M+1):=tw hc hM1;have hdc:=aK (a:=c) (b:=M+1) (by grind);have hbig:∀ x,lo≤x→x≤hi→Big (c / (M+1)) (evV (sqfV p) x):=fun x h2 h3=>Classical.byContradiction fun hn=>by
   obtain ⟨b1,b2⟩:=jf hn;generalize c / (M+1)=d at *
   have b0:Bd d (evV (sqfV p) x):=⟨by grind,by grind⟩;have b3:=((k2 x h2 h3).mul b0).2;have h4:=he x h2 h3;rw [k1 x] at h4;grind
  have hst:=yW (Pf.ev (sqfV p)) hd hbig;have hV:=(hfit lo hi).calm Rat.le_refl h1 Rat.le_refl (fun s t s1 s2 s3 _=>by rw [su hr.ne,su hr.ne];exact hst s t s1 s2 s3);rw [hV];omega
 ·rw [h1];omega
end Go.Proofs.YtafgmcimcbhhjaaGreat.Sg
/- Degree, Scale, Sub of the reference 05. -/
namespace Go.Proofs.YtafgmcimcbhhjaaGreat
open Go.RowKit Go.Front Go.Num
attribute [local go_sem] XW.cell XW.frozen
theorem dw(ao:Option Addr)(n cap:Nat)(qs:List Rat)(w:World)(h:ct w ⟨ao,n,cap⟩ qs)(hn:n≤1073741824) :
  ak 60 [.slice ao n cap] w (fun _:Unit=>.int .i64 (((tz qs).length:Int)-1)) (fun _ _=>True):=by
 have H:=Hi h;have HX:=Hi (Ext.refl w);clear h;unfold ak;go_enter Tryz.func60,Tryz.ntmps60
 go_wp2_with fail
 refine cM (ce ao n cap qs _ H.out hn) fun x1 w1 hE G1=>?_
 replace HX:=hE.tr HX;obtain ⟨pa,P,pc⟩:=x1;simp only [SH.v];have hP:=G1.out.len;simp only at hP;have h1:=G1.out.can.le;have h2:=G1.out.can.max;simp only at h1 h2;have HV:Hid (((tz qs).length:Int)-1=(P:Int)-1):=Hi (by rw [hP]);clear hP;go_wp2
 go_ret
 exact ⟨(),by rw [HV.out];rfl,HX.out,trivial⟩
def bX(ps:List Rat)(c:Rat):List Rat:=tz (ps.map (·*c))
theorem bf.blk'{D:Nat→Prop}{w w':World}(h:bf D w w'){b:Nat}{o:Obj}(hb:¬ D b)(hv:w.heap[b]?=some o):w'.heap[b]?=some o:=by
 have hl:b<w.heap.size:=(nXb.1 hv).1;rw [h.block b hl hb];exact hv
theorem iL(ao:Option Addr)(n cap:Nat)(ps:List Rat)(t:RH)(c:Rat)(w:World)(h:ct w ⟨ao,n,cap⟩ ps)(ht:aP w t c)(hn:n≤1073741823)(hz:SzL 8388608 ps)(hzc:Sz 8388608 c) :
  ak 51 [.slice ao n cap,t.v] w SH.v (fun s w'=>bW w.heap.size w' s (bX ps c)):=by
 obtain ⟨tn,ta,tl,tc,tb,tm,td⟩:=t;have H:=Hi h;have HR:=Hi ht;have HX:=Hi (Ext.refl w);have hle:=h.le;have hmx:=h.max;have Hlen:=Hi h.len;simp only at hle hmx Hlen;have HZ:=Hi hz;have HZc:=Hi hzc;clear h ht hz hzc;unfold ak;go_enter Tryz.func51,Tryz.ntmps51
 go_upto_region 1 with fail
 refine nmA ?_;intro w1 hE B3 hz_w1 hr_w1;refine mV2 hE ?_ HR HX;clear HR HX;intro HR HX;obtain ⟨b3,hb3⟩:∃ b3,b3=w.heap.size:=⟨_,rfl⟩;have hb3w:w.heap.size≤b3:=zo;have hb31:b3<w1.heap.size:=zo;rw [←hb3] at B3 ⊢;clear hb3;go_wp2
 go_loopg [5,10] n (fun g v i wr=>∃ (j:Nat) (s:SH),v=s.v∧j+g=n∧i=.int .i64 (j:Nat)∧Ext w wr∧w1.heap.size≤wr.heap.size∧aP wr ⟨tn,ta,tl,tc,tb,tm,td⟩ c∧wr.heap[b3]?=some (.cells #[.bool tn,.slice ta tl tc,.slice tb tm td] 34 (0,0))∧ey wr (w1.heap.size≤·) s.v ((ps.take j).map (·*c)))
 case atStart=>exact ⟨0,⟨none,0,0⟩,rfl,zo,rfl,HX.out,nXe _,HR.out,B3.out,ey.nil _ _⟩
 case round =>
  obtain ⟨j,⟨sa,sn,sc⟩,rfl,hj,rfl,g1,hsz1,g2,g3,g4⟩:=hrel;clear HX HR B3;have HX:=Hi g1;have HR:=Hi g2;have B3:=Hi g3;have HO:=Hi g4;have hsz:=g1.size;clear g1 g2 g3 g4;simp only [SH.v];by_cases h0:gk=0
  case pos =>
   subst h0;obtain rfl:j=n:=by omega
   have HE:Hid (ps.take j=ps):=Hi (nXm (by rw [Hlen.out];exact nXe _));rw [HE.out] at HO;have hsn:=ey.len (s:=⟨sa,sn,sc⟩) HO.out;rw [nXl,Hlen.out] at hsn;simp only at hsn;subst hsn;have HSz:Hid (SzL 16777216 (ps.map (·*c))):=Hi (by
    intro q hq;obtain ⟨y,hy,rfl⟩:=nYg.1 hq;exact ((HZ.out y hy).mul HZc.out).mono dZ)
   go_wp2_with fail
   refine cM (ce sa j sc _ _ ((ey.can (s:=⟨sa,j,sc⟩) HO.out).raw HSz.out dZ) zo) fun x20 w20 hE G20=>?_
   replace HX:=hE.tr HX;go_wp2
   go_ret
   exact ⟨x20,rfl,HX.out,G20.out.mono hsz⟩
  have hjn:(j:Int)<n:=zo;obtain ⟨b,off,r,hao,hbl,⟨hc1,hc2,hc3⟩,hP⟩:=(H.out.ext HX.out).cells' (k:=j) zo;obtain ⟨rneg,ra,rn,rc,rb,rm,rd⟩:=r;simp only at hc1 hc2 hc3;subst hao;have RP:=Hi hP;clear hP;have HNx:Hid ((ps.take (j+1)).map (·*c)=(ps.take j).map (·*c)++[ps.getD j 0*c]):=Hi (by rw [←fU (by rw [Hlen.out];omega),List.map_append];rfl);have HLn:Hid (((ps.take j).map (·*c)).length≤1073741824):=Hi (by rw [nXl,nXk];omega)
  go_upto_region 5 with fail
  refine nmA ?_;intro y1 hE B7 hz_y1 hr_y1;refine mV5 hE ?_ HR B3 HO HX RP;clear HR B3 HO HX RP;intro HR B3 HO HX RP;replace b_B3:=bX3 B3;replace b_B7:=bX3 B7
  go_wp2_with fail
  refine cM (fV ⟨rneg,ra,rn,rc,rb,rm,rd⟩ ⟨tn,ta,tl,tc,tb,tm,td⟩ _ c _ RP.out HR.out) fun x2 w2 hE G2=>?_
  refine mV4 hE ?_ HR B3 HO HX;clear HR B3 HO HX;intro HR B3 HO HX;have hs_w2:=hE.size
  go_wp2_with (at_builtin;refine cD rfl (.tmp 14) (.tmp 18) 24 Tryz.underlying24 rfl (w1.heap.size≤·) _ _ x2 _ rfl HO.out rfl G2.out HLn.out (fun k hk=>by omega) ?_;intro s' y3 q1 q2 q3)
  have HX3:=Hi (Ext.mods HX.out q2 (fun k h=>by omega));have HO3:Hid (ey y3 (w1.heap.size≤·) s'.v ((ps.take (j+1)).map (·*c))):=Hi (by rw [HNx.out];exact q1);have HR3:=Hi (HR.out.keep q3);have B33:=Hi (bf.blk' q2 zo B3.out);have hsz3:=q2.size;clear q1 q2 q3;go_wp2
  go_roundg (gk-1)
  case measure=>omega
  case rel=>exact ⟨j+1,s',rfl,zo,by go_num,HX3.out,zo,HR3.out,B33.out,HO3.out⟩
def mH(ps qs:List Rat):List Rat:=br ps (bX qs ((-1:Int):Rat))
theorem lP{s t:Nat}{l:List Rat}{c:Rat}(h:SzL s l)(hc:Sz t c):SzL (s+t) (bX l c):=by
 unfold bX;refine SzL.tz ?_;intro q hq;obtain ⟨y,hy,rfl⟩:=nYg.1 hq;exact (h y hy).mul hc
theorem m7(l:List Rat)(c:Rat):(bX l c).length≤l.length:=by
 unfold bX;refine nXf (ae _) ?_;simp
theorem jg:Sz 1 ((-1:Int):Rat):=Sz.int dZ
theorem yV(ao bo:Option Addr)(n c m d:Nat)(ps qs:List Rat)(w:World)(h:ct w ⟨ao,n,c⟩ ps)(k:ct w ⟨bo,m,d⟩ qs)(hn:n≤1073741823)(hm:m≤1073741823)(hz:SzL 8388608 ps)(kz:SzL 8388607 qs) :
  ak 44 [.slice ao n c,.slice bo m d] w SH.v (fun s w'=>bW w.heap.size w' s (mH ps qs)):=by
 have H:=Hi h;have K:=Hi k;have HX:=Hi (Ext.refl w);have Hm:=Hi k.len;simp only at Hm;have HZ:=Hi hz;have KZ:=Hi kz;clear h k hz kz;unfold ak;go_enter Tryz.func44,Tryz.ntmps44
 go_wp2_with fail
 refine cM (ck (-1) _ dZ dZ) fun x1 w1 hE G1=>?_
 replace HX:=hE.tr HX
 go_wp2_with fail
 refine cM (iL bo m d qs x1 ((-1:Int):Rat) _ (K.out.ext HX.out) (G1.out.raw jg dZ) hm (KZ.out.mono dZ) (jg.mono dZ)) fun x2 w2 hE G2=>?_
 replace HX:=hE.tr HX;obtain ⟨sa,sn,sc⟩:=x2;have hsn:sn≤m:=by
  have h1:=G2.out.len;have h2:=m7 qs ((-1:Int):Rat);rw [Hm.out] at h2;simp only at h1;omega
 simp only [SH.v];have hsz:=HX.out.size
 go_wp2_with fail
 refine cM (AN ao sa n c sn sc ps (bX qs ((-1:Int):Rat)) _ (H.out.ext HX.out) (G2.out.can.raw (lP KZ.out jg) dZ) hn zo HZ.out ((lP KZ.out jg).mono dZ)) fun x3 w3 hE G3=>?_
 replace HX:=hE.tr HX;go_wp2
 go_ret
 exact ⟨x3,rfl,HX.out,G3.out.mono hsz⟩
open Stab
theorem kT(ao:Option Addr)(n cap:Nat)(l:List Rat)(S:Nat)(w:World)(h:aD w ⟨ao,n,cap⟩ l)(hn:n≤1000000)(hS:S≤8000000)(hz:SzL S l) :
  ak 136 [.slice ao n cap] w SH.v (fun x w'=>bW w.heap.size w' x (bF l)):=by
 have HX:=Hi (Ext.refl w);have LP:=Hi h.lin;have HSz:=Hi hz;have Hlen:=Hi h.len;simp only at Hlen;clear h hz;unfold ak;go_enter Tryz.func136,Tryz.ntmps136
 go_wp2_with fail
 refine cM (ce ao n cap l _ (LP.out.can.raw HSz.out zo) zo) fun x4 w4 hE G4=>?_
 replace HX:=hE.tr HX;have hs_w4:=hE.size;obtain ⟨pa,P,pc⟩:=x4;have hP:=G4.out.len;simp only at hP;obtain ⟨p,hp⟩:∃ p,p=tz l:=⟨_,rfl⟩;rw [←hp] at G4 hP;have HTZ:=Hi hp;have HSp:Hid (SzL S p):=Hi (by rw [hp];exact SzL.tz HSz.out);have hPn:P≤n:=by rw [←hP,hp,←Hlen.out];exact ae l
 have hHP:=Hi hP;have HG:Hid (LIn w4 ⟨pa,P,pc⟩ p w.heap.size w4.heap.size):=Hi G4.out;clear hp hP Hlen;clear LP;clear G4;simp only [SH.v];by_cases h0:P=0
 case pos =>
  subst h0;have HV:Hid (bF l=[]):=Hi (by unfold bF;rw [if_pos (by rw [←HTZ.out];exact nXj.1 hHP.out)]);go_wp2
  go_ret
  exact ⟨⟨none,0,0⟩,rfl,HX.out,by rw [HV.out];exact bW.nil _ _⟩
 obtain ⟨m,rfl⟩:∃ m,P=m+1:=⟨P-1,zo⟩;have hz0:((m:Int)+1 == 0)=false:=by rw [nXs];omega
 have Hne:Hid (tz l≠[]):=Hi (by rw [←HTZ.out];intro h;have:=hHP.out;rw [h] at this;simp at this);have HL:Hid (aO (tz l)=p.getD m 0):=Hi (by unfold aO;rw [←HTZ.out,hHP.out];rfl);have Zc:Hid (Sz S (p.getD m 0)):=Hi (HSp.out.at (by rw [hHP.out];omega));have ZI:Hid (Sz (1+S) (((1:Int):Rat) / p.getD m 0)):=Hi ((Sz.int dZ).div Zc.out);have HV:Hid (bF l=bX p (((1:Int):Rat) / p.getD m 0)):=Hi (by unfold bF bX;rw [if_neg Hne.out,HL.out,←HTZ.out]);obtain ⟨b,off,r,hao,hbl,⟨hc1,hc2,hc3⟩,hPc⟩:=HG.out.celx (k:=m) zo;obtain ⟨rneg,ra,rn,rc,rb,rm,rd⟩:=r;simp only at hc1 hc2 hc3;have HC:=Hi hPc;clear hPc h0;subst hao
 go_upto_region 4 with fail
 refine wpG 10 (fun opIx=>match opIx with
  | 1=>sR (((1:Int):Rat))
  | 8=>sR (((1:Int):Rat) / p.getD m 0)
  | 9=>.spec (SH) (default) (SH.v) (fun x w'=>bW w.heap.size w' x (bX p (((1:Int):Rat) / p.getD m 0)))
  | _=>.quiet) (fun|8=>[1]|9=>[8]|_=>[]) fun w0 he0 hz0 hc0 hf0=>?_
 refine wps he0 (fun w1 hW hG=>?_) fun x20=>?_
 ·exact spc [.int .i64 1] Tryz.func36 (ck 1 _ dZ dZ)
 refine qZ ?_;refine wps he0 (fun w1 hW hG=>?_) fun x21=>?_
 ·have g20:=gS (hG 1 dZ);exact spc [x20.v,RH.v ⟨rneg,ra,rn,rc,rb,rm,rd⟩] Tryz.func35 (iM x20 _ _ _ _ (g20.raw (Sz.int dZ) dZ) ((HC.out.ext hW).raw Zc.out zo))
 refine qZ ?_;refine wps he0 (fun w1 hW hG=>?_) fun x22=>?_
 ·have g21:=gS (hG 8 dZ);exact spc [.slice (some ⟨b,off,none⟩) (m+1:Nat) pc,x21.v] Tryz.func51 ((iL (some ⟨b,off,none⟩) (m+1) pc p x21 (((1:Int):Rat) / p.getD m 0) _ ((HG.out.ext hW).can.raw HSp.out zo) (g21.raw ZI.out zo) zo (HSp.out.mono zo) (ZI.out.mono zo)).wk (fun _ _ _ h=>h.mono (by have:=hW.size;omega)))
 refine qZ ?_;refine aj ?_;intro w5 hI;have hE:=he0.out.trans hI.ext;have G22:=gT (hI.facts 9);clear hI he0 hz0 hc0 hf0;replace HX:=hE.tr HX;simp only [pD];clear hc1 hc2 hc3;go_wp2
 go_ret
 exact ⟨x22,rfl,HX.out,by rw [HV.out];exact G22.out⟩
end Go.Proofs.YtafgmcimcbhhjaaGreat
