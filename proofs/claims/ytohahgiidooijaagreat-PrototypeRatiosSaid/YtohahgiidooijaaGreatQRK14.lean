/- newChain, variations, rootAt, between of package sturm; checked. -/
import Derived.Test.YtohahgiidooijaaGreatQRK13
import Derived.Test.YtohahgiidooijaaGreatQRK10
import Derived.Test.YtohahgiidooijaaGreatQRK5
import Derived.Test.YtohahgiidooijaaGreatQRK2
import Derived.Test.YtohahgiidooijaaGreatQRM7
import Derived.Test.YtohahgiidooijaaGreatQRK1
import Derived.Test.YtohahgiidooijaaGreatQRK3
set_option linter.unusedVariables false
set_option maxHeartbeats 8000000
set_option maxRecDepth 8000
namespace Go.Proofs.YtohahgiidooijaaGreat
open Go.RowKit Go.Front Go.Num Stab Sg
attribute [local go_sem] XW.cell XW.frozen
theorem kY{P:Program}{o:Oper}{a:Act}{α:Type}{mk:α→Value}{φ:α→World→Prop}{w:World}{f:FuncId}{fn:Func}{t:Operand}{xs:Array Operand}{ats:Array TypeId}(first:Array Value)(args:List Value)
 (ho:o.op=.call { callee:=.value t,args:=xs,argTypes:=ats })(ht:a.eval t=.func (.func f) first #[])(ha:first.toList++xs.toList.map a.eval=args)
 (hf:P.funcs[f]?=some fn)(hn:(fn.name == "runtime.NumGoroutine")=false)(hb:fn.body.isNone=false)
 (h:Calls P f args.toArray w (fun e w''=>∃ x,e=.returned (mk x)∧Ext w w''∧φ x w'')):fH P o a w mk φ:=by
 obtain ⟨dst,op,type,pos,after,guard⟩:=o;simp only at ho;subst ho;unfold fH;have ha':first++xs.map a.eval++#[]=args.toArray:=by
  rw [←ha,Array.append_empty];apply Array.ext';simp
 have:execOp a.eval { dst,op:=.call { callee:=.value t,args:=xs,argTypes:=ats },type,pos,after,guard }=callFunc f (first++xs.map a.eval++#[]):=by
  simp only [execOp,resolve,ht,Deferred.ofValue];rfl
 rw [this,ha',jg hf hn hb];exact ⟨Ext.refl _,h⟩
def rR(p:List Rat):Int:=if 49<(tz p).length then 12 else if tz p=[] then 3 else 0
theorem pC(ao:Option Addr)(n c:Nat)(p:List Rat)(w:World)(h:cx w ⟨ao,n,c⟩ p):am 156 [.slice ao n c] w (fun _:Unit=>.int .i64 (rR p)) (fun _ _=>True):=by
 have HX:=Hi (Ext.refl w);have HP:=Hi h;clear h;unfold am;go_enter Tryz.func156,Tryz.ntmps156
 go_wp2_with fail
 refine cM (cT ao n c p _ HP.out) fun x5 w5 hE _=>?_
 replace HX:=hE.tr HX;have hs_w5:=hE.size;clear hE;obtain ⟨P,hP⟩:∃ P,P=(tz p).length:=⟨_,rfl⟩;rw [←hP];by_cases h1:49<P
 ·have e:rR p=12:=by unfold rR;rw [←hP,if_pos h1]
  have E:=Hi e;clear e;have h2:(48:Int)<(P:Int)-1:=by omega
  go_wp2
  go_ret
  exact ⟨(),by rw [E.out];rfl,HX.out,trivial⟩
 ·have h2:¬ (48:Int)<(P:Int)-1:=by omega
  by_cases h3:P=0
  ·have e:rR p=3:=by unfold rR;rw [←hP,if_neg h1,if_pos (nXi.1 (by omega))]
   have E:=Hi e;clear e;have h4:(P:Int)-1<0:=by omega
   go_wp2
   go_ret
   exact ⟨(),by rw [E.out];rfl,HX.out,trivial⟩
  ·have e:rR p=0:=by unfold rR;rw [←hP,if_neg h1,if_neg (fun h=>h3 (by rw [hP,h];rfl))]
   have E:=Hi e;clear e;have h4:¬ (P:Int)-1<0:=by omega
   go_wp2
   go_ret
   exact ⟨(),by rw [E.out];rfl,HX.out,trivial⟩
theorem ChM.at{w:World}{lo B:Nat}{va:Option Addr}{vn vc:Nat}{ms:List (List Rat)}(h:ChM w lo B (SH.v ⟨va,vn,vc⟩) ms):vn=ms.length∧∀ k,k<ms.length→∃ L a n c,va=some ⟨L,0,none⟩∧L<w.heap.size∧w.cell? ⟨L,k,none⟩=some (.slice a n c)∧aF w ⟨a,n,c⟩ (ms.getD k []):=by
 obtain ⟨xs,h1,h2,h3⟩:=h;rcases h1 with ⟨e,rfl⟩|⟨L,cap,re,e,g1,g2,g3⟩
 ·simp only [SH.v,Value.slice.injEq] at e;refine ⟨by rw [e.2.1,←h2];rfl,fun k hk=>?_⟩;rw [←h2] at hk;simp at hk
 ·simp only [SH.v,Value.slice.injEq] at e;refine ⟨by rw [e.2.1,h2],fun k hk=>?_⟩;obtain ⟨b,-,-,h4⟩:=h3 k hk;exact ⟨L,_,_,_,e.1,g2.lt,g2.cell (by omega),h4.can⟩
structure ChK (w:World) (v:SH) (ms:List (List Rat)) (K:Nat):Prop where
 ch:∃ lo B,ChM w lo B v.v ms
 wz:∀ m ∈ ms,∀ y ∈ m,Wz K y
 ln:ms.length≤1000
 ml:∀ m ∈ ms,m.length≤1000
 k1:1≤K
 k2:K≤30000000
theorem ChK.ext{w w':World}{v:SH}{ms:List (List Rat)}{K:Nat}(h:ChK w v ms K)(he:Ext w w'):ChK w' v ms K :=
 ⟨let ⟨lo,B,h1⟩:=h.ch;⟨lo,B,h1.ext he⟩,h.wz,h.ln,h.ml,h.k1,h.k2⟩
instance {w w':World} {v:SH} {ms:List (List Rat)} {K:Nat}:Go.Front.Mv w w' (ChK w v ms K) (ChK w' v ms K):=⟨fun e h=>ChK.ext h e⟩

theorem ChK.len{w:World}{va:Option Addr}{vn vc:Nat}{ms:List (List Rat)}{K:Nat}(h:ChK w ⟨va,vn,vc⟩ ms K):vn=ms.length:=let ⟨_,_,h1⟩:=h.ch;h1.at.1
theorem ChK.at{w:World}{va:Option Addr}{vn vc:Nat}{ms:List (List Rat)}{K k:Nat}(h:ChK w ⟨va,vn,vc⟩ ms K)(hk:k<ms.length):∃ L a n c,va=some ⟨L,0,none⟩∧L<w.heap.size∧w.cell? ⟨L,k,none⟩=some (.slice a n c)∧aF w ⟨a,n,c⟩ (ms.getD k [])∧n≤1000∧∀ y ∈ ms.getD k [],Wz K y:=by
 obtain ⟨lo,B,h1⟩:=h.ch;obtain ⟨L,a,n,c,e1,e2,e3,e4⟩:=h1.at.2 k hk;have hm:ms.getD k [] ∈ ms:=by
  rw [nXc,List.getElem?_eq_getElem hk];exact List.getElem_mem _
 refine ⟨L,a,n,c,e1,e2,e3,e4,?_,h.wz _ hm⟩;have:=h.ml _ hm;have:=e4.len;simp only at this;omega
theorem qB{α β:Type}(f:α→β)(l:List α)(d:α){k:Nat}(hk:k<l.length):(l.drop k).map f=f (l.getD k d) :: (l.drop (k+1)).map f:=by
 rw [List.drop_eq_getElem_cons hk,List.map_cons,nXc,List.getElem?_eq_getElem hk];rfl
theorem pv(v:SH)(ms:List (List Rat))(K:Nat)(t:RH)(x:Rat)(T:Nat)(w:World)(hc:ChK w v ms K)(ht:au w t x)(hx:Sz T x)(hT:1≤T)(hT3:T≤1000) :
  am 207 [CV v,t.v] w (fun _:Unit=>.int .i64 (eB ms x)) (fun _ _=>True):=by
 obtain ⟨va,vn,vc⟩:=v;obtain ⟨tn,ta,tl,tc,tb,tm,td⟩:=t;have HX:=Hi (Ext.refl w);have HC:=Hi hc;have HT:=Hi ht;have ZX:=Hi hx;obtain rfl:=hc.len;have hK1:=hc.k1;have hK2:=hc.k2;have hl:=hc.ln;clear hc ht hx;unfold am;go_enter Tryz.func207,Tryz.ntmps207;simp only [CV,SH.v]
 go_upto_region 1 with fail
 refine f6 ?_;intro w1 hE B2 B3 hz_w1 hr_w1;refine mV3 hE ?_ HX HC HT;clear HX HC HT;intro HX HC HT;have hs_w1:=hE.size;clear hE;replace b_B2:=bX3 B2;obtain ⟨c_B3,f_B3,l_B3⟩:=bX3 B3;obtain ⟨b3,hb3⟩:∃ b3,b3=w.heap.size+1:=⟨_,rfl⟩;have hb3w:b3<w1.heap.size:=by omega
 rw [←hb3] at B3 ⊢;clear c_B3 f_B3 l_B3;have c_B3:=ab B3.out;have f_B3:=ae B3.out;clear hb3;go_wp2
 go_loopg [5,6,13] ms.length (fun g cv lv iv wr=>∃ (k cnt:Nat) (la:Int),k+g=ms.length∧iv=.int .i64 (k:Nat)∧cv=.int .i64 (cnt:Nat)∧lv=.int .i64 la∧Ext w wr∧Ext w1 wr∧cnt+vr la ((ms.drop k).map fun m=>Sg.sg (evV m x))=eB ms x∧cnt≤k∧IsS la)
 case atStart=>exact ⟨0,0,0,by omega,rfl,rfl,rfl,HX.out,Ext.refl _,by rw [Nat.zero_add];rfl,nXd _,Or.inr (Or.inl rfl)⟩
 case round =>
  obtain ⟨k,cnt,la,hk,rfl,rfl,rfl,g1,g2,g3,g4,g5⟩:=hrel;clear HX;have HX:=Hi g1;have HX7:=Hi g2;have HC2:=Hi (HC.out.ext g2);have HT2:=Hi (HT.out.ext g2);have B32:=Hi (g2.block B3.out);have HV:=Hi g3;have hla:-1≤la∧la≤1:=by unfold IsS at g5;omega
  have HLA:=Hi g5;have hb3r:=g2.size;clear g1 g2 g3 g5 b_B2 c_B3 f_B3;replace b_B32:=bX3 B32;by_cases h0:gk=0
  case pos =>
   subst h0;obtain rfl:k=ms.length:=by omega
   have HE:Hid (cnt=eB ms x):=Hi (by have:=HV.out;rw [List.drop_length,List.map_nil] at this;exact this);have hin:¬ ((ms.length:Nat):Int)<(ms.length:Nat):=by omega
   go_wp2
   go_ret
   exact ⟨(),by rw [HE.out];rfl,HX.out,trivial⟩
  have hin:(k:Int)<(ms.length:Nat):=by omega
  have hkn:k<ms.length:=by omega
  obtain ⟨L,a,n,c,hva,hLl,hcell,hcan,hn,hwz⟩:=HC2.out.at (k:=k) hkn;subst hva;have HL:=Hi hcan;have HW:=Hi hwz;have HD:=Hi (qB (fun m=>Sg.sg (evV m x)) ms [] hkn);clear hcan hwz
  go_wp2_with fail
  refine cM (jU a n c (ms.getD k []) ⟨tn,ta,tl,tc,tb,tm,td⟩ x K T _ HL.out HT2.out hn HW.out ZX.out hT hK1 hK2 hT3) fun x19 w19 hE _=>?_
  refine mV6 hE ?_ HX HX7 HC2 HT2 B32 HL;clear HX HX7 HC2 HT2 B32 HL;intro HX HX7 HC2 HT2 B32 HL;have hs_w19:=hE.size;clear hE;replace b_B32:=bX3 B32;rw [HD.out] at HV;have hs:=oC (evV (ms.getD k []) x);obtain ⟨s,es⟩:∃ s,s=Sg.sg (evV (ms.getD k []) x):=⟨_,rfl⟩;rw [←es] at HV hs ⊢;have HS:=Hi hs;clear es HD HL HW hcell;have hs2:-1≤s∧s≤1:=by unfold IsS at hs;omega
  clear hs;obtain ⟨rl,hrl⟩:∃ rl,rl=(ms.drop (k+1)).map fun m=>Sg.sg (evV m x):=⟨_,rfl⟩
  rw [←hrl] at HV;have HRL:=Hi hrl;clear hrl;by_cases hs0:s=0
  case pos =>
   subst hs0;have HV2:Hid (cnt+vr la rl=eB ms x):=Hi (by have:=HV.out;rw [show vr la (0 :: rl)=vr la rl by simp [vr]] at this;exact this);clear HV;go_wp2
   go_roundg (gk-1)
   case measure=>omega
   case rel=>exact ⟨k+1,cnt,la,by omega,by go_num,rfl,rfl,HX.out,HX7.out,by rw [←HRL.out];exact HV2.out,by omega,HLA.out⟩
  have hsb:(s == 0)=false:=by rw [nXr];exact hs0
  by_cases hl0:la=0
  case pos =>
   subst hl0;have HV2:Hid (cnt+vr s rl=eB ms x):=Hi (by have:=HV.out;rw [show vr 0 (s :: rl)=vr s rl by simp [vr,hs0]] at this;exact this);clear HV;go_wp2
   go_roundg (gk-1)
   case measure=>omega
   case rel=>exact ⟨k+1,cnt,s,by omega,by go_num,rfl,rfl,HX.out,HX7.out,by rw [←HRL.out];exact HV2.out,by omega,HS.out⟩
  have hlb:(la == 0)=false:=by rw [nXr];exact hl0
  by_cases hsl:s=la
  case pos =>
   subst hsl;have HV2:Hid (cnt+vr s rl=eB ms x):=Hi (by have:=HV.out;rw [show vr s (s :: rl)=vr s rl by simp [vr,hs0]] at this;exact this);clear HV;go_wp2
   go_roundg (gk-1)
   case measure=>omega
   case rel=>exact ⟨k+1,cnt,s,by omega,by go_num,rfl,rfl,HX.out,HX7.out,by rw [←HRL.out];exact HV2.out,by omega,HS.out⟩
  have hslb:(s == la)=false:=by rw [nXr];exact hsl
  have hlb2:(la != 0)=true:=by rw [bne,hlb];rfl
  have hslb2:(s != la)=true:=by rw [bne,hslb];rfl
  have HV2:Hid ((cnt+1)+vr s rl=eB ms x):=Hi (by have:=HV.out;rw [show vr la (s :: rl)=1+vr s rl by simp [vr,hs0,hl0,hsl]] at this;omega);clear HV;go_wp2
  go_roundg (gk-1)
  case measure=>omega
  case rel=>exact ⟨k+1,cnt+1,s,by omega,by go_num,by go_num,rfl,HX.out,HX7.out,by rw [←HRL.out];exact HV2.out,by omega,HS.out⟩
theorem ou(v:SH)(ms:List (List Rat))(K:Nat)(t:RH)(x:Rat)(T:Nat)(w:World)(hc:ChK w v ms K)(h0:0<ms.length)(ht:au w t x)(hx:Sz T x)(hT:1≤T)(hT3:T≤1000) :
  am 208 [CV v,t.v] w (fun _:Unit=>.bool (rtV ms x)) (fun _ _=>True):=by
 obtain ⟨va,vn,vc⟩:=v;obtain ⟨tn,ta,tl,tc,tb,tm,td⟩:=t;have HX:=Hi (Ext.refl w);have HC:=Hi hc;have HT:=Hi ht;have ZX:=Hi hx;have hvl:=hc.len;obtain ⟨N,rfl⟩:∃ N,vn=N+1:=⟨vn-1,by omega⟩;have hK1:=hc.k1;have hK2:=hc.k2;have hl:=hc.ln;clear hc ht hx;unfold am;go_enter Tryz.func208,Tryz.ntmps208;simp only [CV,SH.v]
 go_upto_region 1 with fail
 refine f6 ?_;intro w1 hE B2 B3 hz_w1 hr_w1;refine mV3 hE ?_ HX HC HT;clear HX HC HT;intro HX HC HT;have hs_w1:=hE.size;clear hE;replace b_B2:=bX3 B2;replace b_B3:=bX3 B3;obtain ⟨L,a,n,c,hva,hLl,hcell,hcan,hn,hwz⟩:=HC.out.at (k:=0) h0;subst hva;have HL:=Hi hcan;have HW:=Hi hwz;have hin:(0:Int)<(N:Int)+1:=by omega
 clear hcan hwz;obtain ⟨s,hs⟩:∃ s,s=Sg.sg (evV (ms.getD 0 []) x):=⟨_,rfl⟩;have HSE:=Hi hs;have HV:Hid (rtV ms x=(s == 0)):=Hi (by
  unfold rtV;rw [←hs];by_cases h:s=0
  ·rw [h];rfl
  ·rw [decide_eq_false h,nXr.2 h])
 clear hs;refine wpG 8 (fun opIx=>match opIx with
  | 5=>.spec Unit () (fun _=>.int .i64 s) (fun _ _=>True)
  | _=>.quiet) (fun _=>[]) fun w0 he0 hz0 hc0 hf0=>?_
 refine wps he0.out rfl rfl (fun w1 hW hG=>?_) fun x20=>?_
 ·exact spc [.slice a n c,RH.v ⟨tn,ta,tl,tc,tb,tm,td⟩] Tryz.func158 ((by rw [HSE.out];exact jU a n c (ms.getD 0 []) ⟨tn,ta,tl,tc,tb,tm,td⟩ x K T _ (HL.out.ext hW) (HT.out.ext hW) hn HW.out ZX.out hT hK1 hK2 hT3))
 refine qZ ?_;refine aj ?_;intro w2 hI;have hE:=he0.out.trans hI.ext;clear hI he0 hz0 hc0 hf0;refine mV6 hE ?_ B2 B3 HX HC HL HT;clear B2 B3 HX HC HL HT;intro B2 B3 HX HC HL HT;have hs_w2:=hE.size;clear hE;replace b_B2:=bX3 B2;replace b_B3:=bX3 B3;simp only [pD];go_wp2
 go_ret
 exact ⟨(),by rw [HV.out];rfl,HX.out,trivial⟩
theorem kQ(ms:List (List Rat))(x:Rat):eB ms x≤ms.length:=by
 unfold eB;have:∀ (l:List Int) (z:Int),vr z l≤l.length:=by
  intro l;induction l with
  | nil=>intro z;exact nXd _
  | cons s l ih =>
   intro z;have h1:=ih z;have h2:=ih s;unfold vr;rw [List.length_cons];split
   ·omega
   ·split <;> omega
 have h:=this (ms.map fun m=>Sg.sg (evV m x)) 0
 rwa [nXk] at h
theorem z8:∀ (n:Nat) (a b:List Rat),(chn n a b).length≤n:=by
 intro n;induction n with
 | zero=>intro a b;exact nXd _
 | succ n ih =>
  intro a b;by_cases ha:a=[]
  ·rw [show chn (n+1) a b=[] by simp [chn,ha]];exact Nat.zero_le _
  ·by_cases hb:b=[]
   ·subst hb;rw [dE ha];simp
   ·rw [dY ha hb,List.length_cons];exact Nat.succ_le_succ (ih _ _)
theorem z7{L:Nat}:∀ (n:Nat) (a b:List Rat),a.length≤L→b.length≤L→tz b=b→∀ m ∈ chn n a b,m.length≤L:=by
 intro n;induction n with
 | zero=>intro a b _ _ _ m hm;simp [chn] at hm
 | succ n ih =>
  intro a b ha hb ht m hm;by_cases ha0:a=[]
  ·rw [show chn (n+1) a b=[] by simp [chn,ha0]] at hm;simp at hm
  ·by_cases hb0:b=[]
   ·subst hb0;rw [dE ha0] at hm;obtain rfl:m=a:=by simpa using hm
    exact ha
   ·rw [dY ha0 hb0] at hm;rcases List.mem_cons.1 hm with rfl|hm
    ·exact ha
    ·have:=lX a b (by rw [ht];exact hb0);rw [ht] at this;exact ih _ _ hb (by omega) (bj _) m hm
theorem jw(p:List Rat):(remsV p).length≤p.length+1:=z8 _ _ _
theorem pG{p:List Rat}(h:tz p≠[]):∀ m ∈ remsV p,m.length≤p.length:=by
 refine z7 _ _ _ ?_ ?_ (bj _)
 ·rw [ay];exact ag p
 ·rw [ay];have:=jI h;omega
theorem pF{p:List Rat}(h:tz p≠[]):0<(remsV p).length:=by
 obtain ⟨l,e⟩:=nj h;rw [e];exact Nat.succ_pos _
theorem sT{p:List Rat}(h:tz p≠[]){N:Nat}(hN:(remsV p).length=N+1):(remsV p).getLast?.getD []=(remsV p).getD N []∧tz ((remsV p).getD N [])=(remsV p).getD N []:=by
 have h1:(remsV p).getLast?.getD []=(remsV p).getD N []:=by
  rw [List.getLast?_eq_getElem?,hN,nXc];rfl
 have hlen:(av (derL p)).length≤p.length:=by
  rw [ay];have:=jI h;omega
 obtain ⟨e,k1,k2,k3,-⟩:=qK p.length (av p) (av (derL p)) hlen (bj _) (bj _) (fun h0=>h (ck.1 h0));have h7:(remsV p).getLast?=some e:=k1;refine ⟨h1,?_⟩;rw [←h1,h7];exact k3
theorem ChM.chk{w:World}{lo B:Nat}{v:SH}{r:List Rat}{K:Nat}(h:ChM w lo B v.v (remsV r))(hr:tz r≠[])(hl:r.length≤999)(hW:∀ m ∈ remsV r,∀ y ∈ m,Wz K y)(h1:1≤K)(h2:K≤30000000):ChK w v (remsV r) K :=
 ⟨⟨lo,B,h⟩,hW,by have:=jw r;omega,fun m hm=>by have:=pG hr m hm;omega,h1,h2⟩
theorem vF(pa:Option Addr)(P pc:Nat)(p:List Rat)(K:Nat)(w:World)(h:cx w ⟨pa,P,pc⟩ p)(hP:P≤900)(h0:tz p≠[])(hk:FrK K p)(hK:K≤12000000)(hK2:(P+1)*(K / 3)≤25000000)(hs:FrK K (sqfV p)) :
  am 206 [.slice pa P pc] w CV (fun x w'=>ChK w' x (remsV (rootV p)) K):=by
 have HK1:=Hi hk;have HK2:=Hi hs;obtain ⟨S,D,hS,hD,hD2,hf,hSK⟩:=hk;obtain ⟨U,E,hU,hE,hE2,hfU,hUK⟩:=hs;have LP:=Hi (RIn.of h);have HX:=Hi (Ext.refl w);have hlen:=h.len;simp only at hlen;have H0:=Hi h0;have HF:=Hi hf;have HFU:=Hi hfU;have HSK:Hid (KZ K S P):=Hi (by rw [←hlen];exact hSK);have hUs:=KZ.small hUK;have HUK:Hid (KZ K U (sqfV p).length):=Hi hUK;have hsl:(sqfV p).length≤P:=by rw [←hlen];exact ov h0
 have hK1:1≤K:=by omega
 obtain ⟨N,hN⟩:∃ N,(remsV p).length=N+1:=⟨(remsV p).length-1,by have:=pF h0;omega⟩;have hN2:N≤P:=by have:=jw p;omega
 have HLA:=Hi (sT h0 hN);have HPl:Hid (p.length=P):=Hi hlen;have HRT:=Hi (kX h0).ne;have HMm:Hid ((remsV p).getD N [] ∈ remsV p):=Hi (by
  rw [nXc,List.getElem?_eq_getElem (by omega)];exact List.getElem_mem _)
 have HRV:Hid (rootV p=if 2≤(tz ((remsV p).getD N [])).length then sqfV p else p):=Hi (by
  unfold rootV;rw [HLA.out.1,HLA.out.2])
 clear h hlen hf hfU hSK hUK h0;unfold am;go_enter Tryz.func206,Tryz.ntmps206
 go_upto_region 1 with fail
 refine nmA ?_;intro w1 hE B2 hz_w1 hr_w1;refine mV2 hE ?_ LP HX;clear LP HX;intro LP HX;have hs_w1:=hE.size;clear hE;replace b_B2:=bX3 B2
 go_wp2_with fail
 refine cM (mZ pa P pc p S D K _ LP.out.raw (by omega) H0.out hS hD hD2 HF.out HSK.out (by omega)) fun x5 w5 hE G5=>?_
 refine mV3 hE ?_ B2 LP HX;clear B2 LP HX;intro B2 LP HX;have hs_w5:=hE.size;clear hE;replace b_B2:=bX3 B2;obtain ⟨xa,xn,xc⟩:=x5;obtain ⟨⟨B,hB,hch⟩,hwz⟩:=G5.out;have HC:=Hi hch;have HW:=Hi hwz;clear G5 hch hwz
 go_upto_region 2 with fail
 refine nmA ?_;intro w6 hE B3 hz_w6 hr_w6;refine mV4 hE ?_ B2 LP HX HC;clear B2 LP HX HC;intro B2 LP HX HC;have hs_w6:=hE.size;clear hE;replace b_B2:=bX3 B2;replace b_B3:=bX3 B3;obtain ⟨hxn,hat⟩:=HC.out.at;rw [hN] at hxn;subst hxn;obtain ⟨L,a,n,c,hva,hLl,hcell,hcan⟩:=hat N (by omega);subst hva;have HL:=Hi hcan;have HZ:Hid (SzL K ((remsV p).getD N [])):=Hi (fun y hy=>(HW.out _ HMm.out y hy).sz hK1);obtain ⟨D2,hD2e⟩:∃ D2,D2=(tz ((remsV p).getD N [])).length:=⟨_,rfl⟩;have HDe:=Hi hD2e;rw [←hD2e] at HRV;clear hat hcan;have hN1:((N:Int)+1)-1=N:=by omega
 have hN3:(N:Int)<(N:Int)+1:=by omega
 go_wp2_with fail
 refine cM (cT a n c ((remsV p).getD N []) _ (HL.out.raw HZ.out (by omega))) fun x14 w14 hE _=>?_
 refine mV6 hE ?_ B3 B2 LP HX HC HL;clear B3 B2 LP HX HC HL;intro B3 B2 LP HX HC HL;have hs_w14:=hE.size;clear hE;replace b_B2:=bX3 B2;replace b_B3:=bX3 B3;rw [←hD2e];clear hD2e hcell;clear HL;by_cases hd:2≤D2
 case pos =>
  have hd2:(0:Int)<(D2:Int)-1:=by omega
  have HV:Hid (rootV p=sqfV p):=Hi (by rw [HRV.out,if_pos hd]);clear hd
  go_wp2_with fail
  refine cM (vP pa P pc p K _ LP.out.raw (by omega) H0.out HK1.out hK hK2 HK2.out) fun x17 w17 hE G17=>?_
  refine mV5 hE ?_ B3 B2 LP HX HC;clear B3 B2 LP HX HC;intro B3 B2 LP HX HC;have hs_w17:=hE.size;clear hE;replace b_B2:=bX3 B2;replace b_B3:=bX3 B3;obtain ⟨qa,qn,qc⟩:=x17;have HQ:=Hi G17.out.lin;have hqn:=HQ.out.len;simp only at hqn;clear G17;clear HC;clear LP;simp only [SH.v]
  go_wp2_with fail
  refine cM (sy qa qn qc (sqfV p) U E K _ HQ.out.can (by omega) HRT.out hU hE hE2 HFU.out (by rw [←hqn];exact HUK.out) (by omega)) fun x18 w18 hE G18=>?_
  refine mV4 hE ?_ B3 B2 HX HQ;clear B3 B2 HX HQ;intro B3 B2 HX HQ;have hs_w18:=hE.size;clear hE;replace b_B2:=bX3 B2;replace b_B3:=bX3 B3;obtain ⟨ya,yn,yc⟩:=x18;obtain ⟨⟨B',hB',hch'⟩,hwz'⟩:=G18.out;have HC2:=Hi hch';have HW2:=Hi hwz';clear G18 hch' hwz';clear HQ
  go_upto_region 4 with fail
  refine ko B3.out rfl ?_;intro w19 T;replace HX:=Hi (T.ext HX.out (by omega));replace B2:=Hi (T.rest _ _ (by omega) B2.out);replace B3:=Hi (T.bx);replace HC2:=Hi (HC2.out.put T (by omega));have hs_w19:=nle T.size;have hr_w19:=nle T.size.symm;clear T;replace b_B2:=bX3 B2;replace b_B3:=bX3 B3;go_wp2;refine ko (F:=fun W=>bodyPost _ _ _ _ _ W) B2.out rfl ?_;intro w20 T;replace HX:=Hi (T.ext HX.out (by omega));replace B2:=Hi (T.bx);replace B3:=Hi (T.rest _ _ (by omega) B3.out);replace HC2:=Hi (HC2.out.put T (by omega));have hs_w20:=nle T.size;have hr_w20:=nle T.size.symm;clear T;replace b_B2:=bX3 B2;replace b_B3:=bX3 B3;exact bodyPost_ret (v:=CV ⟨ya,yn,yc⟩) (by simp [results,Tryz.results206,go_sem,CV,b_B2.1]) rfl ⟨⟨ya,yn,yc⟩,rfl,HX.out,by rw [HV.out];exact HC2.out.chk HRT.out (by omega) HW2.out hK1 (by omega)⟩
 have hd2:¬ (0:Int)<(D2:Int)-1:=by omega
 have HV:Hid (rootV p=p):=Hi (by rw [HRV.out,if_neg hd]);go_wp2;refine ko (F:=fun W=>bodyPost _ _ _ _ _ W) B2.out rfl ?_;intro w20 T;replace HX:=Hi (T.ext HX.out (by omega));replace LP:=Hi (LP.out.put T (by omega));replace B2:=Hi (T.bx);replace HC:=Hi (HC.out.put T (by omega));replace B3:=Hi (T.rest _ _ (by omega) B3.out);have hs_w20:=nle T.size;have hr_w20:=nle T.size.symm;clear T;replace b_B2:=bX3 B2;replace b_B3:=bX3 B3;exact bodyPost_ret (v:=CV ⟨some ⟨L,0,none⟩,N+1,xc⟩) (by simp [results,Tryz.results206,go_sem,CV,b_B2.1]) rfl ⟨⟨some ⟨L,0,none⟩,N+1,xc⟩,rfl,HX.out,by rw [HV.out];exact HC.out.chk H0.out (by rw [HPl.out];omega) HW.out hK1 (by omega)⟩
theorem ri(pa:Option Addr)(P pc:Nat)(p:List Rat)(K:Nat)(s t:RH)(a b:Rat)(T:Nat)(w:World)(h:cx w ⟨pa,P,pc⟩ p)(hP:P≤49)(h0:tz p≠[])(hk:FrK K p)(hK:K≤12000000)(hK2:(P+1)*(K / 3)≤25000000)(hsq:FrK K (sqfV p))
 (hs:aR w s a)(ht:aR w t b)(za:Sz T a)(zb:Sz T b)(hT:1≤T)(hT3:T≤1000) :
  am 160 [.slice pa P pc,IvV (s,t)] w (fun _:Unit=>.tuple #[.int .i64 (cntV p (loV a b) (hiV a b)),.int .i64 0]) (fun _ _=>True):=by
 obtain ⟨sn,sa,sl,sc,sb,sm,sd⟩:=s;obtain ⟨tn,ta,tl,tc,tb,tm,td⟩:=t;have HX:=Hi (Ext.refl w);have LP:=Hi (RIn.of h);have HS:=Hi hs;have HT:=Hi ht;have hlen:=h.len;simp only at hlen;have HKp:=Hi hk;have HKs:=Hi hsq;have H0:=Hi h0;have HSz:Hid (SzL K p):=Hi (by
  obtain ⟨S,D,h1,h2,h3,h4,h5⟩:=hk;exact (h4.sz h1 h2 h3).mono (by have:=KZ.small h5;omega))
 have HCK:Hid (rR p=0):=Hi (by unfold rR;rw [if_neg (by have:=ag p;omega),if_neg h0]);have ZA:Hid (Sz T (loV a b)):=Hi (by rcases zt a b with e|e <;> rw [e] <;> assumption);have ZB:Hid (Sz T (hiV a b)):=Hi (by rcases zy a b with e|e <;> rw [e] <;> assumption);have hms:Hid (0<(remsV (rootV p)).length):=Hi (pF (sN h0).ne);obtain ⟨lo,hlo⟩:∃ lo,lo=loV a b:=⟨_,rfl⟩;obtain ⟨hi,hhi⟩:∃ hi,hi=hiV a b:=⟨_,rfl⟩;rw [←hlo] at ZA;rw [←hhi] at ZB;have v1:=kQ (remsV (rootV p)) lo;have v2:=kQ (remsV (rootV p)) hi;have hml:(remsV (rootV p)).length≤P+1:=by
  have e1:=jw (rootV p);have e2:(rootV p).length≤p.length:=by unfold rootV;split;exact ov h0;exact nXd _
  omega
 obtain ⟨x1,hx1⟩:∃ x1,x1=eB (remsV (rootV p)) lo:=⟨_,rfl⟩;obtain ⟨x2,hx2⟩:∃ x2,x2=eB (remsV (rootV p)) hi:=⟨_,rfl⟩;have HV1:=Hi hx1;have HV2:=Hi hx2;rw [←hx1] at v1;rw [←hx2] at v2;have hx1b:x1≤100:=by omega
 have hx2b:x2≤100:=by omega
 have HCN:Hid (cntV p (loV a b) (hiV a b)=(x1:Int)-(x2:Int)+(if rtV (remsV (rootV p)) lo=true then 1 else 0)):=Hi (by rw [hx1,hx2,←hlo,←hhi];rfl);have HLO:=Hi hlo;have HHI:=Hi hhi;obtain ⟨ms,hmse⟩:∃ ms,ms=remsV (rootV p):=⟨_,rfl⟩;have HMS:=Hi hmse;rw [←hmse] at hms HV1 HV2 HCN;clear h hs ht hk hsq h0 za zb hlo hhi hx1 hx2 v1 v2 hml hmse hlen;unfold am;go_enter Tryz.func160,Tryz.ntmps160
 go_upto_region 1 with fail
 refine nmA ?_;intro w1 hE B3 hz_w1 hr_w1;refine mV4 hE ?_ HX LP HS HT;clear HX LP HS HT;intro HX LP HS HT;have hs_w1:=hE.size;clear hE;replace b_B3:=bX3 B3
 go_wp2_with fail
 refine cM (pC pa P pc p _ LP.out.raw) fun x11 w11 hE _=>?_
 refine mV5 hE ?_ B3 HX LP HS HT;clear B3 HX LP HS HT;intro B3 HX LP HS HT;have hs_w11:=hE.size;clear hE;replace b_B3:=bX3 B3;rw [HCK.out]
 go_wp2_with fail
 refine cM (lx ⟨sn,sa,sl,sc,sb,sm,sd⟩ ⟨tn,ta,tl,tc,tb,tm,td⟩ a b _ HS.out HT.out) fun x16 w16 hE G16=>?_
 refine mV5 hE ?_ B3 HX LP HS HT;clear B3 HX LP HS HT;intro B3 HX LP HS HT;have hs_w16:=hE.size;clear hE;replace b_B3:=bX3 B3;obtain ⟨⟨ln,la,ll,lc,lb,lm,ld⟩,⟨hn,ha,hl,hc,hb,hm,hd⟩⟩:=x16;rw [←HLO.out,←HHI.out] at G16;have HL:=Hi G16.out.1;have HH:=Hi G16.out.2;clear G16;clear HS;clear HT
 go_upto_region 5 with fail
 refine ci B3.out rfl ?_;intro w17 T;replace HX:=Hi (T.ext HX.out (by omega));replace LP:=Hi (LP.out.put T (by omega));replace B3:=Hi (T.bx);replace HL:=Hi (HL.out.keep T.keep);replace HH:=Hi (HH.out.keep T.keep);have hs_w17:=nle T.size;have hr_w17:=nle T.size.symm;clear T;replace b_B3:=bX3 B3
 go_wp2_with fail
 refine cM (vF pa P pc p K _ LP.out.raw (by omega) H0.out HKp.out hK hK2 HKs.out) fun x18 w18 hE G18=>?_
 refine mV5 hE ?_ HX LP B3 HL HH;clear HX LP B3 HL HH;intro HX LP B3 HL HH;have hs_w18:=hE.size;clear hE;replace b_B3:=bX3 B3;rw [←HMS.out] at G18;obtain ⟨va,vn,vc⟩:=x18;simp only [CV,SH.v]
 go_upto_region 6 with fail
 refine nmA ?_;intro w19 hE B7 hz_w19 hr_w19;refine mV6 hE ?_ G18 HX LP B3 HL HH;clear G18 HX LP B3 HL HH;intro G18 HX LP B3 HL HH;have hs_w19:=hE.size;clear hE;replace b_B3:=bX3 B3;replace b_B7:=bX3 B7
 go_upto_region 7 with fail
 refine wpG 10 (fun opIx=>match opIx with
  | 3=>.spec Unit () (fun _=>.int .i64 (x1:Nat)) (fun _ _=>True)
  | 7=>.spec Unit () (fun _=>.int .i64 (x2:Nat)) (fun _ _=>True)
  | _=>.quiet) (fun _=>[]) fun w0 he0 hz0 hc0 hf0=>?_
 refine wps he0.out rfl rfl (fun w1 hW hG=>?_) fun x30=>?_
 ·exact (by rw [HV1.out];exact kY #[CV ⟨va,vn,vc⟩] [CV ⟨va,vn,vc⟩,RH.v ⟨ln,la,ll,lc,lb,lm,ld⟩] rfl rfl rfl Tryz.func207 (by kernel_rfl) (by kernel_rfl) (pv ⟨va,vn,vc⟩ ms K ⟨ln,la,ll,lc,lb,lm,ld⟩ lo T _ (G18.out.ext hW) (HL.out.ext hW) ZA.out hT hT3))
 refine qZ ?_;refine wps he0.out rfl rfl (fun w1 hW hG=>?_) fun x31=>?_
 ·exact (by rw [HV2.out];exact kY #[CV ⟨va,vn,vc⟩] [CV ⟨va,vn,vc⟩,RH.v ⟨hn,ha,hl,hc,hb,hm,hd⟩] rfl rfl rfl Tryz.func207 (by kernel_rfl) (by kernel_rfl) (pv ⟨va,vn,vc⟩ ms K ⟨hn,ha,hl,hc,hb,hm,hd⟩ hi T _ (G18.out.ext hW) (HH.out.ext hW) ZB.out hT hT3))
 refine qZ ?_;refine aj ?_;intro w20 hI;have hE:=he0.out.trans hI.ext;clear hI he0 hz0 hc0 hf0;refine mV7 hE ?_ B7 HX LP B3 HL G18 HH;clear B7 HX LP B3 HL G18 HH;intro B7 HX LP B3 HL G18 HH;have hs_w20:=hE.size;clear hE;replace b_B3:=bX3 B3;replace b_B7:=bX3 B7;simp only [pD]
 go_wp2_with fail
 refine cM (ou ⟨va,vn,vc⟩ ms K ⟨ln,la,ll,lc,lb,lm,ld⟩ lo T _ G18.out hms.out HL.out ZA.out hT hT3) fun x33 w33 hE _=>?_
 refine mV7 hE ?_ B7 HX LP B3 HL G18 HH;clear B7 HX LP B3 HL G18 HH;intro B7 HX LP B3 HL G18 HH;have hs_w33:=hE.size;clear hE;replace b_B3:=bX3 B3;replace b_B7:=bX3 B7;obtain ⟨r,hr⟩:∃ r,r=rtV ms lo:=⟨_,rfl⟩;rw [←hr] at HCN ⊢;clear hr;cases r
 ·go_wp2;exact bodyPost_ret (v:=.tuple #[.int .i64 (cntV p (loV a b) (hiV a b)),.int .i64 0]) (by rw [HCN.out];simp [results,Tryz.results160,go_sem]) rfl ⟨(),rfl,HX.out,trivial⟩
 ·go_wp2;exact bodyPost_ret (v:=.tuple #[.int .i64 (cntV p (loV a b) (hiV a b)),.int .i64 0]) (by rw [HCN.out];simp [results,Tryz.results160,go_sem]) rfl ⟨(),rfl,HX.out,trivial⟩
def An(n:Nat)(w:World)(x:SH)(l:List Rat):Prop:=aF w x l∧x.n=n
theorem An.ext{n:Nat}{w w':World}{x:SH}{l:List Rat}(h:An n w x l)(he:Ext w w'):An n w' x l:=⟨h.1.ext he,h.2⟩
instance {n:Nat} {w w':World} {x:SH} {l:List Rat}:Go.Front.Mv w w' (An n w x l) (An n w' x l):=⟨fun e h=>An.ext h e⟩

theorem Bu{p:List Rat}(h:tz p≠[])(hl:p.length≤49):rR p=0:=by unfold rR;rw [if_neg (by have:=ag p;omega),if_neg h]
end Go.Proofs.YtohahgiidooijaaGreat
/- What the answers of package sturm say: positive, nowhere negative. Plain facts. -/
namespace Go.Proofs.YtohahgiidooijaaGreat.Sg
open Go.RowKit Go.Front Go.Num Go.Stab Go.Proofs.YtohahgiidooijaaGreat
theorem me{A B:List Rat}(hA:tz A≠[])(hB:tz B≠[]):av ((bq (av A) (av B)).map (·*-1))=av ((bq A B).map (·*-1)):=by
 obtain ⟨h1,-,-,h4⟩:=cg A hB;have hb:tz (av B)≠[]:=by rw [bj];exact fun h=>hB (ck.1 h)
 refine (lp (a:=av A) (b:=av B) (s:=(bs A B).map (·*aH B)) (r:=bq A B) (f:=aH A) hb (bL hA) (by rw [bj,ay];exact h1) (fun n=>?_)).symm;rw [←cH A n,h4 n];have h5:seq ((bs A B).map (·*aH B))=fun i=>aH B*seq (bs A B) i:=by funext i;rw [aS];grind
 have h6:seq B=fun i=>aH B*seq (av B) i:=by funext i;exact cH B i
 rw [h5,eJ,h6,eS _ (fun i=>aH B*_),eJ,eS]
def br(p:List Rat):List Rat:=(tz p).map (·*(1 / ((tz p).getLast?.getD 0).abs))
theorem vw{p:List Rat}(h:tz p≠[]):0<1 / ((tz p).getLast?.getD 0).abs:=by
 have h1:((tz p).getLast?.getD 0)≠0:=by
  obtain ⟨n,hn⟩:∃ n,(tz p).length=n+1:=⟨(tz p).length-1,by have:=nYf.2 h;omega⟩;have h2:=ii (l:=tz p) (n:=n) (by rw [aT];exact hn);rw [nXc] at h2;rw [List.getLast?_eq_getElem?,hn];exact h2
 refine zP (by decide) ?_;unfold Rat.abs;split <;> grind
theorem gQ(p:List Rat):av (br p)=av p:=by
 by_cases h:tz p=[]
 ·have:br p=[]:=by unfold br;rw [h];rfl
  rw [this,ck.2 h];rfl
 ·refine cu (vw h) (fun n=>?_);unfold br;rw [aS,aW]
theorem fM{p:List Rat}:br p=[]↔tz p=[]:=by unfold br;exact List.map_eq_nil_iff
theorem gJ(p:List Rat):tz (br p)=br p:=by
 by_cases h:tz p=[]
 ·rw [fM.2 h];rfl
 ·unfold br;rw [eV (fun h0=>by have:=vw h;rw [h0] at this;exact absurd this Rat.lt_irrefl),aT]
def rch:Nat→List Rat→List Rat→List (List Rat)
 | 0,_,_=>[]
 | n+1,a,b=>if a=[] then [] else if b=[] then [a] else a :: rch n b (br ((bq a b).map (·*-1)))
theorem oG:∀ (n:Nat) (a b:List Rat),tz a=a→tz b=b→(rch n a b).map av=chn n (av a) (av b)
 | 0,_,_,_,_=>rfl
 | n+1,a,b,ha,hb=>by
  have ka:av a=[]↔a=[]:=by rw [ck,ha]
  have kb:av b=[]↔b=[]:=by rw [ck,hb]
  unfold rch chn;by_cases h1:a=[]
  ·rw [if_pos h1,if_pos (ka.2 h1)];rfl
  ·rw [if_neg h1,if_neg (fun h=>h1 (ka.1 h))];by_cases h2:b=[]
   ·rw [if_pos h2,if_pos (kb.2 h2)];rfl
   ·rw [if_neg h2,if_neg (fun h=>h2 (kb.1 h)),List.map_cons,oG n b _ hb (gJ _),gQ,me (by rw [ha];exact h1) (by rw [hb];exact h2)]
theorem ow(p:List Rat)(x:Rat):sg (evV (av p) x)=sg (evV p x):=by
 by_cases h:tz p=[]
 ·rw [ck.2 h,aC.1 h x];rfl
 ·rw [eQ p x,jZ,jf (bL h)];omega
theorem yv(l:List (List Rat))(x:Rat):eB (l.map av) x=eB l x:=by
 unfold eB;rw [List.map_map]
 congr 1
 exact List.map_congr_left fun m _=>ow m x
def nX(q:List Rat):List (List Rat):=rch (q.length+1) (br q) (br (derL q))
theorem qM(q:List Rat)(x:Rat):eB (nX q) x=eB (remsV q) x:=by
 rw [←yv (nX q)];unfold nX remsV;rw [oG _ _ _ (gJ _) (gJ _),gQ,gQ]
def rX(p:List Rat)(lo hi:Rat):Int:=(eB (nX (sqfV p)) lo:Int)-eB (nX (sqfV p)) hi+(if sg (evV (sqfV p) lo)=0 then 1 else 0)
end Go.Proofs.YtohahgiidooijaaGreat.Sg
/- Degree, Scale, Sub of the reference 05. -/
namespace Go.Proofs.YtohahgiidooijaaGreat
open Go.RowKit Go.Front Go.Num
attribute [local go_sem] XW.cell XW.frozen
theorem dC(ao:Option Addr)(n cap:Nat)(qs:List Rat)(w:World)(h:cx w ⟨ao,n,cap⟩ qs)(hn:n≤1073741824) :
  am 53 [.slice ao n cap] w (fun _:Unit=>.int .i64 (((tz qs).length:Int)-1)) (fun _ _=>True):=by
 have H:=Hi h;have HX:=Hi (Ext.refl w);clear h;unfold am;go_enter Tryz.func53,Tryz.ntmps53
 go_wp2_with fail
 refine cM (aZ ao n cap qs _ H.out hn) fun x1 w1 hE G1=>?_
 replace HX:=hE.tr HX;have hs_w1:=hE.size;clear hE;obtain ⟨pa,P,pc⟩:=x1;simp only [SH.v];have hP:=G1.out.len;simp only at hP;have h1:=G1.out.can.le;have h2:=G1.out.can.max;simp only at h1 h2;have HV:Hid (((tz qs).length:Int)-1=(P:Int)-1):=Hi (by rw [hP]);clear hP;go_wp2
 go_ret
 exact ⟨(),by rw [HV.out];rfl,HX.out,trivial⟩
def bW(ps:List Rat)(c:Rat):List Rat:=tz (ps.map (·*c))
theorem bh.blk'{D:Nat→Prop}{w w':World}(h:bh D w w'){b:Nat}{o:Obj}(hb:¬ D b)(hv:w.heap[b]?=some o):w'.heap[b]?=some o:=by
 have hl:b<w.heap.size:=(nXa.1 hv).1;rw [h.block b hl hb];exact hv
theorem gp(ao:Option Addr)(n cap:Nat)(ps:List Rat)(t:RH)(c:Rat)(w:World)(h:cx w ⟨ao,n,cap⟩ ps)(ht:aR w t c)(hn:n≤1073741823)(hz:SzL 8388608 ps)(hzc:Sz 8388608 c) :
  am 28 [.slice ao n cap,t.v] w SH.v (fun s w'=>cf w.heap.size w' s (bW ps c)):=by
 obtain ⟨tn,ta,tl,tc,tb,tm,td⟩:=t;have H:=Hi h;have HR:=Hi ht;have HX:=Hi (Ext.refl w);have hle:=h.le;have hmx:=h.max;have Hlen:=Hi h.len;simp only at hle hmx Hlen;have HZ:=Hi hz;have HZc:=Hi hzc;clear h ht hz hzc;unfold am;go_enter Tryz.func28,Tryz.ntmps28
 go_upto_region 1 with fail
 refine nmA ?_;intro w1 hE B3 hz_w1 hr_w1;refine mV2 hE ?_ HR HX;clear HR HX;intro HR HX;have hs_w1:=hE.size;clear hE;replace b_B3:=bX3 B3;obtain ⟨b3,hb3⟩:∃ b3,b3=w.heap.size:=⟨_,rfl⟩;have hb3w:w.heap.size≤b3:=by omega
 have hb31:b3<w1.heap.size:=by omega
 rw [←hb3] at B3 ⊢;clear hb3 b_B3;go_wp2
 go_loopg [5,10] n (fun g v i wr=>∃ (j:Nat) (s:SH),v=s.v∧j+g=n∧i=.int .i64 (j:Nat)∧Ext w wr∧w1.heap.size≤wr.heap.size∧aR wr ⟨tn,ta,tl,tc,tb,tm,td⟩ c∧wr.heap[b3]?=some (.cells #[.bool tn,.slice ta tl tc,.slice tb tm td] 30 (0,0))∧d8 wr (w1.heap.size≤·) s.v ((ps.take j).map (·*c)))
 case atStart=>exact ⟨0,⟨none,0,0⟩,rfl,by omega,rfl,HX.out,nXd _,HR.out,B3.out,d8.nil _ _⟩
 case round =>
  obtain ⟨j,⟨sa,sn,sc⟩,rfl,hj,rfl,g1,hsz1,g2,g3,g4⟩:=hrel;clear HX HR B3;have HX:=Hi g1;have HR:=Hi g2;have B3:=Hi g3;have HO:=Hi g4;have hsz:=g1.size;clear g1 g2 g3 g4;simp only [SH.v];replace b_B3:=bX3 B3;have hb3r:=b_B3.2.2;by_cases h0:gk=0
  case pos =>
   subst h0;obtain rfl:j=n:=by omega
   have HE:Hid (ps.take j=ps):=Hi (nXl (by rw [Hlen.out];exact nXd _));rw [HE.out] at HO;have hsn:=d8.len (s:=⟨sa,sn,sc⟩) HO.out;rw [nXk,Hlen.out] at hsn;simp only at hsn;subst hsn;have HSz:Hid (SzL 16777216 (ps.map (·*c))):=Hi (by
    intro q hq;obtain ⟨y,hy,rfl⟩:=nYe.1 hq;exact ((HZ.out y hy).mul HZc.out).mono (by decide))
   go_wp2_with fail
   refine cM (aZ sa j sc _ _ ((d8.can (s:=⟨sa,j,sc⟩) HO.out).raw HSz.out (by decide)) (by omega)) fun x20 w20 hE G20=>?_
   refine mV4 hE ?_ HX HR B3 HO;clear HX HR B3 HO;intro HX HR B3 HO;have hs_w20:=hE.size;clear hE;replace b_B3:=bX3 B3;go_wp2
   go_ret
   exact ⟨x20,rfl,HX.out,G20.out.mono hsz⟩
  have hjn:(j:Int)<n:=by omega
  obtain ⟨b,off,r,hao,hbl,⟨hc1,hc2,hc3⟩,hP⟩:=(H.out.ext HX.out).cells' (k:=j) (by omega);obtain ⟨rneg,ra,rn,rc,rb,rm,rd⟩:=r;simp only at hc1 hc2 hc3;subst hao;have RP:=Hi hP;clear hP;have HNx:Hid ((ps.take (j+1)).map (·*c)=(ps.take j).map (·*c)++[ps.getD j 0*c]):=Hi (by rw [←fQ (by rw [Hlen.out];omega),List.map_append];rfl);have HLn:Hid (((ps.take j).map (·*c)).length≤1073741824):=Hi (by rw [nXk,nXj];omega)
  go_upto_region 5 with fail
  refine nmA ?_;intro y1 hE B7 hz_y1 hr_y1;refine mV5 hE ?_ HX HR B3 HO RP;clear HX HR B3 HO RP;intro HX HR B3 HO RP;have hs_y1:=hE.size;clear hE;replace b_B3:=bX3 B3;replace b_B7:=bX3 B7
  go_wp2_with fail
  refine cM (eX ⟨rneg,ra,rn,rc,rb,rm,rd⟩ ⟨tn,ta,tl,tc,tb,tm,td⟩ _ c _ RP.out HR.out) fun x2 w2 hE G2=>?_
  refine mV6 hE ?_ B7 HX HR B3 HO RP;clear B7 HX HR B3 HO RP;intro B7 HX HR B3 HO RP;have hs_w2:=hE.size;clear hE;replace b_B3:=bX3 B3;replace b_B7:=bX3 B7
  go_wp2_with (at_builtin;refine de rfl (.tmp 14) (.tmp 18) 41 Tryz.underlying41 rfl (w1.heap.size≤·) _ _ x2 _ rfl HO.out rfl G2.out HLn.out (fun k hk=>by omega) ?_;intro s' y3 q1 q2 q3)
  have HX3:=Hi (Ext.mods HX.out q2 (fun k h=>by omega));have HO3:Hid (d8 y3 (w1.heap.size≤·) s'.v ((ps.take (j+1)).map (·*c))):=Hi (by rw [HNx.out];exact q1);have HR3:=Hi (HR.out.keep q3);have B33:=Hi (bh.blk' q2 (by omega) B3.out);have hsz3:=q2.size;clear q1 q2 q3;go_wp2
  go_roundg (gk-1)
  case measure=>omega
  case rel=>exact ⟨j+1,s',rfl,by omega,by go_num,HX3.out,by omega,HR3.out,B33.out,HO3.out⟩
theorem sJ{s t:Nat}{l:List Rat}{c:Rat}(h:SzL s l)(hc:Sz t c):SzL (s+t) (bW l c):=by
 unfold bW;refine SzL.tz ?_;intro q hq;obtain ⟨y,hy,rfl⟩:=nYe.1 hq;exact (h y hy).mul hc
theorem rk(l:List Rat)(c:Rat):(bW l c).length≤l.length:=by
 unfold bW;refine nXe (ag _) ?_;simp
theorem oR:Sz 1 ((-1:Int):Rat):=Sz.int (by decide)
end Go.Proofs.YtohahgiidooijaaGreat
/- Monic of the reference's polynomials. -/
namespace Go.Proofs.YtohahgiidooijaaGreat
open Go.RowKit Go.Front Go.Num Stab
attribute [local go_sem] XW.cell XW.frozen
theorem jB(ao:Option Addr)(n cap:Nat)(l:List Rat)(S:Nat)(w:World)(h:aF w ⟨ao,n,cap⟩ l)(hn:n≤1000000)(hS:S≤8000000)(hz:SzL S l) :
  am 193 [.slice ao n cap] w SH.v (fun x w'=>cf w.heap.size w' x (bt l)):=by
 have HX:=Hi (Ext.refl w);have LP:=Hi h.lin;have HSz:=Hi hz;have Hlen:=Hi h.len;simp only at Hlen;clear h hz;unfold am;go_enter Tryz.func193,Tryz.ntmps193
 go_wp2_with fail
 refine cM (aZ ao n cap l _ (LP.out.can.raw HSz.out (by omega)) (by omega)) fun x4 w4 hE G4=>?_
 refine mV2 hE ?_ HX LP;clear HX LP;intro HX LP;have hs_w4:=hE.size;clear hE;obtain ⟨pa,P,pc⟩:=x4;have hP:=G4.out.len;simp only at hP;obtain ⟨p,hp⟩:∃ p,p=tz l:=⟨_,rfl⟩;rw [←hp] at G4 hP;have HTZ:=Hi hp;have HSp:Hid (SzL S p):=Hi (by rw [hp];exact SzL.tz HSz.out);have hPn:P≤n:=by rw [←hP,hp,←Hlen.out];exact ag l
 have hHP:=Hi hP;have HG:Hid (LIn w4 ⟨pa,P,pc⟩ p w.heap.size w4.heap.size):=Hi G4.out;clear hp hP Hlen;clear LP;clear G4;simp only [SH.v];by_cases h0:P=0
 case pos =>
  subst h0;have HV:Hid (bt l=[]):=Hi (by unfold bt;rw [if_pos (by rw [←HTZ.out];exact nXi.1 hHP.out)]);go_wp2
  go_ret
  exact ⟨⟨none,0,0⟩,rfl,HX.out,by rw [HV.out];exact cf.nil _ _⟩
 obtain ⟨m,rfl⟩:∃ m,P=m+1:=⟨P-1,by omega⟩;have hz0:((m:Int)+1 == 0)=false:=by rw [nXr];omega
 have Hne:Hid (tz l≠[]):=Hi (by rw [←HTZ.out];intro h;have:=hHP.out;rw [h] at this;simp at this);have HL:Hid (aJ (tz l)=p.getD m 0):=Hi (by unfold aJ;rw [←HTZ.out,hHP.out];rfl);have Zc:Hid (Sz S (p.getD m 0)):=Hi (HSp.out.at (by rw [hHP.out];omega));have ZI:Hid (Sz (1+S) (((1:Int):Rat) / p.getD m 0)):=Hi ((Sz.int (by decide)).div Zc.out);have HV:Hid (bt l=bW p (((1:Int):Rat) / p.getD m 0)):=Hi (by unfold bt bW;rw [if_neg Hne.out,HL.out,←HTZ.out]);obtain ⟨b,off,r,hao,hbl,⟨hc1,hc2,hc3⟩,hPc⟩:=HG.out.celx (k:=m) (by omega);obtain ⟨rneg,ra,rn,rc,rb,rm,rd⟩:=r;simp only at hc1 hc2 hc3;have HC:=Hi hPc;clear hPc h0;subst hao
 go_upto_region 4 with fail
 refine wpG 10 (fun opIx=>match opIx with
  | 1=>.spec RH default RH.v (fun s w'=>au w' s (((1:Int):Rat)))
  | 8=>.spec RH default RH.v (fun s w'=>au w' s (((1:Int):Rat) / p.getD m 0))
  | 9=>.spec (SH) (default) (SH.v) (fun x w'=>cf w.heap.size w' x (bW p (((1:Int):Rat) / p.getD m 0)))
  | _=>.quiet) (fun|8=>[1]|9=>[8]|_=>[]) fun w0 he0 hz0 hc0 hf0=>?_
 refine wps he0.out rfl rfl (fun w1 hW hG=>?_) fun x20=>?_
 ·exact spc [.int .i64 1] Tryz.func18 (bP 1 _ (by decide) (by decide))
 refine qZ ?_;refine wps he0.out rfl rfl (fun w1 hW hG=>?_) fun x21=>?_
 ·have g20:=(hG 1 (by decide):ax _ _).get fun _ e g=>g.ext e
  exact spc [x20.v,RH.v ⟨rneg,ra,rn,rc,rb,rm,rd⟩] Tryz.func63 (iV x20 _ _ _ _ (g20.raw (Sz.int (by decide)) (by decide)) ((HC.out.ext hW).raw Zc.out (by omega)))
 refine qZ ?_;refine wps he0.out rfl rfl (fun w1 hW hG=>?_) fun x22=>?_
 ·have g21:=(hG 8 (by decide):ax _ _).get fun _ e g=>g.ext e
  exact spc [.slice (some ⟨b,off,none⟩) (m+1:Nat) pc,x21.v] Tryz.func28 ((gp (some ⟨b,off,none⟩) (m+1) pc p x21 (((1:Int):Rat) / p.getD m 0) _ ((HG.out.ext hW).can.raw HSp.out (by omega)) (g21.raw ZI.out (by omega)) (by omega) (HSp.out.mono (by omega)) (ZI.out.mono (by omega))).wk (fun _ _ _ h=>h.mono (by have:=hW.size;omega)))
 refine qZ ?_;refine aj ?_;intro w5 hI;have hE:=he0.out.trans hI.ext;have G20:=gT (hI.facts 1);have G21:=gT (hI.facts 8);have G22:=gT (hI.facts 9);clear hI he0 hz0 hc0 hf0;refine mV3 hE ?_ HX HG HC;clear HX HG HC;intro HX HG HC;have hs_w5:=hE.size;clear hE;simp only [pD];clear hc1 hc2 hc3;go_wp2
 go_ret
 exact ⟨x22,rfl,HX.out,by rw [HV.out];exact G22.out⟩
end Go.Proofs.YtohahgiidooijaaGreat
