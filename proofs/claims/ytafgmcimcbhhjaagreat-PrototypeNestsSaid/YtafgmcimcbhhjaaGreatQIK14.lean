/- The answers of package sturm, in plain terms, and the examples of the chapter. -/
import Derived.Test.YtafgmcimcbhhjaaGreatQIK13
import Derived.Test.YtafgmcimcbhhjaaGreatQIK10
import Derived.Test.YtafgmcimcbhhjaaGreatQIK5
import Derived.Test.YtafgmcimcbhhjaaGreatQIK2
import Derived.Test.YtafgmcimcbhhjaaGreatQIM7
import Derived.Test.YtafgmcimcbhhjaaGreatQIK1
import Derived.Test.YtafgmcimcbhhjaaGreatQIK3
import Derived.Test.YtafgmcimcbhhjaaGreatQIK7
import Derived.Test.YtafgmcimcbhhjaaGreatQIK4
set_option linter.unusedVariables false
set_option maxHeartbeats 8000000
set_option maxRecDepth 8000
namespace Go.Proofs.YtafgmcimcbhhjaaGreat.Sg
open Go.RowKit Go.Front Go.Num Go.Stab Go.Proofs.YtafgmcimcbhhjaaGreat
def posV(p:List Rat)(lo hi:Rat):Bool:=if tz p=[] then false else if sg (evV (ax p) lo)≤0 then false else decide (cntV p lo hi=0)
end Go.Proofs.YtafgmcimcbhhjaaGreat.Sg
/- newChain, variations, rootAt, between of package sturm; checked. -/
namespace Go.Proofs.YtafgmcimcbhhjaaGreat
open Go.RowKit Go.Front Go.Num Stab Sg
attribute [local go_sem] XW.cell XW.frozen
theorem kB{P:Program}{o:Oper}{a:Act}{α:Type}{mk:α→Value}{φ:α→World→Prop}{w:World}{f:FuncId}{fn:Func}{t:Operand}{xs:Array Operand}{ats:Array TypeId}(first:Array Value)(args:List Value)
 (ho:o.op=.call { callee:=.value t,args:=xs,argTypes:=ats })(ht:a.eval t=.func (.func f) first #[])(ha:first.toList++xs.toList.map a.eval=args)
 (hf:P.funcs[f]?=some fn)(hn:(fn.name == "runtime.NumGoroutine")=false)(hb:fn.body.isNone=false)
 (h:Calls P f args.toArray w (fun e w''=>∃ x,e=.returned (mk x)∧Ext w w''∧φ x w'')):fh P o a w mk φ:=by
 obtain ⟨dst,op,type,pos,after,guard⟩:=o;simp only at ho;subst ho;unfold fh;have ha':first++xs.map a.eval++#[]=args.toArray:=by
  rw [←ha,Array.append_empty];apply Array.ext';simp
 have:execOp a.eval { dst,op:=.call { callee:=.value t,args:=xs,argTypes:=ats },type,pos,after,guard }=callFunc f (first++xs.map a.eval++#[]):=by
  simp only [execOp,resolve,ht,Deferred.ofValue];rfl
 rw [this,ha',i6 hf hn hb];exact ⟨Ext.refl _,h⟩
def qU(p:List Rat):Int:=if 49<(tz p).length then 12 else if tz p=[] then 3 else 0
theorem oW(ao:Option Addr)(n c:Nat)(p:List Rat)(w:World)(h:cV w ⟨ao,n,c⟩ p):aq 68 [.slice ao n c] w (fun _:Unit=>.int .i64 (qU p)) (fun _ _=>True):=by
 have HX:=Hi (Ext.refl w);have HP:=Hi h;clear h;unfold aq;go_enter Tryz.func68,Tryz.ntmps68
 go_wp2_with fail
 refine cM (cO ao n c p _ HP.out) fun x5 w5 hE _=>?_
 replace HX:=hE.tr HX;have hs_w5:=hE.size;clear hE;obtain ⟨P,hP⟩:∃ P,P=(tz p).length:=⟨_,rfl⟩;rw [←hP];by_cases h1:49<P
 ·have e:qU p=12:=by unfold qU;rw [←hP,if_pos h1]
  have E:=Hi e;clear e;have h2:(48:Int)<(P:Int)-1:=by omega
  go_wp2
  go_ret
  exact ⟨(),by rw [E.out];rfl,HX.out,trivial⟩
 ·have h2:¬ (48:Int)<(P:Int)-1:=by omega
  by_cases h3:P=0
  ·have e:qU p=3:=by unfold qU;rw [←hP,if_neg h1,if_pos (nXi.1 (by omega))]
   have E:=Hi e;clear e;have h4:(P:Int)-1<0:=by omega
   go_wp2
   go_ret
   exact ⟨(),by rw [E.out];rfl,HX.out,trivial⟩
  ·have e:qU p=0:=by unfold qU;rw [←hP,if_neg h1,if_neg (fun h=>h3 (by rw [hP,h];rfl))]
   have E:=Hi e;clear e;have h4:¬ (P:Int)-1<0:=by omega
   go_wp2
   go_ret
   exact ⟨(),by rw [E.out];rfl,HX.out,trivial⟩
theorem ChM.at{w:World}{lo B:Nat}{va:Option Addr}{vn vc:Nat}{ms:List (List Rat)}(h:ChM w lo B (SH.v ⟨va,vn,vc⟩) ms):vn=ms.length∧∀ k,k<ms.length→∃ L a n c,va=some ⟨L,0,none⟩∧L<w.heap.size∧w.cell? ⟨L,k,none⟩=some (.slice a n c)∧aG w ⟨a,n,c⟩ (ms.getD k []):=by
 obtain ⟨xs,h1,h2,h3⟩:=h;rcases h1 with ⟨e,rfl⟩|⟨L,cap,re,e,g1,g2,g3⟩
 ·simp only [SH.v,Value.slice.injEq] at e;refine ⟨by rw [e.2.1,←h2];rfl,fun k hk=>?_⟩;rw [←h2] at hk;simp at hk
 ·simp only [SH.v,Value.slice.injEq] at e;refine ⟨by rw [e.2.1,h2],fun k hk=>?_⟩;obtain ⟨b,-,-,h4⟩:=h3 k hk;exact ⟨L,_,_,_,e.1,g2.lt,g2.cell (by omega),h4.can⟩
structure ChK (w:World) (v:SH) (ms:List (List Rat)) (K:Nat):Prop where
 ch:∃ lo B,ChM w lo B v.v ms
 wz:∀ m ∈ ms,∀ y ∈ m,Wz K y
 ln:ms.length≤1000
 ml:∀ m ∈ ms,m.length≤1000
 k1:1≤K
 k2:K≤30000000
theorem ChK.ext{w w':World}{v:SH}{ms:List (List Rat)}{K:Nat}(h:ChK w v ms K)(he:Ext w w'):ChK w' v ms K :=
 ⟨let ⟨lo,B,h1⟩:=h.ch;⟨lo,B,h1.ext he⟩,h.wz,h.ln,h.ml,h.k1,h.k2⟩
instance {w w':World} {v:SH} {ms:List (List Rat)} {K:Nat}:Go.Front.Mv w w' (ChK w v ms K) (ChK w' v ms K):=⟨fun e h=>ChK.ext h e⟩

theorem ChK.len{w:World}{va:Option Addr}{vn vc:Nat}{ms:List (List Rat)}{K:Nat}(h:ChK w ⟨va,vn,vc⟩ ms K):vn=ms.length:=let ⟨_,_,h1⟩:=h.ch;h1.at.1
theorem ChK.at{w:World}{va:Option Addr}{vn vc:Nat}{ms:List (List Rat)}{K k:Nat}(h:ChK w ⟨va,vn,vc⟩ ms K)(hk:k<ms.length):∃ L a n c,va=some ⟨L,0,none⟩∧L<w.heap.size∧w.cell? ⟨L,k,none⟩=some (.slice a n c)∧aG w ⟨a,n,c⟩ (ms.getD k [])∧n≤1000∧∀ y ∈ ms.getD k [],Wz K y:=by
 obtain ⟨lo,B,h1⟩:=h.ch;obtain ⟨L,a,n,c,e1,e2,e3,e4⟩:=h1.at.2 k hk;have hm:ms.getD k [] ∈ ms:=by
  rw [nXc,List.getElem?_eq_getElem hk];exact List.getElem_mem _
 refine ⟨L,a,n,c,e1,e2,e3,e4,?_,h.wz _ hm⟩;have:=h.ml _ hm;have:=e4.len;simp only at this;omega
theorem wt{α β:Type}(f:α→β)(l:List α)(d:α){k:Nat}(hk:k<l.length):(l.drop k).map f=f (l.getD k d) :: (l.drop (k+1)).map f:=by
 rw [List.drop_eq_getElem_cons hk,List.map_cons,nXc,List.getElem?_eq_getElem hk];rfl
theorem oQ(v:SH)(ms:List (List Rat))(K:Nat)(t:RH)(x:Rat)(T:Nat)(w:World)(hc:ChK w v ms K)(ht:av w t x)(hx:Sz T x)(hT:1≤T)(hT3:T≤1000) :
  aq 71 [CV v,t.v] w (fun _:Unit=>.int .i64 (iI ms x)) (fun _ _=>True):=by
 obtain ⟨va,vn,vc⟩:=v;obtain ⟨tn,ta,tl,tc,tb,tm,td⟩:=t;have HX:=Hi (Ext.refl w);have HC:=Hi hc;have HT:=Hi ht;have ZX:=Hi hx;obtain rfl:=hc.len;have hK1:=hc.k1;have hK2:=hc.k2;have hl:=hc.ln;clear hc ht hx;unfold aq;go_enter Tryz.func71,Tryz.ntmps71;simp only [CV,SH.v]
 go_upto_region 1 with fail
 refine iU ?_;intro w1 hE B2 B3 hz_w1 hr_w1;refine mV3 hE ?_ HX HC HT;clear HX HC HT;intro HX HC HT;have hs_w1:=hE.size;clear hE;replace b_B2:=bX3 B2;obtain ⟨c_B3,f_B3,l_B3⟩:=bX3 B3;obtain ⟨b3,hb3⟩:∃ b3,b3=w.heap.size+1:=⟨_,rfl⟩;have hb3w:b3<w1.heap.size:=by omega
 rw [←hb3] at B3 ⊢;clear c_B3 f_B3 l_B3;have c_B3:=ab B3.out;have f_B3:=ae B3.out;clear hb3;go_wp2
 go_loopg [5,6,13] ms.length (fun g cv lv iv wr=>∃ (k cnt:Nat) (la:Int),k+g=ms.length∧iv=.int .i64 (k:Nat)∧cv=.int .i64 (cnt:Nat)∧lv=.int .i64 la∧Ext w wr∧Ext w1 wr∧cnt+vr la ((ms.drop k).map fun m=>Sg.sg (evV m x))=iI ms x∧cnt≤k∧IsS la)
 case atStart=>exact ⟨0,0,0,by omega,rfl,rfl,rfl,HX.out,Ext.refl _,by rw [Nat.zero_add];rfl,nXd _,Or.inr (Or.inl rfl)⟩
 case round =>
  obtain ⟨k,cnt,la,hk,rfl,rfl,rfl,g1,g2,g3,g4,g5⟩:=hrel;clear HX;have HX:=Hi g1;have HX7:=Hi g2;have HC2:=Hi (HC.out.ext g2);have HT2:=Hi (HT.out.ext g2);have B32:=Hi (g2.block B3.out);have HV:=Hi g3;have hla:-1≤la∧la≤1:=by unfold IsS at g5;omega
  have HLA:=Hi g5;have hb3r:=g2.size;clear g1 g2 g3 g5 b_B2 c_B3 f_B3;replace b_B32:=bX3 B32;by_cases h0:gk=0
  case pos =>
   subst h0;obtain rfl:k=ms.length:=by omega
   have HE:Hid (cnt=iI ms x):=Hi (by have:=HV.out;rw [List.drop_length,List.map_nil] at this;exact this);have hin:¬ ((ms.length:Nat):Int)<(ms.length:Nat):=by omega
   go_wp2
   go_ret
   exact ⟨(),by rw [HE.out];rfl,HX.out,trivial⟩
  have hin:(k:Int)<(ms.length:Nat):=by omega
  have hkn:k<ms.length:=by omega
  obtain ⟨L,a,n,c,hva,hLl,hcell,hcan,hn,hwz⟩:=HC2.out.at (k:=k) hkn;subst hva;have HL:=Hi hcan;have HW:=Hi hwz;have HD:=Hi (wt (fun m=>Sg.sg (evV m x)) ms [] hkn);clear hcan hwz
  go_wp2_with fail
  refine cM (jA a n c (ms.getD k []) ⟨tn,ta,tl,tc,tb,tm,td⟩ x K T _ HL.out HT2.out hn HW.out ZX.out hT hK1 hK2 hT3) fun x19 w19 hE _=>?_
  refine mV6 hE ?_ HX HX7 HC2 HT2 B32 HL;clear HX HX7 HC2 HT2 B32 HL;intro HX HX7 HC2 HT2 B32 HL;have hs_w19:=hE.size;clear hE;replace b_B32:=bX3 B32;rw [HD.out] at HV;have hs:=uV (evV (ms.getD k []) x);obtain ⟨s,es⟩:∃ s,s=Sg.sg (evV (ms.getD k []) x):=⟨_,rfl⟩;rw [←es] at HV hs ⊢;have HS:=Hi hs;clear es HD HL HW hcell;have hs2:-1≤s∧s≤1:=by unfold IsS at hs;omega
  clear hs;obtain ⟨rl,hrl⟩:∃ rl,rl=(ms.drop (k+1)).map fun m=>Sg.sg (evV m x):=⟨_,rfl⟩
  rw [←hrl] at HV;have HRL:=Hi hrl;clear hrl;by_cases hs0:s=0
  case pos =>
   subst hs0;have HV2:Hid (cnt+vr la rl=iI ms x):=Hi (by have:=HV.out;rw [show vr la (0 :: rl)=vr la rl by simp [vr]] at this;exact this);clear HV;go_wp2
   go_roundg (gk-1)
   case measure=>omega
   case rel=>exact ⟨k+1,cnt,la,by omega,by go_num,rfl,rfl,HX.out,HX7.out,by rw [←HRL.out];exact HV2.out,by omega,HLA.out⟩
  have hsb:(s == 0)=false:=by rw [nXr];exact hs0
  by_cases hl0:la=0
  case pos =>
   subst hl0;have HV2:Hid (cnt+vr s rl=iI ms x):=Hi (by have:=HV.out;rw [show vr 0 (s :: rl)=vr s rl by simp [vr,hs0]] at this;exact this);clear HV;go_wp2
   go_roundg (gk-1)
   case measure=>omega
   case rel=>exact ⟨k+1,cnt,s,by omega,by go_num,rfl,rfl,HX.out,HX7.out,by rw [←HRL.out];exact HV2.out,by omega,HS.out⟩
  have hlb:(la == 0)=false:=by rw [nXr];exact hl0
  by_cases hsl:s=la
  case pos =>
   subst hsl;have HV2:Hid (cnt+vr s rl=iI ms x):=Hi (by have:=HV.out;rw [show vr s (s :: rl)=vr s rl by simp [vr,hs0]] at this;exact this);clear HV;go_wp2
   go_roundg (gk-1)
   case measure=>omega
   case rel=>exact ⟨k+1,cnt,s,by omega,by go_num,rfl,rfl,HX.out,HX7.out,by rw [←HRL.out];exact HV2.out,by omega,HS.out⟩
  have hslb:(s == la)=false:=by rw [nXr];exact hsl
  have hlb2:(la != 0)=true:=by rw [bne,hlb];rfl
  have hslb2:(s != la)=true:=by rw [bne,hslb];rfl
  have HV2:Hid ((cnt+1)+vr s rl=iI ms x):=Hi (by have:=HV.out;rw [show vr la (s :: rl)=1+vr s rl by simp [vr,hs0,hl0,hsl]] at this;omega);clear HV;go_wp2
  go_roundg (gk-1)
  case measure=>omega
  case rel=>exact ⟨k+1,cnt+1,s,by omega,by go_num,by go_num,rfl,HX.out,HX7.out,by rw [←HRL.out];exact HV2.out,by omega,HS.out⟩
theorem nG(v:SH)(ms:List (List Rat))(K:Nat)(t:RH)(x:Rat)(T:Nat)(w:World)(hc:ChK w v ms K)(h0:0<ms.length)(ht:av w t x)(hx:Sz T x)(hT:1≤T)(hT3:T≤1000) :
  aq 72 [CV v,t.v] w (fun _:Unit=>.bool (rtV ms x)) (fun _ _=>True):=by
 obtain ⟨va,vn,vc⟩:=v;obtain ⟨tn,ta,tl,tc,tb,tm,td⟩:=t;have HX:=Hi (Ext.refl w);have HC:=Hi hc;have HT:=Hi ht;have ZX:=Hi hx;have hvl:=hc.len;obtain ⟨N,rfl⟩:∃ N,vn=N+1:=⟨vn-1,by omega⟩;have hK1:=hc.k1;have hK2:=hc.k2;have hl:=hc.ln;clear hc ht hx;unfold aq;go_enter Tryz.func72,Tryz.ntmps72;simp only [CV,SH.v]
 go_upto_region 1 with fail
 refine iU ?_;intro w1 hE B2 B3 hz_w1 hr_w1;refine mV3 hE ?_ HX HC HT;clear HX HC HT;intro HX HC HT;have hs_w1:=hE.size;clear hE;replace b_B2:=bX3 B2;replace b_B3:=bX3 B3;obtain ⟨L,a,n,c,hva,hLl,hcell,hcan,hn,hwz⟩:=HC.out.at (k:=0) h0;subst hva;have HL:=Hi hcan;have HW:=Hi hwz;have hin:(0:Int)<(N:Int)+1:=by omega
 clear hcan hwz;obtain ⟨s,hs⟩:∃ s,s=Sg.sg (evV (ms.getD 0 []) x):=⟨_,rfl⟩;have HSE:=Hi hs;have HV:Hid (rtV ms x=(s == 0)):=Hi (by
  unfold rtV;rw [←hs];by_cases h:s=0
  ·rw [h];rfl
  ·rw [decide_eq_false h,nXr.2 h])
 clear hs;refine wpG 8 (fun opIx=>match opIx with
  | 5=>.spec Unit () (fun _=>.int .i64 s) (fun _ _=>True)
  | _=>.quiet) (fun _=>[]) fun w0 he0 hz0 hc0 hf0=>?_
 refine wps he0.out rfl rfl (fun w1 hW hG=>?_) fun x20=>?_
 ·exact spc [.slice a n c,RH.v ⟨tn,ta,tl,tc,tb,tm,td⟩] Tryz.func79 ((by rw [HSE.out];exact jA a n c (ms.getD 0 []) ⟨tn,ta,tl,tc,tb,tm,td⟩ x K T _ (HL.out.ext hW) (HT.out.ext hW) hn HW.out ZX.out hT hK1 hK2 hT3))
 refine qZ ?_;refine aj ?_;intro w2 hI;have hE:=he0.out.trans hI.ext;clear hI he0 hz0 hc0 hf0;refine mV6 hE ?_ B2 B3 HX HC HL HT;clear B2 B3 HX HC HL HT;intro B2 B3 HX HC HL HT;have hs_w2:=hE.size;clear hE;replace b_B2:=bX3 B2;replace b_B3:=bX3 B3;simp only [pD];go_wp2
 go_ret
 exact ⟨(),by rw [HV.out];rfl,HX.out,trivial⟩
theorem wK(ms:List (List Rat))(x:Rat):iI ms x≤ms.length:=by
 unfold iI;have:∀ (l:List Int) (z:Int),vr z l≤l.length:=by
  intro l;induction l with
  | nil=>intro z;exact nXd _
  | cons s l ih =>
   intro z;have h1:=ih z;have h2:=ih s;unfold vr;rw [List.length_cons];split
   ·omega
   ·split <;> omega
 have h:=this (ms.map fun m=>Sg.sg (evV m x)) 0
 rwa [nXk] at h
theorem zG:∀ (n:Nat) (a b:List Rat),(chn n a b).length≤n:=by
 intro n;induction n with
 | zero=>intro a b;exact nXd _
 | succ n ih =>
  intro a b;by_cases ha:a=[]
  ·rw [show chn (n+1) a b=[] by simp [chn,ha]];exact Nat.zero_le _
  ·by_cases hb:b=[]
   ·subst hb;rw [eE ha];simp
   ·rw [go ha hb,List.length_cons];exact Nat.succ_le_succ (ih _ _)
theorem zF{L:Nat}:∀ (n:Nat) (a b:List Rat),a.length≤L→b.length≤L→tz b=b→∀ m ∈ chn n a b,m.length≤L:=by
 intro n;induction n with
 | zero=>intro a b _ _ _ m hm;simp [chn] at hm
 | succ n ih =>
  intro a b ha hb ht m hm;by_cases ha0:a=[]
  ·rw [show chn (n+1) a b=[] by simp [chn,ha0]] at hm;simp at hm
  ·by_cases hb0:b=[]
   ·subst hb0;rw [eE ha0] at hm;obtain rfl:m=a:=by simpa using hm
    exact ha
   ·rw [go ha0 hb0] at hm;rcases List.mem_cons.1 hm with rfl|hm
    ·exact ha
    ·have:=lC a b (by rw [ht];exact hb0);rw [ht] at this;exact ih _ _ hb (by omega) (bt _) m hm
theorem lz(p:List Rat):(remsV p).length≤p.length+1:=zG _ _ _
theorem u5{p:List Rat}(h:tz p≠[]):∀ m ∈ remsV p,m.length≤p.length:=by
 refine zF _ _ _ ?_ ?_ (bt _)
 ·rw [aD];exact ai p
 ·rw [aD];have:=jq h;omega
theorem oY{p:List Rat}(h:tz p≠[]):0<(remsV p).length:=by
 obtain ⟨l,e⟩:=mE h;rw [e];exact Nat.succ_pos _
theorem r5{p:List Rat}(h:tz p≠[]){N:Nat}(hN:(remsV p).length=N+1):(remsV p).getLast?.getD []=(remsV p).getD N []∧tz ((remsV p).getD N [])=(remsV p).getD N []:=by
 have h1:(remsV p).getLast?.getD []=(remsV p).getD N []:=by
  rw [List.getLast?_eq_getElem?,hN,nXc];rfl
 have hlen:(ax (derL p)).length≤p.length:=by
  rw [aD];have:=jq h;omega
 obtain ⟨e,k1,k2,k3,-⟩:=pU p.length (ax p) (ax (derL p)) hlen (bt _) (bt _) (fun h0=>h (cD.1 h0));have h7:(remsV p).getLast?=some e:=k1;refine ⟨h1,?_⟩;rw [←h1,h7];exact k3
theorem ChM.chk{w:World}{lo B:Nat}{v:SH}{r:List Rat}{K:Nat}(h:ChM w lo B v.v (remsV r))(hr:tz r≠[])(hl:r.length≤999)(hW:∀ m ∈ remsV r,∀ y ∈ m,Wz K y)(h1:1≤K)(h2:K≤30000000):ChK w v (remsV r) K :=
 ⟨⟨lo,B,h⟩,hW,by have:=lz r;omega,fun m hm=>by have:=u5 hr m hm;omega,h1,h2⟩
theorem uR(pa:Option Addr)(P pc:Nat)(p:List Rat)(K:Nat)(w:World)(h:cV w ⟨pa,P,pc⟩ p)(hP:P≤900)(h0:tz p≠[])(hk:FrK K p)(hK:K≤12000000)(hK2:(P+1)*(K / 3)≤25000000)(hs:FrK K (sqfV p)) :
  aq 70 [.slice pa P pc] w CV (fun x w'=>ChK w' x (remsV (rootV p)) K):=by
 have HK1:=Hi hk;have HK2:=Hi hs;obtain ⟨S,D,hS,hD,hD2,hf,hSK⟩:=hk;obtain ⟨U,E,hU,hE,hE2,hfU,hUK⟩:=hs;have LP:=Hi (RIn.of h);have HX:=Hi (Ext.refl w);have hlen:=h.len;simp only at hlen;have H0:=Hi h0;have HF:=Hi hf;have HFU:=Hi hfU;have HSK:Hid (KZ K S P):=Hi (by rw [←hlen];exact hSK);have hUs:=KZ.small hUK;have HUK:Hid (KZ K U (sqfV p).length):=Hi hUK;have hsl:(sqfV p).length≤P:=by rw [←hlen];exact rH h0
 have hK1:1≤K:=by omega
 obtain ⟨N,hN⟩:∃ N,(remsV p).length=N+1:=⟨(remsV p).length-1,by have:=oY h0;omega⟩;have hN2:N≤P:=by have:=lz p;omega
 have HLA:=Hi (r5 h0 hN);have HPl:Hid (p.length=P):=Hi hlen;have HRT:=Hi (ky h0).ne;have HMm:Hid ((remsV p).getD N [] ∈ remsV p):=Hi (by
  rw [nXc,List.getElem?_eq_getElem (by omega)];exact List.getElem_mem _)
 have HRV:Hid (rootV p=if 2≤(tz ((remsV p).getD N [])).length then sqfV p else p):=Hi (by
  unfold rootV;rw [HLA.out.1,HLA.out.2])
 clear h hlen hf hfU hSK hUK h0;unfold aq;go_enter Tryz.func70,Tryz.ntmps70
 go_upto_region 1 with fail
 refine nmA ?_;intro w1 hE B2 hz_w1 hr_w1;refine mV2 hE ?_ LP HX;clear LP HX;intro LP HX;have hs_w1:=hE.size;clear hE;replace b_B2:=bX3 B2
 go_wp2_with fail
 refine cM (mw pa P pc p S D K _ LP.out.raw (by omega) H0.out hS hD hD2 HF.out HSK.out (by omega)) fun x5 w5 hE G5=>?_
 refine mV3 hE ?_ B2 LP HX;clear B2 LP HX;intro B2 LP HX;have hs_w5:=hE.size;clear hE;replace b_B2:=bX3 B2;obtain ⟨xa,xn,xc⟩:=x5;obtain ⟨⟨B,hB,hch⟩,hwz⟩:=G5.out;have HC:=Hi hch;have HW:=Hi hwz;clear G5 hch hwz
 go_upto_region 2 with fail
 refine nmA ?_;intro w6 hE B3 hz_w6 hr_w6;refine mV4 hE ?_ B2 LP HX HC;clear B2 LP HX HC;intro B2 LP HX HC;have hs_w6:=hE.size;clear hE;replace b_B2:=bX3 B2;replace b_B3:=bX3 B3;obtain ⟨hxn,hat⟩:=HC.out.at;rw [hN] at hxn;subst hxn;obtain ⟨L,a,n,c,hva,hLl,hcell,hcan⟩:=hat N (by omega);subst hva;have HL:=Hi hcan;have HZ:Hid (SzL K ((remsV p).getD N [])):=Hi (fun y hy=>(HW.out _ HMm.out y hy).sz hK1);obtain ⟨D2,hD2e⟩:∃ D2,D2=(tz ((remsV p).getD N [])).length:=⟨_,rfl⟩;have HDe:=Hi hD2e;rw [←hD2e] at HRV;clear hat hcan;have hN1:((N:Int)+1)-1=N:=by omega
 have hN3:(N:Int)<(N:Int)+1:=by omega
 go_wp2_with fail
 refine cM (cO a n c ((remsV p).getD N []) _ (HL.out.raw HZ.out (by omega))) fun x14 w14 hE _=>?_
 refine mV6 hE ?_ B3 B2 LP HX HC HL;clear B3 B2 LP HX HC HL;intro B3 B2 LP HX HC HL;have hs_w14:=hE.size;clear hE;replace b_B2:=bX3 B2;replace b_B3:=bX3 B3;rw [←hD2e];clear hD2e hcell;clear HL;by_cases hd:2≤D2
 case pos =>
  have hd2:(0:Int)<(D2:Int)-1:=by omega
  have HV:Hid (rootV p=sqfV p):=Hi (by rw [HRV.out,if_pos hd]);clear hd
  go_wp2_with fail
  refine cM (u8 pa P pc p K _ LP.out.raw (by omega) H0.out HK1.out hK hK2 HK2.out) fun x17 w17 hE G17=>?_
  refine mV5 hE ?_ B3 B2 LP HX HC;clear B3 B2 LP HX HC;intro B3 B2 LP HX HC;have hs_w17:=hE.size;clear hE;replace b_B2:=bX3 B2;replace b_B3:=bX3 B3;obtain ⟨qa,qn,qc⟩:=x17;have HQ:=Hi G17.out.lin;have hqn:=HQ.out.len;simp only at hqn;clear G17;clear HC;clear LP;simp only [SH.v]
  go_wp2_with fail
  refine cM (rG qa qn qc (sqfV p) U E K _ HQ.out.can (by omega) HRT.out hU hE hE2 HFU.out (by rw [←hqn];exact HUK.out) (by omega)) fun x18 w18 hE G18=>?_
  refine mV4 hE ?_ B3 B2 HX HQ;clear B3 B2 HX HQ;intro B3 B2 HX HQ;have hs_w18:=hE.size;clear hE;replace b_B2:=bX3 B2;replace b_B3:=bX3 B3;obtain ⟨ya,yn,yc⟩:=x18;obtain ⟨⟨B',hB',hch'⟩,hwz'⟩:=G18.out;have HC2:=Hi hch';have HW2:=Hi hwz';clear G18 hch' hwz';clear HQ
  go_upto_region 4 with fail
  refine jX B3.out rfl ?_;intro w19 T;replace HX:=Hi (T.ext HX.out (by omega));replace B2:=Hi (T.rest _ _ (by omega) B2.out);replace B3:=Hi (T.bx);replace HC2:=Hi (HC2.out.put T (by omega));have hs_w19:=nle T.size;have hr_w19:=nle T.size.symm;clear T;replace b_B2:=bX3 B2;replace b_B3:=bX3 B3;go_wp2;refine jX (F:=fun W=>bodyPost _ _ _ _ _ W) B2.out rfl ?_;intro w20 T;replace HX:=Hi (T.ext HX.out (by omega));replace B2:=Hi (T.bx);replace B3:=Hi (T.rest _ _ (by omega) B3.out);replace HC2:=Hi (HC2.out.put T (by omega));have hs_w20:=nle T.size;have hr_w20:=nle T.size.symm;clear T;replace b_B2:=bX3 B2;replace b_B3:=bX3 B3;exact bodyPost_ret (v:=CV ⟨ya,yn,yc⟩) (by simp [results,Tryz.results70,go_sem,CV,b_B2.1]) rfl ⟨⟨ya,yn,yc⟩,rfl,HX.out,by rw [HV.out];exact HC2.out.chk HRT.out (by omega) HW2.out hK1 (by omega)⟩
 have hd2:¬ (0:Int)<(D2:Int)-1:=by omega
 have HV:Hid (rootV p=p):=Hi (by rw [HRV.out,if_neg hd]);go_wp2;refine jX (F:=fun W=>bodyPost _ _ _ _ _ W) B2.out rfl ?_;intro w20 T;replace HX:=Hi (T.ext HX.out (by omega));replace LP:=Hi (LP.out.put T (by omega));replace B2:=Hi (T.bx);replace HC:=Hi (HC.out.put T (by omega));replace B3:=Hi (T.rest _ _ (by omega) B3.out);have hs_w20:=nle T.size;have hr_w20:=nle T.size.symm;clear T;replace b_B2:=bX3 B2;replace b_B3:=bX3 B3;exact bodyPost_ret (v:=CV ⟨some ⟨L,0,none⟩,N+1,xc⟩) (by simp [results,Tryz.results70,go_sem,CV,b_B2.1]) rfl ⟨⟨some ⟨L,0,none⟩,N+1,xc⟩,rfl,HX.out,by rw [HV.out];exact HC.out.chk H0.out (by rw [HPl.out];omega) HW.out hK1 (by omega)⟩
theorem qw(pa:Option Addr)(P pc:Nat)(p:List Rat)(K:Nat)(s t:RH)(a b:Rat)(T:Nat)(w:World)(h:cV w ⟨pa,P,pc⟩ p)(hP:P≤49)(h0:tz p≠[])(hk:FrK K p)(hK:K≤12000000)(hK2:(P+1)*(K / 3)≤25000000)(hsq:FrK K (sqfV p))
 (hs:aW w s a)(ht:aW w t b)(za:Sz T a)(zb:Sz T b)(hT:1≤T)(hT3:T≤1000) :
  aq 22 [.slice pa P pc,IvV (s,t)] w (fun _:Unit=>.tuple #[.int .i64 (cntV p (loV a b) (hiV a b)),.int .i64 0]) (fun _ _=>True):=by
 obtain ⟨sn,sa,sl,sc,sb,sm,sd⟩:=s;obtain ⟨tn,ta,tl,tc,tb,tm,td⟩:=t;have HX:=Hi (Ext.refl w);have LP:=Hi (RIn.of h);have HS:=Hi hs;have HT:=Hi ht;have hlen:=h.len;simp only at hlen;have HKp:=Hi hk;have HKs:=Hi hsq;have H0:=Hi h0;have HSz:Hid (SzL K p):=Hi (by
  obtain ⟨S,D,h1,h2,h3,h4,h5⟩:=hk;exact (h4.sz h1 h2 h3).mono (by have:=KZ.small h5;omega))
 have HCK:Hid (qU p=0):=Hi (by unfold qU;rw [if_neg (by have:=ai p;omega),if_neg h0]);have ZA:Hid (Sz T (loV a b)):=Hi (by rcases AC a b with e|e <;> rw [e] <;> assumption);have ZB:Hid (Sz T (hiV a b)):=Hi (by rcases AG a b with e|e <;> rw [e] <;> assumption);have hms:Hid (0<(remsV (rootV p)).length):=Hi (oY (rX h0).ne);obtain ⟨lo,hlo⟩:∃ lo,lo=loV a b:=⟨_,rfl⟩;obtain ⟨hi,hhi⟩:∃ hi,hi=hiV a b:=⟨_,rfl⟩;rw [←hlo] at ZA;rw [←hhi] at ZB;have v1:=wK (remsV (rootV p)) lo;have v2:=wK (remsV (rootV p)) hi;have hml:(remsV (rootV p)).length≤P+1:=by
  have e1:=lz (rootV p);have e2:(rootV p).length≤p.length:=by unfold rootV;split;exact rH h0;exact nXd _
  omega
 obtain ⟨x1,hx1⟩:∃ x1,x1=iI (remsV (rootV p)) lo:=⟨_,rfl⟩;obtain ⟨x2,hx2⟩:∃ x2,x2=iI (remsV (rootV p)) hi:=⟨_,rfl⟩;have HV1:=Hi hx1;have HV2:=Hi hx2;rw [←hx1] at v1;rw [←hx2] at v2;have hx1b:x1≤100:=by omega
 have hx2b:x2≤100:=by omega
 have HCN:Hid (cntV p (loV a b) (hiV a b)=(x1:Int)-(x2:Int)+(if rtV (remsV (rootV p)) lo=true then 1 else 0)):=Hi (by rw [hx1,hx2,←hlo,←hhi];rfl);have HLO:=Hi hlo;have HHI:=Hi hhi;obtain ⟨ms,hmse⟩:∃ ms,ms=remsV (rootV p):=⟨_,rfl⟩;have HMS:=Hi hmse;rw [←hmse] at hms HV1 HV2 HCN;clear h hs ht hk hsq h0 za zb hlo hhi hx1 hx2 v1 v2 hml hmse hlen;unfold aq;go_enter Tryz.func22,Tryz.ntmps22
 go_upto_region 1 with fail
 refine nmA ?_;intro w1 hE B3 hz_w1 hr_w1;refine mV4 hE ?_ HX LP HS HT;clear HX LP HS HT;intro HX LP HS HT;have hs_w1:=hE.size;clear hE;replace b_B3:=bX3 B3
 go_wp2_with fail
 refine cM (oW pa P pc p _ LP.out.raw) fun x11 w11 hE _=>?_
 refine mV5 hE ?_ B3 HX LP HS HT;clear B3 HX LP HS HT;intro B3 HX LP HS HT;have hs_w11:=hE.size;clear hE;replace b_B3:=bX3 B3;rw [HCK.out]
 go_wp2_with fail
 refine cM (kP ⟨sn,sa,sl,sc,sb,sm,sd⟩ ⟨tn,ta,tl,tc,tb,tm,td⟩ a b _ HS.out HT.out) fun x16 w16 hE G16=>?_
 refine mV5 hE ?_ B3 HX LP HS HT;clear B3 HX LP HS HT;intro B3 HX LP HS HT;have hs_w16:=hE.size;clear hE;replace b_B3:=bX3 B3;obtain ⟨⟨ln,la,ll,lc,lb,lm,ld⟩,⟨hn,ha,hl,hc,hb,hm,hd⟩⟩:=x16;rw [←HLO.out,←HHI.out] at G16;have HL:=Hi G16.out.1;have HH:=Hi G16.out.2;clear G16;clear HS;clear HT
 go_upto_region 5 with fail
 refine bY B3.out rfl ?_;intro w17 T;replace HX:=Hi (T.ext HX.out (by omega));replace LP:=Hi (LP.out.put T (by omega));replace B3:=Hi (T.bx);replace HL:=Hi (HL.out.keep T.keep);replace HH:=Hi (HH.out.keep T.keep);have hs_w17:=nle T.size;have hr_w17:=nle T.size.symm;clear T;replace b_B3:=bX3 B3
 go_wp2_with fail
 refine cM (uR pa P pc p K _ LP.out.raw (by omega) H0.out HKp.out hK hK2 HKs.out) fun x18 w18 hE G18=>?_
 refine mV5 hE ?_ HX LP B3 HL HH;clear HX LP B3 HL HH;intro HX LP B3 HL HH;have hs_w18:=hE.size;clear hE;replace b_B3:=bX3 B3;rw [←HMS.out] at G18;obtain ⟨va,vn,vc⟩:=x18;simp only [CV,SH.v]
 go_upto_region 6 with fail
 refine nmA ?_;intro w19 hE B7 hz_w19 hr_w19;refine mV6 hE ?_ G18 HX LP B3 HL HH;clear G18 HX LP B3 HL HH;intro G18 HX LP B3 HL HH;have hs_w19:=hE.size;clear hE;replace b_B3:=bX3 B3;replace b_B7:=bX3 B7
 go_upto_region 7 with fail
 refine wpG 10 (fun opIx=>match opIx with
  | 3=>.spec Unit () (fun _=>.int .i64 (x1:Nat)) (fun _ _=>True)
  | 7=>.spec Unit () (fun _=>.int .i64 (x2:Nat)) (fun _ _=>True)
  | _=>.quiet) (fun _=>[]) fun w0 he0 hz0 hc0 hf0=>?_
 refine wps he0.out rfl rfl (fun w1 hW hG=>?_) fun x30=>?_
 ·exact (by rw [HV1.out];exact kB #[CV ⟨va,vn,vc⟩] [CV ⟨va,vn,vc⟩,RH.v ⟨ln,la,ll,lc,lb,lm,ld⟩] rfl rfl rfl Tryz.func71 (by kernel_rfl) (by kernel_rfl) (oQ ⟨va,vn,vc⟩ ms K ⟨ln,la,ll,lc,lb,lm,ld⟩ lo T _ (G18.out.ext hW) (HL.out.ext hW) ZA.out hT hT3))
 refine qZ ?_;refine wps he0.out rfl rfl (fun w1 hW hG=>?_) fun x31=>?_
 ·exact (by rw [HV2.out];exact kB #[CV ⟨va,vn,vc⟩] [CV ⟨va,vn,vc⟩,RH.v ⟨hn,ha,hl,hc,hb,hm,hd⟩] rfl rfl rfl Tryz.func71 (by kernel_rfl) (by kernel_rfl) (oQ ⟨va,vn,vc⟩ ms K ⟨hn,ha,hl,hc,hb,hm,hd⟩ hi T _ (G18.out.ext hW) (HH.out.ext hW) ZB.out hT hT3))
 refine qZ ?_;refine aj ?_;intro w20 hI;have hE:=he0.out.trans hI.ext;clear hI he0 hz0 hc0 hf0;refine mV7 hE ?_ B7 HX LP B3 HL G18 HH;clear B7 HX LP B3 HL G18 HH;intro B7 HX LP B3 HL G18 HH;have hs_w20:=hE.size;clear hE;replace b_B3:=bX3 B3;replace b_B7:=bX3 B7;simp only [pD]
 go_wp2_with fail
 refine cM (nG ⟨va,vn,vc⟩ ms K ⟨ln,la,ll,lc,lb,lm,ld⟩ lo T _ G18.out hms.out HL.out ZA.out hT hT3) fun x33 w33 hE _=>?_
 refine mV7 hE ?_ B7 HX LP B3 HL G18 HH;clear B7 HX LP B3 HL G18 HH;intro B7 HX LP B3 HL G18 HH;have hs_w33:=hE.size;clear hE;replace b_B3:=bX3 B3;replace b_B7:=bX3 B7;obtain ⟨r,hr⟩:∃ r,r=rtV ms lo:=⟨_,rfl⟩;rw [←hr] at HCN ⊢;clear hr;cases r
 ·go_wp2;exact bodyPost_ret (v:=.tuple #[.int .i64 (cntV p (loV a b) (hiV a b)),.int .i64 0]) (by rw [HCN.out];simp [results,Tryz.results22,go_sem]) rfl ⟨(),rfl,HX.out,trivial⟩
 ·go_wp2;exact bodyPost_ret (v:=.tuple #[.int .i64 (cntV p (loV a b) (hiV a b)),.int .i64 0]) (by rw [HCN.out];simp [results,Tryz.results22,go_sem]) rfl ⟨(),rfl,HX.out,trivial⟩
def zU(n:Nat)(w:World)(x:SH)(l:List Rat):Prop:=aG w x l∧x.n=n
theorem zU.ext{n:Nat}{w w':World}{x:SH}{l:List Rat}(h:zU n w x l)(he:Ext w w'):zU n w' x l:=⟨h.1.ext he,h.2⟩
instance {n:Nat} {w w':World} {x:SH} {l:List Rat}:Go.Front.Mv w w' (zU n w x l) (zU n w' x l):=⟨fun e h=>zU.ext h e⟩

theorem Bn{p:List Rat}(h:tz p≠[])(hl:p.length≤49):qU p=0:=by unfold qU;rw [if_neg (by have:=ai p;omega),if_neg h]
end Go.Proofs.YtafgmcimcbhhjaaGreat
/- What the answers of package sturm say: positive, nowhere negative. Plain facts. -/
namespace Go.Proofs.YtafgmcimcbhhjaaGreat.Sg
open Go.RowKit Go.Front Go.Num Go.Stab Go.Proofs.YtafgmcimcbhhjaaGreat
theorem Cp.bound{v w:Rat→Rat}(h:Cp v w)(A B:Rat):∃ d,0<d∧∀ x,A≤x→x≤B→Big d (v x)∨Big d (w x):=by
 obtain ⟨a,b,ha,hb,h1⟩:=h;obtain ⟨K,hK,k1⟩:=ha.on A B;obtain ⟨L,hL,k2⟩:=hb.on A B;have hM:0<K+L+1:=by grind
 have hd:0<1 / (K+L+1):=q9 (by decide) hM;have he:=aE (a:=1) (b:=K+L+1) (by grind);refine ⟨1 / (K+L+1),hd,fun x hx1 hx2=>Classical.byContradiction fun hn=>?_⟩;generalize 1 / (K+L+1)=d at *
 obtain ⟨n1,n2⟩:¬ Big d (v x)∧¬ Big d (w x):=⟨fun h=>hn (Or.inl h),fun h=>hn (Or.inr h)⟩;obtain ⟨p1,p2⟩:=jV n1;obtain ⟨p3,p4⟩:=jV n2;have b1:Bd (K*d) (a x*v x):=(k1 x hx1 hx2).mul (N:=d) ⟨by grind,by grind⟩;have b2:Bd (L*d) (b x*w x):=(k2 x hx1 hx2).mul (N:=d) ⟨by grind,by grind⟩;have b3:=(b1.add b2).2;rw [h1 x] at b3;grind
theorem Cz{r:List Rat}(h:tz r≠[])(hc:Cp (evV r) (evD r)):∃ l,remsV r=ax r :: l∧∀ A B,Fit A B (evV (ax r)) (l.map evV):=by
 obtain ⟨l,e,-⟩:=oZ h hc 0 0;refine ⟨l,e,fun A B=>?_⟩;obtain ⟨l',e',h'⟩:=oZ h hc A B;have:l=l':=by rw [e] at e';exact (List.cons.inj e').2
 rw [this];exact h'
theorem BD{c x:Rat}(h:0<c):sg (c*x)=sg x:=by rw [i5,sg_pos h];omega
theorem oU{p:List Rat}(h:tz p≠[])(x:Rat):sg (evV (ax p) x)=sg (evV p x):=by rw [eo p x,BD (bF h)]
theorem uM{A B d:Rat}{r:Rat→Rat}(hr:Pf r)(hd:0<d)(hb:∀ x,A≤x→x≤B→Big d (r x)):∀ s t,A≤s→s<t→t≤B→sg (r t)=sg (r s):=by
 obtain ⟨K,hK,k1⟩:=hr.lip A B;obtain ⟨e,he,k2⟩:=iN hK hd;exact pt he (fun s t h1 h2 h3 h4=>((hb s h1 (by grind)).sign k1 h1 (by grind) h3 (k2 _ h4)).1) (fun s t u _ _ _ _ h1 h2=>h2.trans h1)
theorem vE{A B:List Rat}(hA:tz A≠[])(hB:tz B≠[]):ax ((bP (ax A) (ax B)).map (·*-1))=ax ((bP A B).map (·*-1)):=by
 obtain ⟨h1,-,-,h4⟩:=cu A hB;have hb:tz (ax B)≠[]:=by rw [bt];exact fun h=>hB (cD.1 h)
 refine (kN (a:=ax A) (b:=ax B) (s:=(bA A B).map (·*aK B)) (r:=bP A B) (f:=aK A) hb (bF hA) (by rw [bt,aD];exact h1) (fun n=>?_)).symm;rw [←cX A n,h4 n];have h5:seq ((bA A B).map (·*aK B))=fun i=>aK B*seq (bA A B) i:=by funext i;rw [aU];grind
 have h6:seq B=fun i=>aK B*seq (ax B) i:=by funext i;exact cX B i
 rw [h5,eO,h6,eD _ (fun i=>aK B*_),eO,eD]
def qY(p:List Rat):List Rat:=(tz p).map (·*(1 / ((tz p).getLast?.getD 0).abs))
theorem Aa{p:List Rat}(h:tz p≠[]):0<1 / ((tz p).getLast?.getD 0).abs:=by
 have h1:((tz p).getLast?.getD 0)≠0:=by
  obtain ⟨n,hn⟩:∃ n,(tz p).length=n+1:=⟨(tz p).length-1,by have:=nYe.2 h;omega⟩;have h2:=gY (l:=tz p) (n:=n) (by rw [bs];exact hn);rw [nXc] at h2;rw [List.getLast?_eq_getElem?,hn];exact h2
 refine q9 (by decide) ?_;unfold Rat.abs;split <;> grind
theorem nC(p:List Rat):ax (qY p)=ax p:=by
 by_cases h:tz p=[]
 ·have:qY p=[]:=by unfold qY;rw [h];rfl
  rw [this,cD.2 h];rfl
 ·refine bW (Aa h) (fun n=>?_);unfold qY;rw [aU,aT]
theorem xO{p:List Rat}:qY p=[]↔tz p=[]:=by unfold qY;exact List.map_eq_nil_iff
theorem rx(p:List Rat):tz (qY p)=qY p:=by
 by_cases h:tz p=[]
 ·rw [xO.2 h];rfl
 ·unfold qY;rw [gX (fun h0=>by have:=Aa h;rw [h0] at this;exact absurd this Rat.lt_irrefl),bs]
def rch:Nat→List Rat→List Rat→List (List Rat)
 | 0,_,_=>[]
 | n+1,a,b=>if a=[] then [] else if b=[] then [a] else a :: rch n b (qY ((bP a b).map (·*-1)))
theorem se:∀ (n:Nat) (a b:List Rat),tz a=a→tz b=b→(rch n a b).map ax=chn n (ax a) (ax b)
 | 0,_,_,_,_=>rfl
 | n+1,a,b,ha,hb=>by
  have ka:ax a=[]↔a=[]:=by rw [cD,ha]
  have kb:ax b=[]↔b=[]:=by rw [cD,hb]
  unfold rch chn;by_cases h1:a=[]
  ·rw [if_pos h1,if_pos (ka.2 h1)];rfl
  ·rw [if_neg h1,if_neg (fun h=>h1 (ka.1 h))];by_cases h2:b=[]
   ·rw [if_pos h2,if_pos (kb.2 h2)];rfl
   ·rw [if_neg h2,if_neg (fun h=>h2 (kb.1 h)),List.map_cons,se n b _ hb (rx _),nC,vE (by rw [ha];exact h1) (by rw [hb];exact h2)]
theorem nH(p:List Rat)(x:Rat):sg (evV (ax p) x)=sg (evV p x):=by
 by_cases h:tz p=[]
 ·rw [cD.2 h,ev_tznil.1 h x];rfl
 ·rw [eo p x,i5,sg_pos (bF h)];omega
theorem xN(l:List (List Rat))(x:Rat):iI (l.map ax) x=iI l x:=by
 unfold iI;rw [List.map_map]
 congr 1
 exact List.map_congr_left fun m _=>nH m x
def zY(q:List Rat):List (List Rat):=rch (q.length+1) (qY q) (qY (derL q))
theorem js(q:List Rat)(x:Rat):iI (zY q) x=iI (remsV q) x:=by
 rw [←xN (zY q)];unfold zY remsV;rw [se _ _ _ (rx _) (rx _),nC,nC]
def zX(p:List Rat)(lo hi:Rat):Int:=(iI (zY (sqfV p)) lo:Int)-iI (zY (sqfV p)) hi+(if sg (evV (sqfV p) lo)=0 then 1 else 0)
theorem cnt6_on{p:List Rat}{c:Rat}(hc:0<c)(lo hi:Rat)(hlh:lo≤hi)(he:∀ x,lo≤x→x≤hi→c≤evV p x):zX p lo hi=0:=by
 have h0:tz p≠[]:=fun h=>by have h1:=he lo Rat.le_refl hlh;rw [ev_tznil.1 h lo] at h1;grind
 have hr:=ky h0;obtain ⟨l,e,hfit⟩:=Cz hr.ne hr.cp;obtain ⟨g,q1,hg,-,-,k1,-⟩:=hr.dv;have hnr:¬ sg (evV (sqfV p) lo)=0:=fun h=>by
  have h1:=oV.1 h;have h2:=he lo Rat.le_refl hlh;rw [k1 lo,h1,nXz] at h2;grind
 unfold zX;rw [if_neg hnr,js,js,wL e,wL e];rcases Rat.le_iff_lt_or_eq.1 hlh with h1|h1
 ·obtain ⟨M,hM,k2⟩:=hg.on lo hi;have hm:=bF hr.ne;have hM1:0<M+1:=by grind
  have hd:0<c / (M+1):=q9 hc hM1;have hdc:=aE (a:=c) (b:=M+1) (by grind);have hbig:∀ x,lo≤x→x≤hi→Big (c / (M+1)) (evV (sqfV p) x):=fun x h2 h3=>Classical.byContradiction fun hn=>by
   obtain ⟨b1,b2⟩:=jV hn;generalize c / (M+1)=d at *
   have b0:Bd d (evV (sqfV p) x):=⟨by grind,by grind⟩;have b3:=((k2 x h2 h3).mul b0).2;have h4:=he x h2 h3;rw [k1 x] at h4;grind
  have hst:=uM (Pf.ev (sqfV p)) hd hbig;have hV:=(hfit lo hi).calm Rat.le_refl h1 Rat.le_refl (fun s t s1 s2 s3 _=>by rw [oU hr.ne,oU hr.ne];exact hst s t s1 s2 s3);rw [hV];omega
 ·rw [h1];omega
end Go.Proofs.YtafgmcimcbhhjaaGreat.Sg
/- Degree, Scale, Sub of the reference 05. -/
namespace Go.Proofs.YtafgmcimcbhhjaaGreat
open Go.RowKit Go.Front Go.Num
attribute [local go_sem] XW.cell XW.frozen
end Go.Proofs.YtafgmcimcbhhjaaGreat
/- Monic of the reference's polynomials. -/
namespace Go.Proofs.YtafgmcimcbhhjaaGreat
open Go.RowKit Go.Front Go.Num Stab
attribute [local go_sem] XW.cell XW.frozen
theorem yI{a:List Rat}{X:Nat}(ha:∀ x ∈ a,Wz X x)(ht:tz a=a)(hX:1≤X):∃ D,0<D∧D<W32 ^ X∧FrL X D (cg a):=by
 have hf:FrL X 1 a:=fun x hx=>Fr.one (ha x hx)
 by_cases h:tz a=[]
 ·refine ⟨1,by decide,Nat.one_lt_pow (by omega) (by decide),?_⟩;have:cg a=[]:=by unfold cg;rw [if_pos h]
  rw [this];exact fun x hx=>by simp at hx
 ·exact ⟨ldD (tz a) 1,sW hf.tz (bZ h) (by decide),xi hf.tz,sM hf⟩
theorem nf(l:List Rat)(x:Rat){k:Nat}(hk:k<l.length):evV (l.drop k) x=evV (l.drop (k+1)) x*x+l.getD k 0:=by
 rw [List.drop_eq_getElem_cons hk,nXc,List.getElem?_eq_getElem hk];rfl
theorem iC(ao:Option Addr)(n c:Nat)(l:List Rat)(t:RH)(x:Rat)(w:World)(h:aG w ⟨ao,n,c⟩ l)(ht:av w t x)(hn:n≤100)(hl:SzL 40000000 l)(hx:Sz 10000000 x)(hE:∀ k,k≤l.length→Sz 40000000 (evV (l.drop k) x)) :
  aq 50 [.slice ao n c,t.v] w RH.v (fun y w'=>av w' y (evV l x)):=by
 obtain ⟨tn,ta,tl,tc,tb,tm,td⟩:=t;have HX:=Hi (Ext.refl w);have LA:=Hi h.lin;have HT:=Hi ht;have HZ:=Hi hl;have ZX:=Hi hx;have HLn:=Hi h.len;have HEs:=Hi hE;simp only at HLn;clear h ht hl hx hE;unfold aq;go_enter Tryz.func50,Tryz.ntmps50
 go_upto_region 1 with fail
 refine iU ?_;intro w1 hE B3 B4 hz_w1 hr_w1;refine mV3 hE ?_ HX LA HT;clear HX LA HT;intro HX LA HT;have hs_w1:=hE.size;clear hE;replace b_B3:=bX3 B3;replace b_B4:=bX3 B4
 go_wp2_with fail
 refine cM (fZ 0 _ (by decide) (by decide)) fun x7 w7 hE G7=>?_
 refine mV5 hE ?_ B3 B4 HX LA HT;clear B3 B4 HX LA HT;intro B3 B4 HX LA HT;have hs_w7:=hE.size;clear hE;replace b_B3:=bX3 B3;replace b_B4:=bX3 B4
 go_upto_region 2 with fail
 refine nmA ?_;intro w8 hE B5 hz_w8 hr_w8;refine mV6 hE ?_ G7 B3 B4 HX LA HT;clear G7 B3 B4 HX LA HT;intro G7 B3 B4 HX LA HT;have hs_w8:=hE.size;clear hE;replace b_B3:=bX3 B3;replace b_B4:=bX3 B4;replace b_B5:=bX3 B5;obtain ⟨b3,hb3⟩:∃ b,b=w.heap.size:=⟨_,rfl⟩;obtain ⟨b4,hb4⟩:∃ b,b=w.heap.size+1:=⟨_,rfl⟩;obtain ⟨b5,hb5⟩:∃ b,b=w7.heap.size:=⟨_,rfl⟩;have hw3:w.heap.size≤b3:=by omega
 have hw4:w.heap.size≤b4:=by omega
 have hw5:w.heap.size≤b5:=by omega
 have h34:b3≠b4:=by omega
 have h35:b3≠b5:=by omega
 have h45:b4≠b5:=by omega
 rw [←hb4] at B4 ⊢;rw [←hb3] at B3 ⊢;rw [←hb5] at B5 ⊢;clear hb3 hb4 hb5 b_B3 b_B4 b_B5;have HY:Hid (av w8 x7 (evV (l.drop n) x)):=Hi (by rw [List.drop_eq_nil_of_le (by rw [HLn.out];exact nXd _)];exact G7.out);have LA0:Hid (LIn w8 ⟨ao,n,c⟩ l 0 w.heap.size):=Hi LA.out;go_wp2
 go_loopg [6] n (fun g v wr=>∃ (y:RH),v=.int .i64 ((g:Int)-1)∧g≤n∧Ext w wr∧LIn wr ⟨ao,n,c⟩ l 0 w.heap.size∧av wr ⟨tn,ta,tl,tc,tb,tm,td⟩ x∧wr.heap[b3]?=some (.cells #[.bool tn,.slice ta tl tc,.slice tb tm td] 34 (0,0))∧wr.heap[b4]?=some (.cells #[.bool false,.slice none 0 0,.slice none 0 0] 34 (0,0))∧wr.heap[b5]?=some (.cells #[.bool y.neg,.slice y.a y.n y.c,.slice y.b y.m y.d] 34 (0,0))∧av wr y (evV (l.drop g) x))
 case atStart=>exact ⟨x7,rfl,nXd _,HX.out,LA0.out,HT.out,B3.out,B4.out,B5.out,HY.out⟩
 case round =>
  obtain ⟨⟨yn,ya,yl,yc,yb,ym,yd⟩,rfl,hg,g1,g2,g3,g4,g5,g6,g7⟩:=hrel;clear HX LA LA0 HT B3 B4 B5 HY G7;have HX:=Hi g1;have LA:=Hi g2;have HT:=Hi g3;have B3:=Hi g4;have B4:=Hi g5;have B5:=Hi g6;have HY:=Hi g7;clear g1 g2 g3 g4 g5 g6 g7;replace b_B3:=bX3 B3;replace b_B4:=bX3 B4;replace b_B5:=bX3 B5;by_cases h0:gk=0
  case pos =>
   subst h0;have hneg:¬ (0:Int)≤((0:Nat):Int)-1:=by omega
   go_wp2;refine aY (F:=fun W=>bodyPost _ _ _ _ _ W) B4.out rfl ?_;intro w9 T;replace HX:=Hi (T.ext HX.out (by omega));replace LA:=Hi (LA.out.put T (by omega));replace HT:=Hi (HT.out.keep T.keep);replace HY:=Hi (HY.out.keep T.keep);replace B3:=Hi (T.rest _ _ (by omega) B3.out);replace B4:=Hi (T.bx);replace B5:=Hi (T.rest _ _ (by omega) B5.out);have hs_w9:=nle T.size;have hr_w9:=nle T.size.symm;clear T;replace b_B3:=bX3 B3;replace b_B4:=bX3 B4;replace b_B5:=bX3 B5;exact bodyPost_ret (v:=RH.v ⟨yn,ya,yl,yc,yb,ym,yd⟩) (by simp [results,Tryz.results50,go_sem,b_B4.1]) rfl ⟨⟨yn,ya,yl,yc,yb,ym,yd⟩,rfl,HX.out,HY.out⟩
  obtain ⟨k,rfl⟩:∃ k,gk=k+1:=⟨gk-1,by omega⟩;have hk1:((k+1:Nat):Int)-1=(k:Nat):=by omega
  rw [hk1];have hkn:k<n:=by omega
  have hk0:(0:Int)≤(k:Nat):=by omega
  have hin:(k:Int)<n:=by omega
  have ZY:Hid (Sz 40000000 (evV (l.drop (k+1)) x)):=Hi (HEs.out (k+1) (by rw [HLn.out];omega));have HE:=Hi (nf l x (k:=k) (by rw [HLn.out];exact hkn));have ZK:Hid (Sz 40000000 (l.getD k 0)):=Hi (HZ.out.at (by rw [HLn.out];exact hkn));obtain ⟨ba,oa,r,hao,hbl,⟨hc1,hc2,hc3⟩,hPc⟩:=LA.out.celx (k:=k) hkn;obtain ⟨rneg,ra,rn,rc,rb,rm,rd⟩:=r;simp only at hc1 hc2 hc3;have HC:=Hi hPc;clear hPc;subst hao
  go_upto_region 5 with fail
  refine wpG 8 (fun opIx=>match opIx with
   | 2=>.spec RH default RH.v (fun s w'=>av w' s (evV (l.drop (k+1)) x*x))
   | 7=>.spec RH default RH.v (fun s w'=>av w' s (evV (l.drop (k+1)) x*x+l.getD k 0))
   | _=>.quiet) (fun|7=>[2]|_=>[]) fun w0 he0 hz0 hc0 hf0=>?_
  refine wps he0.out rfl rfl (fun w1 hW hG=>?_) fun x30=>?_
  ·exact spc [RH.v ⟨yn,ya,yl,yc,yb,ym,yd⟩,RH.v ⟨tn,ta,tl,tc,tb,tm,td⟩] Tryz.func48 (eH _ _ _ _ _ ((HY.out.ext hW).raw ZY.out (by decide)) ((HT.out.ext hW).raw ZX.out (by decide)))
  refine qZ ?_;refine wps he0.out rfl rfl (fun w1 hW hG=>?_) fun x31=>?_
  ·have g30:=(hG 2 (by decide):aw _ _).get fun _ e g=>g.ext e
   exact spc [x30.v,RH.v ⟨rneg,ra,rn,rc,rb,rm,rd⟩] Tryz.func46 (mH x30 _ _ _ _ (g30.raw (ZY.out.mul ZX.out) (by decide)) ((HC.out.ext hW).raw ZK.out (by decide)))
  refine qZ ?_;refine aj ?_;intro w14 hI;have hE:=he0.out.trans hI.ext;have G30:=gT (hI.facts 2);have G31:=gT (hI.facts 7);clear hI he0 hz0 hc0 hf0;refine mV8 hE ?_ HX LA B3 B4 B5 HY HT HC;clear HX LA B3 B4 B5 HY HT HC;intro HX LA B3 B4 B5 HY HT HC;have hs_w14:=hE.size;clear hE;replace b_B3:=bX3 B3;replace b_B4:=bX3 B4;replace b_B5:=bX3 B5;simp only [pD];clear hc1 hc2 hc3;rw [←HE.out] at G31
  go_upto_region 4 with fail
  refine aY B5.out rfl ?_;intro w15 T;replace HX:=Hi (T.ext HX.out (by omega));replace LA:=Hi (LA.out.put T (by omega));replace HT:=Hi (HT.out.keep T.keep);replace HY:=Hi (HY.out.keep T.keep);replace B3:=Hi (T.rest _ _ (by omega) B3.out);replace B4:=Hi (T.rest _ _ (by omega) B4.out);replace B5:=Hi (T.bx);replace HC:=Hi (HC.out.keep T.keep);replace G30:=Hi (G30.out.keep T.keep);replace G31:=Hi (G31.out.keep T.keep);have hs_w15:=nle T.size;have hr_w15:=nle T.size.symm;clear T;replace b_B3:=bX3 B3;replace b_B4:=bX3 B4;replace b_B5:=bX3 B5;go_wp2
  go_roundg k
  case measure=>omega
  case rel=>exact ⟨x31,by go_num,by omega,HX.out,LA.out,HT.out,B3.out,B4.out,B5.out,G31.out⟩
end Go.Proofs.YtafgmcimcbhhjaaGreat
