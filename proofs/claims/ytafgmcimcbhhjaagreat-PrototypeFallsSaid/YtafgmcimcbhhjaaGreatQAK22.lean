import Derived.Test.YtafgmcimcbhhjaaGreatQAK21
import Derived.ProofKit
import Derived.OpenShut
import Derived.ShutString
import Derived.ChangeOld
import Derived.Lib.SmallJoins
set_option linter.unusedVariables false
set_option maxHeartbeats 16000000
set_option maxRecDepth 8000
namespace Go.Proofs.YtafgmcimcbhhjaaGreat
open Go.RowKit Go.Front Go.Num Stab Sg
attribute [local go_sem] XW.cell XW.frozen
theorem AfZ.tz{S D T n:Nat}{l:List Rat}(h:AfZ S D T n l):AfZ S D T n (tz l) :=
 ⟨h.1,h.2.1,h.2.2.1,fun x hx=>h.2.2.2.1 x (gv hx),nXf (ae l) h.2.2.2.2.1,h.2.2.2.2.2.1,h.2.2.2.2.2.2⟩
theorem AfZ.sz{S D T n:Nat}{l:List Rat}(h:AfZ S D T n l):SzL 8000000 l:=(h.2.2.2.1.sz h.1 h.2.1 h.2.2.1).mono (by have:=h.2.2.2.2.2.2;omega)
theorem AfZ.ev{S D T n:Nat}{l:List Rat}(h:AfZ S D T n l){x:Rat}(hx:Sz T x):∀ k,k≤l.length→Sz 40000000 (evV (l.drop k) x):=fun k _=>(mZ h.2.2.2.1 hx h.1 h.2.1 h.2.2.1 k).mono (by
 have h1:=h.2.2.2.2.2.2;have h2:l.length*(T+1)≤n*(T+1):=nXh _ h.2.2.2.2.1;omega)
theorem qt:∀ qs:List Rat,(prp qs).length=qs.length / 2
 | []=>rfl
 | [a]=>by simp [prp]
 | a :: b :: l=>by
  show (prp l).length+1=_;rw [qt l];simp only [List.length_cons];omega
theorem Ao:∀ (qs:List Rat) (k:Nat),2*k+1<qs.length→(prp qs)[k]?=some (qs.getD (2*k) 0,qs.getD (2*k+1) 0)
 | [],k,h=>by simp at h
 | [_],k,h=>by simp at h
 | a :: b :: l,0,_=>rfl
 | a :: b :: l,k+1,h=>by
  show (prp l)[k]?=_;rw [Ao l k (by simp only [List.length_cons] at h;omega)];rfl
theorem yI{qs:List Rat}{k:Nat}(h:2*k+1<qs.length):(prp qs).drop k=(qs.getD (2*k) 0,qs.getD (2*k+1) 0) :: (prp qs).drop (k+1):=by
 have hl:k<(prp qs).length:=by rw [qt];omega
 rw [List.drop_eq_getElem_cons hl]
 congr 1
 have e:=Ao qs k h;rw [List.getElem?_eq_getElem hl] at e;exact Option.some.inj e
theorem o9{qs:List Rat}{k:Nat}(h:k<qs.length):qs.getD k 0 ∈ qs:=by
 rw [nXd,List.getElem?_eq_getElem h];exact List.getElem_mem _
def NnE(r:Bool)(p:List Rat)(hi:Rat)(L:List Rat)(j:Nat):Prop:=Unit→r=((prp L).drop j).all (ok6 p hi)
theorem xv{a b:Rat}:dF a b=0↔a=b:=by
 unfold dF;by_cases h:a<b
 ·rw [if_pos h];exact ⟨fun k=>absurd k dZ,fun k=>by exfalso;grind⟩
 ·rw [if_neg h];by_cases h2:a=b
  ·rw [if_pos h2];exact ⟨fun _=>h2,fun _=>rfl⟩
  ·rw [if_neg h2];exact ⟨fun k=>absurd k dZ,fun k=>absurd k h2⟩
theorem vB{p:List Rat}{hi:Rat}{x:Rat×Rat}(h:Sg.sg (evV p x.1)<0):ok6 p hi x=false:=by unfold ok6;rw [decide_eq_true h,Bool.or_true];rfl
theorem BK{p:List Rat}{hi:Rat}{x:Rat×Rat}(h:x.2<hi)(k:jU (p.length+1) p x.2<0):ok6 p hi x=false:=by unfold ok6;rw [decide_eq_true h,decide_eq_true k];rfl
theorem vA{p:List Rat}{hi:Rat}{x:Rat×Rat}(h:(decide (x.2<hi) && decide (jU (p.length+1) p x.2<0))=false)(k:¬ Sg.sg (evV p x.1)<0):ok6 p hi x=true:=by unfold ok6;rw [h,decide_eq_false k];rfl
theorem qB(pa:Option Addr)(P pc:Nat)(l:List Rat)(s t:RH)(a b:Rat)(w:World)(h:ci w ⟨pa,P,pc⟩ l)(hP:P≤1000000)(hs:aP w s a)(ht:aP w t b)(h0:tz l=[]) :
  ak 14 [.slice pa P pc,IvV (s,t)] w (fun _:Unit=>.tuple #[.bool true,.int .i64 0]) (fun _ _=>True):=by
 obtain ⟨sn,sa,sl,sc,sb,sm,sd⟩:=s;obtain ⟨tn,ta,tl,tc,tb,tm,td⟩:=t;have HX:=Hi (Ext.refl w);have LP:=Hi h;have LPw:=Hi h;have HS:=Hi hs;have HT:=Hi ht;have H0:=Hi h0;clear h hs ht h0;unfold ak;go_enter Tryz.func14,Tryz.ntmps14
 go_upto_region 1 with fail
 refine nmA ?_;intro w1 hE B3 hz_w1 hr_w1;refine mV4 hE ?_ HX LP HS HT;clear HX LP HS HT;intro HX LP HS HT
 go_wp2_with fail
 refine cM (eT pa P pc l _ LP.out zo) fun x11 w11 hE _=>?_
 refine mV4 hE ?_ B3 HX HS HT;clear B3 HX HS HT;intro B3 HX HS HT;replace b_B3:=bX3 B3;rw [H0.out];simp only [List.length_nil]
 go_wp2_with fail
 refine cM (eP ⟨sn,sa,sl,sc,sb,sm,sd⟩ ⟨tn,ta,tl,tc,tb,tm,td⟩ a b _ HS.out HT.out) fun x14 w14 hE G14=>?_
 refine mV2 hE ?_ B3 HX;clear B3 HX;intro B3 HX;replace b_B3:=bX3 B3;obtain ⟨⟨ln,la,ll,lc,lb,lm,ld⟩,⟨hn',ha,hl,hc,hb,hm,hd⟩⟩:=x14;clear LP
 go_upto_region 4 with fail
 refine bL B3.out rfl ?_;intro w15 T;replace HX:=Hi (T.ext HX.out zo);clear T
 go_wp2_with fail
 refine cM (eT pa P pc l _ (LPw.out.ext HX.out) zo) fun x16 w16 hE _=>?_
 replace HX:=hE.tr HX;rw [H0.out];simp only [List.length_nil];go_wp2;exact nXa (v:=.tuple #[.bool true,.int .i64 0]) (by simp [results,Tryz.results14,go_sem]) rfl ⟨(),rfl,HX.out,trivial⟩
theorem qC(pa:Option Addr)(P pc:Nat)(l:List Rat)(K:Nat)(s t:RH)(a b:Rat)(T m Y E D S2 D2 n2:Nat)(w:World)(h:ci w ⟨pa,P,pc⟩ l)(hs:aP w s a)(ht:aP w t b)(H:Is6 l K P (loV a b) (hiV a b) 0 T m Y E D)(Z:AfZ S2 D2 (3*T+m+1) n2 l) :
  ak 14 [.slice pa P pc,IvV (s,t)] w (fun _:Unit=>.tuple #[.bool (DW (tz l) (loV a b) (hiV a b) (AC (sqfV (tz l)) (wd6 0) E (loV a b) (hiV a b))),.int .i64 0]) (fun _ _=>True):=by
 obtain ⟨sn,sa,sl,sc,sb,sm,sd⟩:=s;obtain ⟨tn,ta,tl,tc,tb,tm,td⟩:=t;have HX:=Hi (Ext.refl w);have LP:=Hi h;have LPw:=Hi h;have HS:=Hi hs;have HT:=Hi ht;have HH0:=Hi H;have HAZ:=Hi Z;have hP:=H.hP;have hT3:=H.t3;have hT2:=H.sz.t;have HLE:=Hi (zp a b);obtain ⟨lo,hlo⟩:∃ lo,lo=loV a b:=⟨_,rfl⟩;obtain ⟨hi,hhi⟩:∃ hi,hi=hiV a b:=⟨_,rfl⟩;have HLO:=Hi hlo;have HHI:=Hi hhi;rw [←hlo,←hhi] at HLE HH0 ⊢;have ZA:=Hi HH0.out.za;have ZB:=Hi HH0.out.zb;obtain ⟨L,hL⟩:∃ L,L=AC (sqfV (tz l)) (wd6 0) E lo hi:=⟨_,rfl⟩;have HLL:=Hi hL;have ZL:Hid (∀ y ∈ L,Sz (3*T+m+1) y):=Hi (fun y hy=>by
  rw [hL] at hy;unfold AC at hy;rcases List.mem_append.1 hy with k|k
  ·split at k
   ·simp only [List.mem_cons,List.not_mem_nil,or_false] at k;rcases k with rfl|rfl <;> exact ZA.out.mono zo
   ·simp at k
  ·have d1:=HH0.out.dl;have d2:=HH0.out.dh;rw [mp HLE.out] at d1;rw [mq HLE.out] at d2;exact Fc (P:=fun x=>Sz (3*T+m+1) x) (E:=E) (fun e x he hx=>hx.sz HH0.out.sp.dp HH0.out.sp.dl (by have:=HH0.out.sz.e;omega)) E (e:=0) zo d1 d2 y k)
 rw [←hL];obtain ⟨r,hr⟩:∃ r,r=DW (tz l) lo hi L:=⟨_,rfl⟩;have HR:=Hi hr;rw [←hr];obtain ⟨p,hp⟩:∃ p,p=tz l:=⟨_,rfl⟩;rw [←hp] at HR;have HP:=Hi hp;have HPN:Hid (p≠[]):=Hi (by rw [hp];exact H.ne);obtain ⟨N,hN⟩:∃ N,N=(tz l).length:=⟨_,rfl⟩;have hN1:1≤N:=by rw [hN];exact nYh.2 H.ne
 have hN2:N≤49:=by rw [hN];have:=ae l;have:=h.len;simp only at this;omega
 have HN:=Hi hN;obtain ⟨y1,hy1⟩:∃ y,y=Sg.sg (evV l lo):=⟨_,rfl⟩;obtain ⟨y2,hy2⟩:∃ y,y=Sg.sg (evV l hi):=⟨_,rfl⟩;obtain ⟨y3,hy3⟩:∃ y,y=jU (p.length+1) p lo:=⟨_,rfl⟩;have HY1:=Hi hy1;have HY2:=Hi hy2;have HY3:=Hi hy3;have HVR:Hid (Fn (r=if y1<0∨y2<0 then false else if lo=hi then true else if y3<0 then false else (prp L).all (ok6 p hi))):=Hi (fun _=>by
  rw [HR.out];unfold DW;rw [if_neg HPN.out,hy1,hy2,hy3,hp,dH,dH])
 clear h hs ht H Z hlo hhi hL hr hp hN hy1 hy2 hy3 HR;unfold ak;go_enter Tryz.func14,Tryz.ntmps14
 go_upto_region 1 with fail
 refine nmA ?_;intro w1 hE B3 hz_w1 hr_w1;refine mV4 hE ?_ HX LP HS HT;clear HX LP HS HT;intro HX LP HS HT
 go_wp2_with fail
 refine cM (eT pa P pc l _ LP.out zo) fun x11 w11 hE _=>?_
 refine mV4 hE ?_ B3 HX HS HT;clear B3 HX HS HT;intro B3 HX HS HT;replace b_B3:=bX3 B3;rw [←HN.out]
 go_wp2_with fail
 refine cM (eP ⟨sn,sa,sl,sc,sb,sm,sd⟩ ⟨tn,ta,tl,tc,tb,tm,td⟩ a b _ HS.out HT.out) fun x14 w14 hE G14=>?_
 refine mV2 hE ?_ B3 HX;clear B3 HX;intro B3 HX;replace b_B3:=bX3 B3;obtain ⟨⟨ln,la,ll,lc,lb,lm,ld⟩,⟨hn',ha,hl,hc,hb,hm,hd⟩⟩:=x14;rw [←HLO.out,←HHI.out] at G14;have HL:=Hi G14.out.1;have HH:=Hi G14.out.2;clear G14;clear HS;clear HT;clear LP
 go_upto_region 4 with fail
 refine bL B3.out rfl ?_;intro w15 T;replace HX:=Hi (T.ext HX.out zo);replace B3:=Hi (T.bx);replace HL:=Hi (HL.out.keep T.keep);replace HH:=Hi (HH.out.keep T.keep);clear T;have LP:=Hi (LPw.out.ext HX.out)
 go_wp2_with fail
 refine cM (eT pa P pc l _ LP.out zo) fun x16 w16 hE _=>?_
 refine mV5 hE ?_ HX B3 HL HH LP;clear HX B3 HL HH LP;intro HX B3 HL HH LP;replace b_B3:=bX3 B3;rw [←HN.out]
 go_wp2_with fail
 refine cM (gZ pa P pc l ⟨ln,la,ll,lc,lb,lm,ld⟩ lo _ LP.out (HL.out.raw ZA.out zo) zo (HAZ.out.sz.mono dZ) (ZA.out.mono zo) (HAZ.out.ev (ZA.out.mono zo))) fun x21 w21 hE G21=>?_
 refine mV5 hE ?_ HX B3 HL HH LP;clear HX B3 HL HH LP;intro HX B3 HL HH LP
 go_wp2_with fail
 refine cM (ct x21 (evV l lo) _ (G21.out.raw (HAZ.out.ev (ZA.out.mono zo) 0 (Nat.zero_le _)) dZ)) fun x22 w22 hE _=>?_
 refine mV5 hE ?_ HX B3 HL HH LP;clear HX B3 HL HH LP;intro HX B3 HL HH LP;replace b_B3:=bX3 B3;rw [iN,←HY1.out];clear G21;by_cases h1:y1<0
 case pos =>
  have HV:Hid (r=false):=Hi (by rw [HVR.out (),if_pos (Or.inl h1)]);go_wp2;exact nXa (v:=.tuple #[.bool r,.int .i64 0]) (by rw [HV.out];simp [results,Tryz.results14,go_sem]) rfl ⟨(),rfl,HX.out,trivial⟩
 have HN1:Hid (Fn (¬ y1<0)):=Hi (fun _=>h1)
 go_wp2_with fail
 refine cM (gZ pa P pc l ⟨hn',ha,hl,hc,hb,hm,hd⟩ hi _ LP.out (HH.out.raw ZB.out zo) zo (HAZ.out.sz.mono dZ) (ZB.out.mono zo) (HAZ.out.ev (ZB.out.mono zo))) fun x28 w28 hE G28=>?_
 refine mV5 hE ?_ HX B3 HL HH LP;clear HX B3 HL HH LP;intro HX B3 HL HH LP
 go_wp2_with fail
 refine cM (ct x28 (evV l hi) _ (G28.out.raw (HAZ.out.ev (ZB.out.mono zo) 0 (Nat.zero_le _)) dZ)) fun x29 w29 hE _=>?_
 refine mV5 hE ?_ HX B3 HL HH LP;clear HX B3 HL HH LP;intro HX B3 HL HH LP;replace b_B3:=bX3 B3;rw [iN,←HY2.out];clear G28;by_cases h2:y2<0
 case pos =>
  have HV:Hid (r=false):=Hi (by rw [HVR.out (),if_pos (Or.inr h2)]);go_wp2;exact nXa (v:=.tuple #[.bool r,.int .i64 0]) (by rw [HV.out];simp [results,Tryz.results14,go_sem]) rfl ⟨(),rfl,HX.out,trivial⟩
 have HN2:Hid (Fn (¬ y2<0)):=Hi (fun _=>h2)
 go_wp2_with fail
 refine cM (ju ⟨ln,la,ll,lc,lb,lm,ld⟩ ⟨hn',ha,hl,hc,hb,hm,hd⟩ lo hi _ (HL.out.raw ZA.out zo) (HH.out.raw ZB.out zo)) fun x36 w36 hE _=>?_
 refine mV5 hE ?_ HX B3 HL HH LP;clear HX B3 HL HH LP;intro HX B3 HL HH LP;replace b_B3:=bX3 B3;obtain ⟨c,hc0⟩:∃ c,c=dF lo hi:=⟨_,rfl⟩;have HC0:=Hi hc0;rw [←hc0];clear hc0;by_cases h3:c=0
 case pos =>
  have HV:Hid (r=true):=Hi (by rw [HVR.out (),if_neg (fun k=>by have a1:=HN1.out ();have a2:=HN2.out ();omega),if_pos (xv.1 (by rw [←HC0.out];exact h3))]);subst h3;go_wp2;exact nXa (v:=.tuple #[.bool r,.int .i64 0]) (by rw [HV.out];simp [results,Tryz.results14,go_sem]) rfl ⟨(),rfl,HX.out,trivial⟩
 have h3b:(c == 0)=false:=by rw [nXs];exact h3
 have HNEQ:Hid (lo≠hi):=Hi (fun k=>h3 (by rw [HC0.out];exact xv.2 k))
 go_wp2_with fail
 refine cM ((by have h:=nf pa P pc l ⟨ln,la,ll,lc,lb,lm,ld⟩ lo S2 D2 (3*T+m+1) n2 _ LP.out zo HAZ.out.tz (HL.out.raw ZA.out zo) (ZA.out.mono zo) zo;rw [←HP.out,←HY3.out] at h;exact h)) fun x41 w41 hE _=>?_
 refine mV5 hE ?_ HX B3 HL HH LP;clear HX B3 HL HH LP;intro HX B3 HL HH LP;replace b_B3:=bX3 B3;by_cases h4:y3<0
 case pos =>
  have HV:Hid (r=false):=Hi (by rw [HVR.out (),if_neg (fun k=>by have a1:=HN1.out ();have a2:=HN2.out ();omega),if_neg HNEQ.out,if_pos h4]);go_wp2;exact nXa (v:=.tuple #[.bool r,.int .i64 0]) (by rw [HV.out];simp [results,Tryz.results14,go_sem]) rfl ⟨(),rfl,HX.out,trivial⟩
 have HNE0:Hid (NnE r p hi L 0):=Hi (fun _=>by rw [HVR.out (),if_neg (fun k=>by have a1:=HN1.out ();have a2:=HN2.out ();omega),if_neg HNEQ.out,if_neg h4,List.drop_zero]);clear h1 h2 h3 h3b
 go_wp2_with fail
 refine cM ((by have h:=o6 pa P pc l K ⟨ln,la,ll,lc,lb,lm,ld⟩ ⟨hn',ha,hl,hc,hb,hm,hd⟩ lo hi 0 T m Y E D _ LP.out (HL.out.raw ZA.out zo) (HH.out.raw ZB.out zo) HH0.out;rw [mp HLE.out,mq HLE.out,←HLL.out,show ((0:Nat):Int)=0 from rfl] at h;exact h)) fun x46 w46 hE G46=>?_
 refine mV4 hE ?_ HX B3 HH LP;clear HX B3 HH LP;intro HX B3 HH LP;obtain ⟨xo,xn,xc⟩:=x46;have LX:=Hi (gy.can G46.out.1).2;have hxn:=G46.out.2;simp only at hxn;have HQl:Hid (L.length=xn*2):=Hi G46.out.1.len;clear G46;obtain ⟨b3,hb3⟩:∃ x,x=w.heap.size:=⟨_,rfl⟩;rw [←hb3] at B3 ⊢;clear hb3;have LP9:=LP;have LX9:=LX;have HH9:=HH;have HX9:=HX;have B39:=B3;have HXA:=Hi (Ext.refl w46);simp only [SH.v];go_wp2
 go_loopg [51] xn (fun g i wr=>∃ j:Nat,j+g=xn∧i=.int .i64 (j:Nat)∧Ext w46 wr∧NnE r p hi L j)
 case atStart=>exact ⟨0,zo,rfl,HXA.out,HNE0.out⟩
 case round =>
  obtain ⟨j,hj,rfl,g1,g2⟩:=hrel;clear HXA B3 HL HH HX LP LX;have HXA:=Hi g1;have B3:=Hi (g1.block B39.out);have HH:=Hi (HH9.out.ext g1);have HX:=Hi (HX9.out.trans g1);have LP:=Hi (LP9.out.ext g1);have LX:=Hi (LX9.out.ext g1);have HNE:=Hi g2;clear g1 g2;by_cases h1:gk=0
  case pos =>
   subst h1;obtain rfl:j=xn:=by omega
   have HV:Hid (r=true):=Hi (by rw [HNE.out (),List.drop_eq_nil_of_le (by rw [qt,HQl.out];omega)];rfl);go_wp2;exact nXa (v:=.tuple #[.bool r,.int .i64 0]) (by rw [HV.out];simp [results,Tryz.results14,go_sem]) rfl ⟨(),rfl,HX.out,trivial⟩
  have hin:(j:Int)<xn:=zo;obtain ⟨bw,off,r1,t1,hao,hbl,⟨f1,f2,f3,f4,f5,f6⟩,R1,R2⟩:=LX.out.at (k:=j) zo;have ZX1:Hid (Sz (3*T+m+1) (L.getD (2*j) 0)):=Hi (ZL.out _ (o9 (by rw [HQl.out];omega)));have ZX2:Hid (Sz (3*T+m+1) (L.getD (2*j+1) 0)):=Hi (ZL.out _ (o9 (by rw [HQl.out];omega)));have HDR:=Hi (show Fn ((prp L).drop j=(L.getD (2*j) 0,L.getD (2*j+1) 0) :: (prp L).drop (j+1)) from fun _=>yI (by rw [HQl.out];omega));obtain ⟨x1,hx1⟩:∃ x,x=L.getD (2*j) 0:=⟨_,rfl⟩;obtain ⟨x2,hx2⟩:∃ x,x=L.getD (2*j+1) 0:=⟨_,rfl⟩;rw [←hx1] at R1 ZX1 HDR;rw [←hx2] at R2 ZX2 HDR;obtain ⟨rn,ra,rl,rc,rb,rm,rd⟩:=r1;obtain ⟨kn,ka,kl,kc,kb,km,kd⟩:=t1;simp only at f1 f2 f3 f4 f5 f6;have RP:=Hi R1;have RK:=Hi R2;subst hao;clear R1 R2 hx1 hx2
  go_upto_region 16 with fail
  refine nmA ?_;intro w52 hE B9 hz_w52 hr_w52;refine mV7 hE ?_ HXA B3 HH HX LP RP RK;clear HXA B3 HH HX LP RP RK;intro HXA B3 HH HX LP RP RK;clear f1 f2 f3 f4 f5 f6;obtain ⟨b9,hb9⟩:∃ x,x=wr.heap.size:=⟨_,rfl⟩;rw [←hb9] at B9 ⊢;clear hb9;replace b_B3:=bX3 B3;replace b_B9:=bX3 B9
  (try simp only at B9)
  go_wp2_with fail
  refine cM (jV ⟨kn,ka,kl,kc,kb,km,kd⟩ ⟨hn',ha,hl,hc,hb,hm,hd⟩ x2 hi _ (RK.out.raw ZX2.out zo) (HH.out.raw ZB.out zo)) fun x59 w59 hE _=>?_
  refine mV6 hE ?_ B9 HXA HX LP RP RK;clear B9 HXA HX LP RP RK;intro B9 HXA HX LP RP RK;replace b_B9:=bX3 B9;by_cases h2:x2<hi
  case neg =>
   rw [decide_eq_false h2];have HOK:Hid ((decide (x2<hi) && decide (jU (p.length+1) p x2<0))=false):=Hi (by rw [decide_eq_false h2];rfl);clear h2
   go_wp2_with fail
   refine cM (gZ pa P pc l ⟨rn,ra,rl,rc,rb,rm,rd⟩ x1 _ LP.out (RP.out.raw ZX1.out zo) zo (HAZ.out.sz.mono dZ) (ZX1.out.mono zo) (HAZ.out.ev ZX1.out)) fun x71 w71 hE G71=>?_
   refine mV2 hE ?_ HXA HX;clear HXA HX;intro HXA HX
   go_wp2_with fail
   refine cM (ct x71 (evV l x1) _ (G71.out.raw (HAZ.out.ev ZX1.out 0 (Nat.zero_le _)) dZ)) fun x72 w72 hE _=>?_
   refine mV2 hE ?_ HXA HX;clear HXA HX;intro HXA HX;rw [iN];obtain ⟨y,hy⟩:∃ y,y=Sg.sg (evV l x1):=⟨_,rfl⟩;rw [←hy];by_cases hy0:y<0
   case pos =>
    have HV:Hid (r=false):=Hi (by rw [HNE.out (),HDR.out (),List.all_cons,vB (hi:=hi) (x:=(x1,x2)) (show Sg.sg (evV p x1)<0 by rw [HP.out,dH,←hy];exact hy0),Bool.false_and]);clear hy;go_wp2;exact nXa (v:=.tuple #[.bool r,.int .i64 0]) (by rw [HV.out];simp [results,Tryz.results14,go_sem]) rfl ⟨(),rfl,HX.out,trivial⟩
   have HNN2:Hid (NnE r p hi L (j+1)):=Hi (fun _=>by rw [HNE.out (),HDR.out (),List.all_cons,vA (x:=(x1,x2)) HOK.out (show ¬ Sg.sg (evV p x1)<0 by rw [HP.out,dH,←hy];exact hy0),Bool.true_and]);clear hy;go_wp2
   go_roundg (gk-1)
   case measure=>omega
   case rel=>exact ⟨j+1,zo,by go_num,HXA.out,HNN2.out⟩
  rw [decide_eq_true h2]
  go_wp2_with fail
  refine cM ((by have h:=nf pa P pc l ⟨kn,ka,kl,kc,kb,km,kd⟩ x2 S2 D2 (3*T+m+1) n2 _ LP.out zo HAZ.out.tz (RK.out.raw ZX2.out zo) ZX2.out zo;rw [←HP.out] at h;exact h)) fun x64 w64 hE _=>?_
  refine mV5 hE ?_ B9 LP RP HXA HX;clear B9 LP RP HXA HX;intro B9 LP RP HXA HX;replace b_B9:=bX3 B9;obtain ⟨y4,hy4⟩:∃ y,y=jU (p.length+1) p x2:=⟨_,rfl⟩;rw [←hy4];by_cases h5:y4<0
  case pos =>
   have HV:Hid (r=false):=Hi (by rw [HNE.out (),HDR.out (),List.all_cons,BK (x:=(x1,x2)) h2 (by rw [←hy4];exact h5),Bool.false_and]);clear hy4 h2;go_wp2;exact nXa (v:=.tuple #[.bool r,.int .i64 0]) (by rw [HV.out];simp [results,Tryz.results14,go_sem]) rfl ⟨(),rfl,HX.out,trivial⟩
  have HOK:Hid ((decide (x2<hi) && decide (jU (p.length+1) p x2<0))=false):=Hi (by rw [←hy4,decide_eq_false h5,Bool.and_false]);clear h2 hy4
  go_wp2_with fail
  refine cM (gZ pa P pc l ⟨rn,ra,rl,rc,rb,rm,rd⟩ x1 _ LP.out (RP.out.raw ZX1.out zo) zo (HAZ.out.sz.mono dZ) (ZX1.out.mono zo) (HAZ.out.ev ZX1.out)) fun x71 w71 hE G71=>?_
  refine mV2 hE ?_ HXA HX;clear HXA HX;intro HXA HX
  go_wp2_with fail
  refine cM (ct x71 (evV l x1) _ (G71.out.raw (HAZ.out.ev ZX1.out 0 (Nat.zero_le _)) dZ)) fun x72 w72 hE _=>?_
  refine mV2 hE ?_ HXA HX;clear HXA HX;intro HXA HX;rw [iN];obtain ⟨y,hy⟩:∃ y,y=Sg.sg (evV l x1):=⟨_,rfl⟩;rw [←hy];by_cases hy0:y<0
  case pos =>
   have HV:Hid (r=false):=Hi (by rw [HNE.out (),HDR.out (),List.all_cons,vB (hi:=hi) (x:=(x1,x2)) (show Sg.sg (evV p x1)<0 by rw [HP.out,dH,←hy];exact hy0),Bool.false_and]);clear hy;go_wp2;exact nXa (v:=.tuple #[.bool r,.int .i64 0]) (by rw [HV.out];simp [results,Tryz.results14,go_sem]) rfl ⟨(),rfl,HX.out,trivial⟩
  have HNN2:Hid (NnE r p hi L (j+1)):=Hi (fun _=>by rw [HNE.out (),HDR.out (),List.all_cons,vA (x:=(x1,x2)) HOK.out (show ¬ Sg.sg (evV p x1)<0 by rw [HP.out,dH,←hy];exact hy0),Bool.true_and]);clear hy;go_wp2
  go_roundg (gk-1)
  case measure=>omega
  case rel=>exact ⟨j+1,zo,by go_num,HXA.out,HNN2.out⟩
theorem zV{K S D T n:Nat}{p:List Rat}{x:Rat}(hS:1≤S)(hD:0<D)(hf:FrL S D p)(hl:p.length≤n)(hn:n≤100)(h0:tz p≠[])(hK:KZ K S p.length)(hK2:K≤10000000)(hx:Sz T x)(hT:n*(T+1)≤20000000):Mz (i6 p) x:=by
 have h1:=uS hS hD hf zo h0 hK;have h2:=jt p;have h3:=nF h0;have hK1:1≤K:=by have:=hK.small;omega
 rw [ov];refine ⟨by rw [nXl];omega,fun k hk=>?_⟩;rw [nXl] at hk;have hm:(remsV p).getD k [] ∈ remsV p:=by
  rw [nXd,List.getElem?_eq_getElem hk];exact List.getElem_mem _
 have e:((remsV p).map aZ).getD k []=aZ ((remsV p).getD k []):=by
  rw [nXd,nXd,nXw,List.getElem?_eq_getElem hk];rfl
 have ht:tz ((remsV p).getD k [])=(remsV p).getD k []:=AS _ _ _ (bg _) (bg _) _ hm;have hml:=h3 _ hm;obtain ⟨E,e1,e2,e3⟩:=nl (h1 _ hm) ht hK1;rw [e];have hul:(aZ ((remsV p).getD k [])).length≤n:=by rw [jR,ht];omega
 refine ⟨zo,(e3.sz hK1 e1 e2).mono zo,fun j hj=>(mZ e3 hx hK1 e1 e2 j).mono ?_⟩;have h5:(aZ ((remsV p).getD k [])).length*(T+1)≤n*(T+1):=nXh _ hul;omega
def isS(S n:Nat):Nat:=(S+1)*(2*n+1)
def isY(S n T:Nat):Nat:=Bn (isS S n) n T+8
def isM(S n T:Nat):Nat:=isY S n T+T+1
def isT(S n T:Nat):Nat:=3*T+isM S n T+1
theorem Di{T:Nat}{x:Rat}(h:Sz T x):-((W32 ^ T:Nat):Rat)≤x∧x≤((W32 ^ T:Nat):Rat):=(og h (Nat.dvd_refl _)).bd x.den_pos
theorem Bl{K S n:Nat}{l:List Rat}(hf:FrB S l)(hl:l.length≤n)(hn:n≤1000)(h0:tz l≠[])(hK:KN K S n):FrK K (tz l)∧FrK K (sqfV (tz l)):=by
 obtain ⟨h1,D,h2,h3,h4⟩:=hf.tz;have h5:=ae l;exact ⟨sx h1 h2 h3 h4 zo hK,wD h2 h4 (by rw [aH];exact h0) zo hn hK⟩
theorem Dk{S n:Nat}{l:List Rat}(hf:FrB S l)(hl:l.length≤n)(hn:n≤1000)(h0:tz l≠[]):∀ y ∈ av (sqfV (tz l)),Wz (isS S n) y:=by
 obtain ⟨h1,D,h2,h3,h4⟩:=hf.tz;have h5:=ae l;have h00:tz (tz l)≠[]:=by rw [aH];exact h0
 have hsl:(av (tz l)).length≤n:=by rw [ay,aH];omega
 have:=sL (q:=av (tz l)) (d:=sqfV (tz l)) (S:=S) (dU (fun x hx=>h4 x (gv hx)) h2) (by rw [bg];exact fun k=>h00 (co.1 k)) (AM h00 (Ai h00)) zo;exact fun y hy=>(this y hy).mono (nXg _ zo)
theorem D8{l:List Rat}{S n T bits K P:Nat}{lo hi:Rat}(hf:FrB S l)(hl:l.length≤n)(hP:P≤n)(hn:n≤49)(h0:tz l≠[])(za:Sz T lo)(zb:Sz T hi)(hlh:lo≤hi)(hT:T≤1000)(hb:bits≤256)(hK:KN K S n)(hK1:K≤3900000)(hK2:(n+1)*(K / 3)≤25000000)(hT2:isT S n T≤150000) :
  Is6 l K P lo hi bits T (isM S n T) (isY S n T) (32*isM S n T) (lo.den*hi.den):=by
 have h00:tz (tz l)≠[]:=by rw [aH];exact h0
 have hrt:=kf h00;obtain ⟨k1,k2⟩:=Bl hf hl zo h0 hK;have hql:(sqfV (tz l)).length≤n:=by have:=k8 h00;have:=ae l;omega
 have hw:=Dk hf hl zo h0;have hwl:(av (sqfV (tz l))).length≤n:=by rw [ay];have:=ae (sqfV (tz l));omega
 obtain ⟨b1,b2⟩:=Di za;obtain ⟨b3,b4⟩:=Di zb;have hnT:n*(isT S n T+1)≤49*150001:=nXy hn zo;have hYY:W32 ^ Bn (isS S n) n T≤W32 ^ isY S n T:=nXp aw (by unfold isY;omega);have hYr:((W32 ^ Bn (isS S n) n T:Nat):Rat)≤((W32 ^ isY S n T:Nat):Rat):=by exact_mod_cast hYY
 refine ⟨zo,h0,k1,hK1,?_,k2,za,zb,hT,⟨hrt.ne,hrt.cp,Nat.mul_pos lo.den_pos hi.den_pos,?_,fun a b h1 h2 h3 h4=>?_,?_⟩,⟨nXe _,?_,(Dc hb).mono dZ,fun x hx=>?_⟩,hb,?_,?_,?_⟩
 ·exact nXf (nXh _ zo) hK2
 ·rw [show 2*T=T+T by omega,Nat.pow_add];exact nXy (nYm za.2) (nYm zb.2)
 ·refine sep hrt.ne hrt.cp hw hwl zo h1 h2 h3 ?_;have:=aV hYr (show 0≤b-a by grind);grind
 ·unfold wd6;have e1:((1:Int):Rat)=1:=rfl;rw [e1];have hp:(0:Rat)<((2 ^ bits:Nat):Rat):=by exact_mod_cast Nat.two_pow_pos bits
  have h1:=aF (a:=1) (b:=((2 ^ bits:Nat):Rat)) (by grind);have h2:((2 ^ bits:Nat):Rat)≤((W32 ^ isY S n T:Nat):Rat):=by
   have a1:(2:Nat) ^ bits≤2 ^ 256:=nXp dZ hb;have a2:(2:Nat) ^ 256≤W32 ^ 8:=by decide
   have a3:W32 ^ 8≤W32 ^ isY S n T:=nXp aw (by unfold isY;omega)
   exact_mod_cast nXf a1 (nXf a2 a3)
  have h3:=tZ (show (0:Rat)<1 by decide) hp;generalize 1 / ((2 ^ bits:Nat):Rat)=c at *
  have h4:=aV h2 (Rat.le_of_lt h3);grind
 ·have:isT S n T=3*T+isM S n T+1:=rfl;omega
 ·obtain ⟨U,F,u1,u2,u3,u4,u5⟩:=k2;have:isT S n T=3*T+isM S n T+1:=rfl;rw [←this] at hx;exact zV u1 u2 u4 hql zo hrt.ne u5 zo hx zo
 ·rw [mp hlh];exact og za (Nat.dvd_mul_right _ _)
 ·rw [mq hlh];exact og zb (Nat.dvd_mul_left _ _)
 ·rw [mp hlh,mq hlh,DN];have e:((W32 ^ isM S n T:Nat):Rat)=((W32 ^ isY S n T:Nat):Rat)*((W32 ^ T:Nat):Rat)*((W32 ^ 1:Nat):Rat):=by
   unfold isM;rw [Nat.pow_add,Nat.pow_add,Rat.natCast_mul,Rat.natCast_mul]
  have h2:(2:Rat)≤((W32 ^ 1:Nat):Rat):=by decide +kernel
  have hY0:(0:Rat)≤((W32 ^ isY S n T:Nat):Rat):=by exact_mod_cast Nat.zero_le _
  have hT0:(0:Rat)≤((W32 ^ T:Nat):Rat):=by exact_mod_cast Nat.zero_le _
  rw [e];generalize ((W32 ^ isY S n T:Nat):Rat)=y at *
  generalize ((W32 ^ T:Nat):Rat)=t at *
  generalize ((W32 ^ 1:Nat):Rat)=u at *
  have a1:=cx (show hi-lo≤2*t by grind) hY0;have a2:=aV h2 (gU hY0 hT0);grind
theorem EO{l:List Rat}{S n T:Nat}(hf:FrB S l)(hl:l.length≤n)(hn:n≤49)(hS:S≤500000)(hT2:T≤150000):∃ D,AfZ S D T n l:=by
 obtain ⟨h1,D,h2,h3,h4⟩:=hf;have hnT:n*(T+1)≤49*150001:=nXy hn zo;exact ⟨D,h1,h2,h3,h4,hl,zo,zo⟩
theorem qA(pa:Option Addr)(P pc:Nat)(l:List Rat)(S n T K:Nat)(s t:RH)(lo hi:Rat)(w:World)(h:ci w ⟨pa,P,pc⟩ l)(hs:aP w s lo)(ht:aP w t hi)(hf:FrB S l)(hl:l.length≤n)(hn:n≤49)(za:Sz T lo)(zb:Sz T hi)(hlh:lo≤hi)(hT:T≤1000)(hK:KN K S n)(hK1:K≤3900000)(hK2:(n+1)*(K / 3)≤25000000)(hT2:isT S n T≤150000)(hS:S≤500000)
 (hnn:∀ x,lo≤x→x≤hi→0≤evV l x) :
  ak 14 [.slice pa P pc,IvV (s,t)] w (fun _:Unit=>.tuple #[.bool true,.int .i64 0]) (fun _ _=>True):=by
 have hP:P≤n:=by have:=h.len;simp only at this;omega
 by_cases h0:tz l=[]
 ·exact qB pa P pc l s t lo hi w h zo hs ht h0
 ·obtain ⟨D2,hA⟩:=EO (T:=isT S n T) hf hl hn hS hT2;have hI:Is6 l K P (loV lo hi) (hiV lo hi) 0 T (isM S n T) (isY S n T) (32*isM S n T) (lo.den*hi.den):=by
   rw [mp hlh,mq hlh];exact D8 hf hl hP hn h0 za zb hlh hT dZ hK hK1 hK2 hT2
  have hR:=qC pa P pc l K s t lo hi T (isM S n T) (isY S n T) (32*isM S n T) (lo.den*hi.den) S D2 n w h hs ht hI hA;rw [mp hlh,mq hlh] at hR;rw [yX (aH l) hlh (fun x h1 h2=>by rw [dH];exact hnn x h1 h2) (D7 hlh)] at hR;exact hR
theorem AP{S:Nat}{l:List Rat}(hf:FrB S l)(hl:l.length≤6)(hS:S≤100000):FrB (S+1) (tz (derL l))∧(tz (derL l)).length≤6:=by
 obtain ⟨h0,D,h1,h2,h3⟩:=hf;refine ⟨⟨zo,D,h1,nXn h2 (nXp aw zo),ib h3 zo⟩,?_⟩;by_cases h:tz l=[]
 ·have:tz (derL l)=[]:=ev_tznil.2 fun x=>by
   rw [bM,←kq,h];rfl
  rw [this];exact Nat.zero_le _
 ·have:=iG h;omega
theorem wG(z0 z1 z2:Int)(w:World)(h0:-9223372036854775808≤z0)(k0:z0≤9223372036854775807)(h1:-9223372036854775808≤z1)(k1:z1≤9223372036854775807)(h2:-9223372036854775808≤z2)(k2:z2≤9223372036854775807) :
  ak 9 [.int .i64 z0,.int .i64 z1,.int .i64 z2] w (fun _:Unit=>.bool true) (fun _ _=>True):=by
 have HX:=Hi (Ext.refl w);obtain ⟨n,hn⟩:∃ n,n=yU z0:=⟨_,rfl⟩;obtain ⟨e,he⟩:∃ e,e=edQ z1:=⟨_,rfl⟩;obtain ⟨r,hr⟩:∃ r,r=riQ z2:=⟨_,rfl⟩;obtain ⟨q,hq⟩:∃ q,q=seQ 0:=⟨_,rfl⟩;obtain ⟨n1,n5,-⟩:=vw z0;rw [←hn] at n1 n5;have EF:Hid (EdF e):=Hi (by rw [he];exact Er _);have HR:Hid (0<r∧Sz 1 r):=Hi (by rw [hr];exact DJ _);have HAL:Hid (∀ w',ak 40 [.int .i64 0,.int .i64 z0,.int .i64 z1,.int .i64 z2,.int .i64 0] w' AlV (AlP 0 n e r q)):=Hi (fun w'=>by rw [hn,he,hr,hq];exact CL z0 z1 z2 0 w' h0 k0 h1 k1 h2 k2 dZ dZ);have PR:=Hi (CM (q:=q) n1 n5 EF.out HR.out.1);have PZ:=Hi (FR (q:=q) n1 n5 EF.out HR.out.2);have hn0:=Hi (Fu n1 ⟨EF.out.lo,EF.out.hi⟩ HR.out.1 (n:=n) (e0:=e) (r:=r));have SLZ:=Hi (Fe n1 n5 EF.out HR.out.2);have hsl:yz n e r=pY (aq (tz (derL (nuP (alG 0 n e r) (alE 0 n e q) (alP 0 n)))) (tz (alD 0 n e r q))) (aq (nuP (alG 0 n e r) (alE 0 n e q) (alP 0 n)) (tz (derL (tz (alD 0 n e r q))))):=rfl;have HNN:Hid (∀ x,-1≤x→x≤1→0≤evV (yz n e r) x):=Hi (fun x h1 h2=>by rw [AJ];exact hn0.out x h1 h2);obtain ⟨g,hg⟩:∃ g,g=alG 0 n e r:=⟨_,rfl⟩;obtain ⟨E,hE⟩:∃ E,E=alE 0 n e q:=⟨_,rfl⟩;obtain ⟨P,hP⟩:∃ P,P=alP 0 n:=⟨_,rfl⟩;obtain ⟨D,hD⟩:∃ D,D=alD 0 n e r q:=⟨_,rfl⟩;rw [←hg,←hE,←hP,←hD] at PR PZ;have HGE:Hid (alG 0 n e r=g∧alE 0 n e q=E∧alP 0 n=P∧alD 0 n e r q=D):=Hi ⟨hg.symm,hE.symm,hP.symm,hD.symm⟩;have HDK:Hid (DnK 3500000 D.length D):=Hi (F5 PZ.out.fd PZ.out.ld dZ (by unfold KN;decide) dZ (nXf (nXh _ (show D.length+1≤7 by have:=PZ.out.ld;omega)) dZ));have HRT:Hid (Bu g E P D=(0,nuP g E P,tz D)):=Hi (by unfold Bu nuP;rw [if_pos PR.out.val]);have NZ:=Hi (Fk PZ.out);have DZ:Hid (FrB 450 (tz D)∧(tz D).length≤6):=Hi ⟨PZ.out.fd.tz,nXf (ae D) PZ.out.ld⟩;obtain ⟨N,hN⟩:∃ N,N=nuP g E P:=⟨_,rfl⟩;obtain ⟨Q,hQ⟩:∃ Q,Q=tz D:=⟨_,rfl⟩;rw [←hN,←hQ] at HRT;rw [←hN] at NZ;rw [←hQ] at DZ;have ZL:Hid (Sz 1 (-1:Rat)):=Hi (by exact (Sz.int (z:=-1) dZ));have ZH:Hid (Sz 1 (1:Rat)):=Hi (by exact (Sz.int (z:=1) dZ));rw [←hg,←hE,←hP,←hD,←hN,←hQ] at hsl;have HSL:=Hi hsl;have ND:Hid (FrB 261 (tz (derL N))∧(tz (derL N)).length≤6):=Hi (AP NZ.out.1 NZ.out.2 dZ);have QD:Hid (FrB 451 (tz (derL Q))∧(tz (derL Q)).length≤6):=Hi (AP DZ.out.1 DZ.out.2 dZ);have MA:Hid (FrB 712 (aq (tz (derL N)) Q)∧(aq (tz (derL N)) Q).length≤11):=Hi ⟨ND.out.1.mul DZ.out.1 (by have:=ND.out.2;omega),bF ND.out.2 DZ.out.2⟩;have MB:Hid (FrB 712 (aq N (tz (derL Q)))∧(aq N (tz (derL Q))).length≤11):=Hi ⟨NZ.out.1.mul QD.out.1 (by have:=NZ.out.2;omega),bF NZ.out.2 QD.out.2⟩;clear hsl;clear hn he hr hq hg hE hP hD hN hQ;unfold ak;go_enter Tryz.func9,Tryz.ntmps9
 go_wp2_with fail
 refine cM (HAL.out _) fun x29 w29 hE G29=>?_
 replace HX:=hE.tr HX;obtain ⟨⟨⟨gn,ga,gl,gc,gb,gm,gd⟩,⟨ea,en,ec⟩,gp,⟨da,dn,dc⟩⟩,⟨sn,sa,sl,sc,sb,sm,sd⟩,⟨tn,ta,tl,tc,tb,tm,td⟩⟩:=x29;obtain ⟨⟨pg,pe,pp,pd⟩,ge,gr⟩:=G29.out;simp only at pg pe pp pd ge gr;obtain ⟨y1,y2,y3,y4⟩:=HGE.out;rw [y1] at pg;rw [y2] at pe;rw [y3] at pp;rw [y4] at pd;have PG:=Hi pg;have PE':=Hi pe;have PP:=Hi pp;have PD:=Hi pd;have HS:=Hi ge;have HT:=Hi gr;have hdn:D.length=dn:=pd.len;have hen:E.length=en:=pe.len;have hd6:dn≤6:=by have:=PZ.out.ld;omega
 have he3:en≤3:=by have:=PZ.out.le;omega
 have HDK2:Hid (DnK 3500000 dn D):=Hi (by have h:=HDK.out;rw [hdn] at h;exact h);clear pg pe pp pd ge gr y1 y2 y3 y4 G29 hdn hen;simp only [AlV]
 go_upto_region 2 with fail
 refine jz ?_;intro w30 hE hB0 hB1 hB2 hz;have hz_w30:=nle hz;have hr_w30:=nle hz.symm;clear hz;refine mV4 hE ?_ PE' HX PG PD;clear PE' HX PG PD;intro PE' HX PG PD;have B7:=Hi hB0;clear hB0;replace b_B7:=bX3 B7;clear hB1;clear hB2;have HRP:Hid (mu w30 ⟨⟨gn,ga,gl,gc,gb,gm,gd⟩,⟨ea,en,ec⟩,gp,⟨da,dn,dc⟩⟩ g E D):=Hi ⟨PG.out.raw PZ.out.zg dZ,PE'.out.raw PZ.out.fe.sz dZ,PD.out.raw PZ.out.fd.sz dZ⟩
 go_wp2_with fail
 refine cM (tE ⟨⟨gn,ga,gl,gc,gb,gm,gd⟩,⟨ea,en,ec⟩,gp,⟨da,dn,dc⟩⟩ g E D 3500000 115 3 _ HRP.out (show dn≤49 by omega) HDK2.out (show en≤25 by omega) PZ.out.fe dZ PZ.out.zg dZ) fun x36 w36 hE G36=>?_
 replace HX:=hE.tr HX;obtain ⟨⟨⟨na,nn,nc⟩,⟨qa,qn,qc⟩⟩,er⟩:=x36;obtain ⟨hee,hf⟩:=G36.out;rw [PP.out,HRT.out] at hee hf;simp only at hee hf;subst hee;have LN:=Hi hf.1;have LQ:=Hi hf.2;have hnn:nn≤6:=by have h:=hf.1.len;have h2:=NZ.out.2;simp only at h;omega
 have hqn:qn≤6:=by have h:=hf.2.len;have h2:=DZ.out.2;simp only at h;omega
 clear hf G36;clear PE';clear PD;simp only [FE]
 go_upto_region 3 with fail
 refine nmA ?_;intro w37 hE B11 hz_w37 hr_w37;refine mV3 hE ?_ HX LN LQ;clear HX LN LQ;intro HX LN LQ;replace b_B11:=bX3 B11
 go_upto_region 5 with fail
 refine wpG 13 (fun opIx=>match opIx with
  | 2=>.spec (SH) (default) (SH.v) (fun x w'=>aI w' x (tz (derL N)))
  | 5=>.spec (SH) (default) (SH.v) (fun x w'=>aI w' x (aq (tz (derL N)) Q))
  | 10=>.spec (SH) (default) (SH.v) (fun x w'=>aI w' x (tz (derL Q)))
  | 11=>.spec (SH) (default) (SH.v) (fun x w'=>aI w' x (aq N (tz (derL Q))))
  | 12=>.spec (SH) (default) (SH.v) (fun x w'=>aI w' x (yz n e r))
  | _=>.quiet) (fun|5=>[2]|11=>[10]|12=>[5,11]|_=>[]) fun w0 he0 hz0 hc0 hf0=>?_
 refine wps he0 (fun w1 hW hG=>?_) fun x50=>?_
 ·exact spc [.slice na nn nc] Tryz.func53 ((jI na nn nc N _ (LN.out.ext hW) zo (NZ.out.1.sz.mono dZ)).weak (fun _ _ _ h=>h.can))
 refine qZ ?_;refine wps he0 (fun w1 hW hG=>?_) fun x51=>?_
 ·have g50:=gS (hG 2 dZ);exact spc [x50.v,.slice qa qn qc] Tryz.func13 ((r7 x50.a qa x50.n x50.c qn qc (tz (derL N)) Q 451 _ (g50.raw ND.out.1.sz dZ) ((LQ.out.ext hW).raw DZ.out.1.sz dZ) (by have h:=g50.len;have h2:=ND.out.2;omega) zo (ND.out.1.sz.mono dZ) (DZ.out.1.sz.mono dZ) dZ).weak (fun _ _ _ h=>h.can))
 refine qZ ?_;refine wps he0 (fun w1 hW hG=>?_) fun x52=>?_
 ·exact spc [.slice qa qn qc] Tryz.func53 ((jI qa qn qc Q _ (LQ.out.ext hW) zo (DZ.out.1.sz.mono dZ)).weak (fun _ _ _ h=>h.can))
 refine qZ ?_;refine wps he0 (fun w1 hW hG=>?_) fun x53=>?_
 ·have g52:=gS (hG 10 dZ);exact spc [.slice na nn nc,x52.v] Tryz.func13 ((r7 na x52.a nn nc x52.n x52.c N (tz (derL Q)) 451 _ ((LN.out.ext hW).raw NZ.out.1.sz dZ) (g52.raw QD.out.1.sz dZ) zo (by have h:=g52.len;have h2:=QD.out.2;omega) (NZ.out.1.sz.mono dZ) QD.out.1.sz dZ).weak (fun _ _ _ h=>h.can))
 refine qZ ?_;refine wps he0 (fun w1 hW hG=>?_) fun x54=>?_
 ·have g51:=gS (hG 5 dZ);have g53:=gS (hG 11 dZ);exact spc [x51.v,x53.v] Tryz.func44 ((yk x51.a x53.a x51.n x51.c x53.n x53.c (aq (tz (derL N)) Q) (aq N (tz (derL Q))) _ (g51.raw MA.out.1.sz dZ) (g53.raw MB.out.1.sz dZ) (by have h:=g51.len;have h2:=MA.out.2;omega) (by have h:=g53.len;have h2:=MB.out.2;omega) (MA.out.1.sz.mono dZ) (MB.out.1.sz.mono dZ)).weak (fun _ _ _ h=>by rw [HSL.out];exact h.can))
 refine qZ ?_;refine aj ?_;intro w50 hI;have hE:=he0.out.trans hI.ext;have G54:=gT (hI.facts 12);clear hI he0 hz0 hc0 hf0;replace HX:=hE.tr HX;simp only [pD];obtain ⟨fa,fn,fc⟩:=x54;have LF:=Hi G54.out;clear G54;simp only [SH.v]
 go_wp2_with fail
 refine cM (uo _) fun x51 w51 hE G51=>?_
 refine mV2 hE ?_ HX LF;clear HX LF;intro HX LF;obtain ⟨⟨ln,la,ll,lc,lb,lm,ld⟩,⟨hn',ha,hl,hc,hb,hm,hd⟩⟩:=x51
 go_wp2_with fail
 refine cM (qA fa fn fc (yz n e r) 50 9 1 1200000 ⟨ln,la,ll,lc,lb,lm,ld⟩ ⟨hn',ha,hl,hc,hb,hm,hd⟩ (-1) (1) _ (LF.out.raw SLZ.out.1.sz dZ) (G51.out.1.raw ZL.out dZ) (G51.out.2.raw ZH.out dZ) SLZ.out.1 SLZ.out.2 dZ ZL.out ZH.out dZ dZ (by unfold KN;decide) dZ dZ dZ dZ HNN.out) fun x52 w52 hE _=>?_
 replace HX:=hE.tr HX
 go_wp2_with fail
 refine cM (q9 _) fun x90 w90 hE _=>?_
 replace HX:=hE.tr HX;go_wp2
 go_ret
 exact ⟨(),rfl,HX.out,trivial⟩
end Go.Proofs.YtafgmcimcbhhjaaGreat
/- What all joins of this seat share. -/
namespace Go.Proofs.YtafgmcimcbhhjaaGreat
open Go.ChangeShapes Go.WideShapes Go.ChangeAt Go.RowKit Go.Front Go.Joins
theorem own:ownKnob Tryz.prog.godebug=none:=by kernel_rfl
theorem qG:laidOutB Tryz.prog=true:=by kernel_rfl
theorem nj{n:Int}(h:(Lit.int .i64 n).wf=true):-9223372036854775808≤n∧n≤9223372036854775807:=by
 simp [Lit.wf] at h;exact ⟨h.1,h.2⟩
end Go.Proofs.YtafgmcimcbhhjaaGreat
