/- Nonnegative of package dspcompilerref06. -/
import Derived.Test.YtafgmcimcbhhjaaGreatQZK11
import Derived.Test.YtafgmcimcbhhjaaGreatQZK5
import Derived.Test.YtafgmcimcbhhjaaGreatQZK6
import Derived.Test.YtafgmcimcbhhjaaGreatQZK7
set_option linter.unusedVariables false
set_option maxRecDepth 8000
set_option maxHeartbeats 16000000
namespace Go.Proofs.YtafgmcimcbhhjaaGreat
open Go.RowKit Go.Front Go.Num Stab Sg
attribute [local go_sem] XW.cell XW.frozen
theorem AfZ.tz{S D T n:Nat}{l:List Rat}(h:AfZ S D T n l):AfZ S D T n (tz l) :=
 ⟨h.1,h.2.1,h.2.2.1,fun x hx=>h.2.2.2.1 x (ju hx),nXe (ag l) h.2.2.2.2.1,h.2.2.2.2.2.1,h.2.2.2.2.2.2⟩
theorem AfZ.sz{S D T n:Nat}{l:List Rat}(h:AfZ S D T n l):SzL 8000000 l:=(h.2.2.2.1.sz h.1 h.2.1 h.2.2.1).mono (by have:=h.2.2.2.2.2.2;omega)
theorem AfZ.ev{S D T n:Nat}{l:List Rat}(h:AfZ S D T n l){x:Rat}(hx:Sz T x):∀ k,k≤l.length→Sz 40000000 (evV (l.drop k) x):=fun k _=>(kk h.2.2.2.1 hx h.1 h.2.1 h.2.2.1 k).mono (by
 have h1:=h.2.2.2.2.2.2;have h2:l.length*(T+1)≤n*(T+1):=nXg _ h.2.2.2.2.1;omega)
theorem nd:∀ qs:List Rat,(prp qs).length=qs.length / 2
 | []=>rfl
 | [a]=>by simp [prp]
 | a :: b :: l=>by
  show (prp l).length+1=_;rw [nd l];simp only [List.length_cons];omega
theorem vB:∀ (qs:List Rat) (k:Nat),2*k+1<qs.length→(prp qs)[k]?=some (qs.getD (2*k) 0,qs.getD (2*k+1) 0)
 | [],k,h=>by simp at h
 | [_],k,h=>by simp at h
 | a :: b :: l,0,_=>rfl
 | a :: b :: l,k+1,h=>by
  show (prp l)[k]?=_;rw [vB l k (by simp only [List.length_cons] at h;omega)];rfl
theorem tU{qs:List Rat}{k:Nat}(h:2*k+1<qs.length):(prp qs).drop k=(qs.getD (2*k) 0,qs.getD (2*k+1) 0) :: (prp qs).drop (k+1):=by
 have hl:k<(prp qs).length:=by rw [nd];omega
 rw [List.drop_eq_getElem_cons hl]
 congr 1
 have e:=vB qs k h;rw [List.getElem?_eq_getElem hl] at e;exact Option.some.inj e
theorem mj{qs:List Rat}{k:Nat}(h:k<qs.length):qs.getD k 0 ∈ qs:=by
 rw [nXc,List.getElem?_eq_getElem h];exact List.getElem_mem _
def NnE(r:Bool)(p:List Rat)(hi:Rat)(L:List Rat)(j:Nat):Prop:=Unit→r=((prp L).drop j).all (ok6 p hi)
theorem sU{a b:Rat}:gi a b=0↔a=b:=by
 unfold gi;by_cases h:a<b
 ·rw [if_pos h];exact ⟨fun k=>absurd k (by decide),fun k=>by exfalso;grind⟩
 ·rw [if_neg h];by_cases h2:a=b
  ·rw [if_pos h2];exact ⟨fun _=>h2,fun _=>rfl⟩
  ·rw [if_neg h2];exact ⟨fun k=>absurd k (by decide),fun k=>absurd k h2⟩
theorem rx{p:List Rat}{hi:Rat}{x:Rat×Rat}(h:Sg.sg (evV p x.1)<0):ok6 p hi x=false:=by unfold ok6;rw [decide_eq_true h,Bool.or_true];rfl
theorem wT{p:List Rat}{hi:Rat}{x:Rat×Rat}(h:x.2<hi)(k:ib (p.length+1) p x.2<0):ok6 p hi x=false:=by unfold ok6;rw [decide_eq_true h,decide_eq_true k];rfl
theorem rv{p:List Rat}{hi:Rat}{x:Rat×Rat}(h:(decide (x.2<hi) && decide (ib (p.length+1) p x.2<0))=false)(k:¬ Sg.sg (evV p x.1)<0):ok6 p hi x=true:=by unfold ok6;rw [h,decide_eq_false k];rfl
theorem ni(pa:Option Addr)(P pc:Nat)(l:List Rat)(s t:RH)(a b:Rat)(w:World)(h:cU w ⟨pa,P,pc⟩ l)(hP:P≤1000000)(hs:aX w s a)(ht:aX w t b)(h0:tz l=[]) :
  ar 14 [.slice pa P pc,IvV (s,t)] w (fun _:Unit=>.tuple #[.bool true,.int .i64 0]) (fun _ _=>True):=by
 obtain ⟨sn,sa,sl,sc,sb,sm,sd⟩:=s;obtain ⟨tn,ta,tl,tc,tb,tm,td⟩:=t;have HX:=Hi (Ext.refl w);have LP:=Hi h;have LPw:=Hi h;have HS:=Hi hs;have HT:=Hi ht;have H0:=Hi h0;clear h hs ht h0;unfold ar;go_enter Tryz.func14,Tryz.ntmps14
 go_upto_region 1 with fail
 refine nmA ?_;intro w1 hE B3 hz_w1 hr_w1;refine mV4 hE ?_ HX LP HS HT;clear HX LP HS HT;intro HX LP HS HT;have hs_w1:=hE.size;clear hE;replace b_B3:=bX3 B3
 go_wp2_with fail
 refine cM (dN pa P pc l _ LP.out (by omega)) fun x11 w11 hE _=>?_
 refine mV5 hE ?_ B3 HX LP HS HT;clear B3 HX LP HS HT;intro B3 HX LP HS HT;have hs_w11:=hE.size;clear hE;replace b_B3:=bX3 B3;rw [H0.out];simp only [List.length_nil]
 go_wp2_with fail
 refine cM (dL ⟨sn,sa,sl,sc,sb,sm,sd⟩ ⟨tn,ta,tl,tc,tb,tm,td⟩ a b _ HS.out HT.out) fun x14 w14 hE G14=>?_
 refine mV5 hE ?_ B3 HX LP HS HT;clear B3 HX LP HS HT;intro B3 HX LP HS HT;have hs_w14:=hE.size;clear hE;replace b_B3:=bX3 B3;obtain ⟨⟨ln,la,ll,lc,lb,lm,ld⟩,⟨hn',ha,hl,hc,hb,hm,hd⟩⟩:=x14;clear LP
 go_upto_region 4 with fail
 refine fZ B3.out rfl ?_;intro w15 T;replace HX:=Hi (T.ext HX.out (by omega));replace HS:=Hi (HS.out.keep T.keep);replace HT:=Hi (HT.out.keep T.keep);replace B3:=Hi (T.bx);have hs_w15:=nle T.size;have hr_w15:=nle T.size.symm;clear T;replace b_B3:=bX3 B3
 go_wp2_with fail
 refine cM (dN pa P pc l _ (LPw.out.ext HX.out) (by omega)) fun x16 w16 hE _=>?_
 refine mV4 hE ?_ HX HS HT B3;clear HX HS HT B3;intro HX HS HT B3;have hs_w16:=hE.size;clear hE;replace b_B3:=bX3 B3;rw [H0.out];simp only [List.length_nil];go_wp2;exact bodyPost_ret (v:=.tuple #[.bool true,.int .i64 0]) (by simp [results,Tryz.results14,go_sem]) rfl ⟨(),rfl,HX.out,trivial⟩
theorem nj(pa:Option Addr)(P pc:Nat)(l:List Rat)(K:Nat)(s t:RH)(a b:Rat)(T m Y E D S2 D2 n2:Nat)(w:World)(h:cU w ⟨pa,P,pc⟩ l)(hs:aX w s a)(ht:aX w t b)(H:Is6 l K P (loV a b) (hiV a b) 0 T m Y E D)(Z:AfZ S2 D2 (3*T+m+1) n2 l) :
  ar 14 [.slice pa P pc,IvV (s,t)] w (fun _:Unit=>.tuple #[.bool (yU (tz l) (loV a b) (hiV a b) (vM (fI (tz l)) (wd6 0) E (loV a b) (hiV a b))),.int .i64 0]) (fun _ _=>True):=by
 obtain ⟨sn,sa,sl,sc,sb,sm,sd⟩:=s;obtain ⟨tn,ta,tl,tc,tb,tm,td⟩:=t;have HX:=Hi (Ext.refl w);have LP:=Hi h;have LPw:=Hi h;have HS:=Hi hs;have HT:=Hi ht;have HH0:=Hi H;have HAZ:=Hi Z;have hP:=H.hP;have hT3:=H.t3;have hT2:=H.sz.t;have HLE:=Hi (zd a b);obtain ⟨lo,hlo⟩:∃ lo,lo=loV a b:=⟨_,rfl⟩;obtain ⟨hi,hhi⟩:∃ hi,hi=hiV a b:=⟨_,rfl⟩;have HLO:=Hi hlo;have HHI:=Hi hhi;rw [←hlo,←hhi] at HLE HH0 ⊢;have ZA:=Hi HH0.out.za;have ZB:=Hi HH0.out.zb;obtain ⟨L,hL⟩:∃ L,L=vM (fI (tz l)) (wd6 0) E lo hi:=⟨_,rfl⟩;have HLL:=Hi hL;have ZL:Hid (∀ y ∈ L,Sz (3*T+m+1) y):=Hi (fun y hy=>by
  rw [hL] at hy;unfold vM at hy;rcases List.mem_append.1 hy with k|k
  ·split at k
   ·simp only [List.mem_cons,List.not_mem_nil,or_false] at k;rcases k with rfl|rfl <;> exact ZA.out.mono (by omega)
   ·simp at k
  ·have d1:=HH0.out.dl;have d2:=HH0.out.dh;rw [pB HLE.out] at d1;rw [pG HLE.out] at d2;exact Ai (P:=fun x=>Sz (3*T+m+1) x) (E:=E) (fun e x he hx=>hx.sz HH0.out.sp.dp HH0.out.sp.dl (by have:=HH0.out.sz.e;omega)) E (e:=0) (by omega) d1 d2 y k)
 rw [←hL];obtain ⟨r,hr⟩:∃ r,r=yU (tz l) lo hi L:=⟨_,rfl⟩;have HR:=Hi hr;rw [←hr];obtain ⟨p,hp⟩:∃ p,p=tz l:=⟨_,rfl⟩;rw [←hp] at HR;have HP:=Hi hp;have HPN:Hid (p≠[]):=Hi (by rw [hp];exact H.ne);obtain ⟨N,hN⟩:∃ N,N=(tz l).length:=⟨_,rfl⟩;have hN1:1≤N:=by rw [hN];exact nYe.2 H.ne
 have hN2:N≤49:=by rw [hN];have:=ag l;have:=h.len;simp only at this;omega
 have HN:=Hi hN;obtain ⟨y1,hy1⟩:∃ y,y=Sg.sg (evV l lo):=⟨_,rfl⟩;obtain ⟨y2,hy2⟩:∃ y,y=Sg.sg (evV l hi):=⟨_,rfl⟩;obtain ⟨y3,hy3⟩:∃ y,y=ib (p.length+1) p lo:=⟨_,rfl⟩;have HY1:=Hi hy1;have HY2:=Hi hy2;have HY3:=Hi hy3;have HVR:Hid (Fn (r=if y1<0∨y2<0 then false else if lo=hi then true else if y3<0 then false else (prp L).all (ok6 p hi))):=Hi (fun _=>by
  rw [HR.out];unfold yU;rw [if_neg HPN.out,hy1,hy2,hy3,hp,iF,iF])
 clear h hs ht H Z hlo hhi hL hr hp hN hy1 hy2 hy3 HR;unfold ar;go_enter Tryz.func14,Tryz.ntmps14
 go_upto_region 1 with fail
 refine nmA ?_;intro w1 hE B3 hz_w1 hr_w1;refine mV4 hE ?_ HX LP HS HT;clear HX LP HS HT;intro HX LP HS HT;have hs_w1:=hE.size;clear hE;replace b_B3:=bX3 B3
 go_wp2_with fail
 refine cM (dN pa P pc l _ LP.out (by omega)) fun x11 w11 hE _=>?_
 refine mV5 hE ?_ B3 HX LP HS HT;clear B3 HX LP HS HT;intro B3 HX LP HS HT;have hs_w11:=hE.size;clear hE;replace b_B3:=bX3 B3;rw [←HN.out];have hg1:¬ (48:Int)<(N:Int)-1:=by omega
 have hg2:¬ (N:Int)-1<0:=by omega
 go_wp2_with fail
 refine cM (dL ⟨sn,sa,sl,sc,sb,sm,sd⟩ ⟨tn,ta,tl,tc,tb,tm,td⟩ a b _ HS.out HT.out) fun x14 w14 hE G14=>?_
 refine mV5 hE ?_ B3 HX LP HS HT;clear B3 HX LP HS HT;intro B3 HX LP HS HT;have hs_w14:=hE.size;clear hE;replace b_B3:=bX3 B3;obtain ⟨⟨ln,la,ll,lc,lb,lm,ld⟩,⟨hn',ha,hl,hc,hb,hm,hd⟩⟩:=x14;rw [←HLO.out,←HHI.out] at G14;have HL:=Hi G14.out.1;have HH:=Hi G14.out.2;clear G14;clear HS;clear HT;clear LP
 go_upto_region 4 with fail
 refine fZ B3.out rfl ?_;intro w15 T;replace HX:=Hi (T.ext HX.out (by omega));replace B3:=Hi (T.bx);replace HL:=Hi (HL.out.keep T.keep);replace HH:=Hi (HH.out.keep T.keep);have hs_w15:=nle T.size;have hr_w15:=nle T.size.symm;clear T;replace b_B3:=bX3 B3;have LP:=Hi (LPw.out.ext HX.out)
 go_wp2_with fail
 refine cM (dN pa P pc l _ LP.out (by omega)) fun x16 w16 hE _=>?_
 refine mV5 hE ?_ HX B3 HL HH LP;clear HX B3 HL HH LP;intro HX B3 HL HH LP;have hs_w16:=hE.size;clear hE;replace b_B3:=bX3 B3;rw [←HN.out]
 go_wp2_with fail
 refine cM (fi pa P pc l ⟨ln,la,ll,lc,lb,lm,ld⟩ lo _ LP.out (HL.out.raw ZA.out (by omega)) (by omega) (HAZ.out.sz.mono (by decide)) (ZA.out.mono (by omega)) (HAZ.out.ev (ZA.out.mono (by omega)))) fun x21 w21 hE G21=>?_
 refine mV5 hE ?_ HX B3 HL HH LP;clear HX B3 HL HH LP;intro HX B3 HL HH LP;have hs_w21:=hE.size;clear hE;replace b_B3:=bX3 B3
 go_wp2_with fail
 refine cM (bK x21 (evV l lo) _ (G21.out.raw (HAZ.out.ev (ZA.out.mono (by omega)) 0 (Nat.zero_le _)) (by decide))) fun x22 w22 hE _=>?_
 refine mV6 hE ?_ G21 HX B3 HL HH LP;clear G21 HX B3 HL HH LP;intro G21 HX B3 HL HH LP;have hs_w22:=hE.size;clear hE;replace b_B3:=bX3 B3;rw [gR,←HY1.out];clear G21;by_cases h1:y1<0
 case pos =>
  have HV:Hid (r=false):=Hi (by rw [HVR.out (),if_pos (Or.inl h1)]);go_wp2;exact bodyPost_ret (v:=.tuple #[.bool r,.int .i64 0]) (by rw [HV.out];simp [results,Tryz.results14,go_sem]) rfl ⟨(),rfl,HX.out,trivial⟩
 have HN1:Hid (Fn (¬ y1<0)):=Hi (fun _=>h1)
 go_wp2_with fail
 refine cM (fi pa P pc l ⟨hn',ha,hl,hc,hb,hm,hd⟩ hi _ LP.out (HH.out.raw ZB.out (by omega)) (by omega) (HAZ.out.sz.mono (by decide)) (ZB.out.mono (by omega)) (HAZ.out.ev (ZB.out.mono (by omega)))) fun x28 w28 hE G28=>?_
 refine mV5 hE ?_ HX B3 HL HH LP;clear HX B3 HL HH LP;intro HX B3 HL HH LP;have hs_w28:=hE.size;clear hE;replace b_B3:=bX3 B3
 go_wp2_with fail
 refine cM (bK x28 (evV l hi) _ (G28.out.raw (HAZ.out.ev (ZB.out.mono (by omega)) 0 (Nat.zero_le _)) (by decide))) fun x29 w29 hE _=>?_
 refine mV6 hE ?_ G28 HX B3 HL HH LP;clear G28 HX B3 HL HH LP;intro G28 HX B3 HL HH LP;have hs_w29:=hE.size;clear hE;replace b_B3:=bX3 B3;rw [gR,←HY2.out];clear G28;by_cases h2:y2<0
 case pos =>
  have HV:Hid (r=false):=Hi (by rw [HVR.out (),if_pos (Or.inr h2)]);go_wp2;exact bodyPost_ret (v:=.tuple #[.bool r,.int .i64 0]) (by rw [HV.out];simp [results,Tryz.results14,go_sem]) rfl ⟨(),rfl,HX.out,trivial⟩
 have HN2:Hid (Fn (¬ y2<0)):=Hi (fun _=>h2)
 go_wp2_with fail
 refine cM (gE ⟨ln,la,ll,lc,lb,lm,ld⟩ ⟨hn',ha,hl,hc,hb,hm,hd⟩ lo hi _ (HL.out.raw ZA.out (by omega)) (HH.out.raw ZB.out (by omega))) fun x36 w36 hE _=>?_
 refine mV5 hE ?_ HX B3 HL HH LP;clear HX B3 HL HH LP;intro HX B3 HL HH LP;have hs_w36:=hE.size;clear hE;replace b_B3:=bX3 B3;obtain ⟨c,hc0⟩:∃ c,c=gi lo hi:=⟨_,rfl⟩;have HC0:=Hi hc0;rw [←hc0];clear hc0;by_cases h3:c=0
 case pos =>
  have HV:Hid (r=true):=Hi (by rw [HVR.out (),if_neg (fun k=>by have a1:=HN1.out ();have a2:=HN2.out ();omega),if_pos (sU.1 (by rw [←HC0.out];exact h3))]);subst h3;go_wp2;exact bodyPost_ret (v:=.tuple #[.bool r,.int .i64 0]) (by rw [HV.out];simp [results,Tryz.results14,go_sem]) rfl ⟨(),rfl,HX.out,trivial⟩
 have h3b:(c == 0)=false:=by rw [nXr];exact h3
 have HNEQ:Hid (lo≠hi):=Hi (fun k=>h3 (by rw [HC0.out];exact sU.2 k))
 go_wp2_with fail
 refine cM ((by have h:=kv pa P pc l ⟨ln,la,ll,lc,lb,lm,ld⟩ lo S2 D2 (3*T+m+1) n2 _ LP.out (by omega) HAZ.out.tz (HL.out.raw ZA.out (by omega)) (ZA.out.mono (by omega)) (by omega);rw [←HP.out,←HY3.out] at h;exact h)) fun x41 w41 hE _=>?_
 refine mV5 hE ?_ HX B3 HL HH LP;clear HX B3 HL HH LP;intro HX B3 HL HH LP;have hs_w41:=hE.size;clear hE;replace b_B3:=bX3 B3;by_cases h4:y3<0
 case pos =>
  have HV:Hid (r=false):=Hi (by rw [HVR.out (),if_neg (fun k=>by have a1:=HN1.out ();have a2:=HN2.out ();omega),if_neg HNEQ.out,if_pos h4]);go_wp2;exact bodyPost_ret (v:=.tuple #[.bool r,.int .i64 0]) (by rw [HV.out];simp [results,Tryz.results14,go_sem]) rfl ⟨(),rfl,HX.out,trivial⟩
 have HNE0:Hid (NnE r p hi L 0):=Hi (fun _=>by rw [HVR.out (),if_neg (fun k=>by have a1:=HN1.out ();have a2:=HN2.out ();omega),if_neg HNEQ.out,if_neg h4,List.drop_zero]);clear h1 h2 h3 h3b
 go_wp2_with fail
 refine cM ((by have h:=mg pa P pc l K ⟨ln,la,ll,lc,lb,lm,ld⟩ ⟨hn',ha,hl,hc,hb,hm,hd⟩ lo hi 0 T m Y E D _ LP.out (HL.out.raw ZA.out (by omega)) (HH.out.raw ZB.out (by omega)) HH0.out;rw [pB HLE.out,pG HLE.out,←HLL.out,show ((0:Nat):Int)=0 from rfl] at h;exact h)) fun x46 w46 hE G46=>?_
 refine mV5 hE ?_ HX B3 HL HH LP;clear HX B3 HL HH LP;intro HX B3 HL HH LP;have hs_w46:=hE.size;clear hE;replace b_B3:=bX3 B3;obtain ⟨xo,xn,xc⟩:=x46;have LX:=Hi (eN.can G46.out.1).2;have hxn:=G46.out.2;simp only at hxn;have HQl:Hid (L.length=xn*2):=Hi G46.out.1.len;clear G46;obtain ⟨b3,hb3⟩:∃ x,x=w.heap.size:=⟨_,rfl⟩;have p3:b3<w46.heap.size:=by omega
 have p3w:w.heap.size≤b3:=by omega
 rw [←hb3] at B3 ⊢;clear hb3 b_B3;replace b_B3:=bX3 B3;have LP9:=LP;have LX9:=LX;have HL9:=HL;have HH9:=HH;have HX9:=HX;have B39:=B3;have HXA:=Hi (Ext.refl w46);simp only [SH.v];go_wp2
 go_loopg [51] xn (fun g i wr=>∃ j:Nat,j+g=xn∧i=.int .i64 (j:Nat)∧Ext w46 wr∧NnE r p hi L j)
 case atStart=>exact ⟨0,by omega,rfl,HXA.out,HNE0.out⟩
 case round =>
  obtain ⟨j,hj,rfl,g1,g2⟩:=hrel;clear HXA B3 HL HH HX LP LX b_B3;have HXA:=Hi g1;have B3:=Hi (g1.block B39.out);have HL:=Hi (HL9.out.ext g1);have HH:=Hi (HH9.out.ext g1);have HX:=Hi (HX9.out.trans g1);have LP:=Hi (LP9.out.ext g1);have LX:=Hi (LX9.out.ext g1);have HNE:=Hi g2;clear g1 g2;replace b_B3:=bX3 B3;by_cases h1:gk=0
  case pos =>
   subst h1;obtain rfl:j=xn:=by omega
   have HV:Hid (r=true):=Hi (by rw [HNE.out (),List.drop_eq_nil_of_le (by rw [nd,HQl.out];omega)];rfl);go_wp2;exact bodyPost_ret (v:=.tuple #[.bool r,.int .i64 0]) (by rw [HV.out];simp [results,Tryz.results14,go_sem]) rfl ⟨(),rfl,HX.out,trivial⟩
  have hin:(j:Int)<xn:=by omega
  obtain ⟨bw,off,r1,t1,hao,hbl,⟨f1,f2,f3,f4,f5,f6⟩,R1,R2⟩:=LX.out.at (k:=j) (by omega);have ZX1:Hid (Sz (3*T+m+1) (L.getD (2*j) 0)):=Hi (ZL.out _ (mj (by rw [HQl.out];omega)));have ZX2:Hid (Sz (3*T+m+1) (L.getD (2*j+1) 0)):=Hi (ZL.out _ (mj (by rw [HQl.out];omega)));have HDR:=Hi (show Fn ((prp L).drop j=(L.getD (2*j) 0,L.getD (2*j+1) 0) :: (prp L).drop (j+1)) from fun _=>tU (by rw [HQl.out];omega));obtain ⟨x1,hx1⟩:∃ x,x=L.getD (2*j) 0:=⟨_,rfl⟩;obtain ⟨x2,hx2⟩:∃ x,x=L.getD (2*j+1) 0:=⟨_,rfl⟩;rw [←hx1] at R1 ZX1 HDR;rw [←hx2] at R2 ZX2 HDR;obtain ⟨rn,ra,rl,rc,rb,rm,rd⟩:=r1;obtain ⟨kn,ka,kl,kc,kb,km,kd⟩:=t1;simp only at f1 f2 f3 f4 f5 f6;have RP:=Hi R1;have RK:=Hi R2;subst hao;clear R1 R2 hx1 hx2;have hsx:=HX.out.size;have hsy:=HXA.out.size
  go_upto_region 16 with fail
  refine nmA ?_;intro w52 hE B9 hz_w52 hr_w52;refine mV8 hE ?_ HXA B3 HL HH HX LP LX RP;clear HXA B3 HL HH HX LP LX RP;intro HXA B3 HL HH HX LP LX RP;replace RK:=mV hE RK;have hs_w52:=hE.size;clear hE;replace b_B3:=bX3 B3;replace b_B9:=bX3 B9;clear f1 f2 f3 f4 f5 f6;obtain ⟨b9,hb9⟩:∃ x,x=wr.heap.size:=⟨_,rfl⟩;have p9:w.heap.size≤b9:=by omega
  have q9:w46.heap.size≤b9:=by omega
  have n39:b3≠b9:=by omega
  rw [←hb9] at B9 ⊢;clear hb9 b_B9;replace b_B3:=bX3 B3;replace b_B9:=bX3 B9
  (try simp only at B9)
  go_wp2_with fail
  refine cM (ic ⟨kn,ka,kl,kc,kb,km,kd⟩ ⟨hn',ha,hl,hc,hb,hm,hd⟩ x2 hi _ (RK.out.raw ZX2.out (by omega)) (HH.out.raw ZB.out (by omega))) fun x59 w59 hE _=>?_
  refine mV8 hE ?_ B9 HXA B3 HL HH HX LP LX;clear B9 HXA B3 HL HH HX LP LX;intro B9 HXA B3 HL HH HX LP LX;refine mV2 hE ?_ RP RK;clear RP RK;intro RP RK;have hs_w59:=hE.size;clear hE;replace b_B3:=bX3 B3;replace b_B9:=bX3 B9;by_cases h2:x2<hi
  case neg =>
   rw [decide_eq_false h2];have HOK:Hid ((decide (x2<hi) && decide (ib (p.length+1) p x2<0))=false):=Hi (by rw [decide_eq_false h2];rfl);clear h2
   go_wp2_with fail
   refine cM (fi pa P pc l ⟨rn,ra,rl,rc,rb,rm,rd⟩ x1 _ LP.out (RP.out.raw ZX1.out (by omega)) (by omega) (HAZ.out.sz.mono (by decide)) (ZX1.out.mono (by omega)) (HAZ.out.ev ZX1.out)) fun x71 w71 hE G71=>?_
   refine mV8 hE ?_ B9 HXA B3 HL HH HX LP LX;clear B9 HXA B3 HL HH HX LP LX;intro B9 HXA B3 HL HH HX LP LX;refine mV2 hE ?_ RP RK;clear RP RK;intro RP RK;have hs_w71:=hE.size;clear hE;replace b_B3:=bX3 B3;replace b_B9:=bX3 B9
   go_wp2_with fail
   refine cM (bK x71 (evV l x1) _ (G71.out.raw (HAZ.out.ev ZX1.out 0 (Nat.zero_le _)) (by decide))) fun x72 w72 hE _=>?_
   refine mV8 hE ?_ G71 B9 HXA B3 HL HH HX LP;clear G71 B9 HXA B3 HL HH HX LP;intro G71 B9 HXA B3 HL HH HX LP;refine mV3 hE ?_ LX RP RK;clear LX RP RK;intro LX RP RK;have hs_w72:=hE.size;clear hE;replace b_B3:=bX3 B3;replace b_B9:=bX3 B9;rw [gR];obtain ⟨y,hy⟩:∃ y,y=Sg.sg (evV l x1):=⟨_,rfl⟩;rw [←hy];by_cases hy0:y<0
   case pos =>
    have HV:Hid (r=false):=Hi (by rw [HNE.out (),HDR.out (),List.all_cons,rx (hi:=hi) (x:=(x1,x2)) (show Sg.sg (evV p x1)<0 by rw [HP.out,iF,←hy];exact hy0),Bool.false_and]);have hyd:=decide_eq_true hy0;clear hy hyd;go_wp2;exact bodyPost_ret (v:=.tuple #[.bool r,.int .i64 0]) (by rw [HV.out];simp [results,Tryz.results14,go_sem]) rfl ⟨(),rfl,HX.out,trivial⟩
   have HNN2:Hid (NnE r p hi L (j+1)):=Hi (fun _=>by rw [HNE.out (),HDR.out (),List.all_cons,rv (x:=(x1,x2)) HOK.out (show ¬ Sg.sg (evV p x1)<0 by rw [HP.out,iF,←hy];exact hy0),Bool.true_and]);clear hy;go_wp2
   go_roundg (gk-1)
   case measure=>omega
   case rel=>exact ⟨j+1,by omega,by go_num,HXA.out,HNN2.out⟩
  rw [decide_eq_true h2]
  go_wp2_with fail
  refine cM ((by have h:=kv pa P pc l ⟨kn,ka,kl,kc,kb,km,kd⟩ x2 S2 D2 (3*T+m+1) n2 _ LP.out (by omega) HAZ.out.tz (RK.out.raw ZX2.out (by omega)) ZX2.out (by omega);rw [←HP.out] at h;exact h)) fun x64 w64 hE _=>?_
  refine mV8 hE ?_ B9 HXA B3 HL HH HX LP LX;clear B9 HXA B3 HL HH HX LP LX;intro B9 HXA B3 HL HH HX LP LX;refine mV2 hE ?_ RP RK;clear RP RK;intro RP RK;have hs_w64:=hE.size;clear hE;replace b_B3:=bX3 B3;replace b_B9:=bX3 B9;obtain ⟨y4,hy4⟩:∃ y,y=ib (p.length+1) p x2:=⟨_,rfl⟩;rw [←hy4];by_cases h5:y4<0
  case pos =>
   have HV:Hid (r=false):=Hi (by rw [HNE.out (),HDR.out (),List.all_cons,wT (x:=(x1,x2)) h2 (by rw [←hy4];exact h5),Bool.false_and]);clear hy4 h2;go_wp2;exact bodyPost_ret (v:=.tuple #[.bool r,.int .i64 0]) (by rw [HV.out];simp [results,Tryz.results14,go_sem]) rfl ⟨(),rfl,HX.out,trivial⟩
  have HOK:Hid ((decide (x2<hi) && decide (ib (p.length+1) p x2<0))=false):=Hi (by rw [←hy4,decide_eq_false h5,Bool.and_false]);clear h2 hy4
  go_wp2_with fail
  refine cM (fi pa P pc l ⟨rn,ra,rl,rc,rb,rm,rd⟩ x1 _ LP.out (RP.out.raw ZX1.out (by omega)) (by omega) (HAZ.out.sz.mono (by decide)) (ZX1.out.mono (by omega)) (HAZ.out.ev ZX1.out)) fun x71 w71 hE G71=>?_
  refine mV8 hE ?_ B9 HXA B3 HL HH HX LP LX;clear B9 HXA B3 HL HH HX LP LX;intro B9 HXA B3 HL HH HX LP LX;refine mV2 hE ?_ RP RK;clear RP RK;intro RP RK;have hs_w71:=hE.size;clear hE;replace b_B3:=bX3 B3;replace b_B9:=bX3 B9
  go_wp2_with fail
  refine cM (bK x71 (evV l x1) _ (G71.out.raw (HAZ.out.ev ZX1.out 0 (Nat.zero_le _)) (by decide))) fun x72 w72 hE _=>?_
  refine mV8 hE ?_ G71 B9 HXA B3 HL HH HX LP;clear G71 B9 HXA B3 HL HH HX LP;intro G71 B9 HXA B3 HL HH HX LP;refine mV3 hE ?_ LX RP RK;clear LX RP RK;intro LX RP RK;have hs_w72:=hE.size;clear hE;replace b_B3:=bX3 B3;replace b_B9:=bX3 B9;rw [gR];obtain ⟨y,hy⟩:∃ y,y=Sg.sg (evV l x1):=⟨_,rfl⟩;rw [←hy];by_cases hy0:y<0
  case pos =>
   have HV:Hid (r=false):=Hi (by rw [HNE.out (),HDR.out (),List.all_cons,rx (hi:=hi) (x:=(x1,x2)) (show Sg.sg (evV p x1)<0 by rw [HP.out,iF,←hy];exact hy0),Bool.false_and]);have hyd:=decide_eq_true hy0;clear hy hyd;go_wp2;exact bodyPost_ret (v:=.tuple #[.bool r,.int .i64 0]) (by rw [HV.out];simp [results,Tryz.results14,go_sem]) rfl ⟨(),rfl,HX.out,trivial⟩
  have HNN2:Hid (NnE r p hi L (j+1)):=Hi (fun _=>by rw [HNE.out (),HDR.out (),List.all_cons,rv (x:=(x1,x2)) HOK.out (show ¬ Sg.sg (evV p x1)<0 by rw [HP.out,iF,←hy];exact hy0),Bool.true_and]);clear hy;go_wp2
  go_roundg (gk-1)
  case measure=>omega
  case rel=>exact ⟨j+1,by omega,by go_num,HXA.out,HNN2.out⟩
end Go.Proofs.YtafgmcimcbhhjaaGreat
/- The divisors of a polynomial with whole coefficients are small: Gauss's lemma, and a polynomial from its values. Plain facts. -/
namespace Go.Proofs.YtafgmcimcbhhjaaGreat.Sg
open Go.RowKit Go.Front Go.Num Go.Stab Go.Proofs.YtafgmcimcbhhjaaGreat Sie
theorem yY{g a b:Rat}(ha:Mu g a)(hb:Mu g b)(h0:a≠0∨b≠0):Mu g (lZ a b):=by
 have habs:∀ {x:Rat},Mu g x→Mu g x.abs:=fun {x} ⟨z,hz,e⟩=>by
  rcases th x with k|k
  ·exact ⟨z,hz,by rw [k,e]⟩
  ·exact ⟨-z,hz.neg,by rw [k,e];grind⟩
 unfold lZ;by_cases ha0:a=0
 ·rw [if_pos ha0];exact habs hb
 ·rw [if_neg ha0];by_cases hb0:b=0
  ·rw [if_pos hb0];exact ha
  ·rw [if_neg hb0];refine habs ?_;obtain ⟨z,hz,rfl⟩:=ha;obtain ⟨y,hy,rfl⟩:=hb;have hg:g≠0:=fun h=>ha0 (by rw [h];grind)
   have hz0:z≠0:=fun h=>ha0 (by rw [h];grind)
   have hy0:y≠0:=fun h=>hb0 (by rw [h];grind)
   have e:z*g / (y*g)=z / y:=iU hg z hy0;rw [e];have h1:=low (z / y);have h2:=aQ (a:=z) hy0;have hq0:z / y≠0:=fun h=>hz0 (by rw [←h2,h];grind)
   have hN:=oy hq0;rw [hz.eq,hy.eq] at h1 h2;rw [hz.eq,hy.eq] at hN ⊢;generalize hq:(z.num:Rat) / (y.num:Rat)=q at *
   -- z den=y num
   have h3:z.num*q.den=y.num*q.num:=by
    have:(z.num:Rat)*(q.den:Rat)=(y.num:Rat)*(q.num:Rat):=by rw [←h1,←h2];grind
    have h4:((z.num*q.den:Int):Rat)=((y.num*q.num:Int):Rat):=by
     rw [Rat.intCast_mul,Rat.intCast_mul,Rat.intCast_natCast];exact this
    exact Rat.intCast_inj.1 h4
   have hd:q.num ∣ z.num:=by
    have h4:q.num ∣ z.num*q.den:=⟨y.num,by rw [h3,Int.mul_comm]⟩;have h5:q.num.natAbs ∣ z.num.natAbs*q.den:=by
     have:=Int.natAbs_dvd_natAbs.2 h4
     rwa [Int.natAbs_mul,nYf] at this
    exact Int.natAbs_dvd_natAbs.1 (Nat.Coprime.dvd_of_dvd_mul_right q.reduced h5)
   obtain ⟨k,hk⟩:=hd;refine ⟨(k:Rat),Wh.int k,?_⟩;have h6:=aQ (a:=(z.num:Rat)*g) hN;have h7:(z.num:Rat)=(q.num:Rat)*(k:Rat):=by rw [hk,Rat.intCast_mul]
   have h8:((z.num:Rat)*g / (q.num:Rat)-(k:Rat)*g)*(q.num:Rat)=0:=by rw [Rat.sub_eq_add_neg,Rat.add_mul,h6,h7];grind
   rcases nXq.1 h8 with h|h
   ·grind
   ·exact absurd h hN
theorem xe{g:Rat}(l:List Rat)(h:∀ x ∈ l,Mu g x):Mu g (eA l):=by
 induction l using snoc_ind with
 | h0=>exact Mu.zero g
 | h1 l r ih =>
  rw [ff];have h1:=ih (fun x hx=>h x (List.mem_append_left _ hx));have h2:=h r (by simp);by_cases h3:eA l≠0∨r≠0
  ·exact yY h1 h2 h3
  ·have e1:eA l=0:=Decidable.byContradiction fun h4=>h3 (Or.inl h4)
   have e2:r=0:=Decidable.byContradiction fun h4=>h3 (Or.inr h4)
   rw [e1,e2,oW];exact Mu.zero g
theorem mY(p:List Rat)(i:Nat):seq (aA p) i=(((seq (aA p) i).num:Int):Rat):=by
 rcases Nat.lt_or_ge i (aA p).length with h4|h4
 ·exact (vw p _ (dR h4)).eq
 ·rw [show seq (aA p) i=0 from aT h4];rfl
theorem tK{p:List Rat}(hp:tz p≠[]){t:Int}(h:∀ i,t ∣ (seq (aA p) i).num):t.natAbs=1:=by
 have hm:=bL hp;have h1:Mu ((t:Rat)*bO p) (bO p):=xe (tz p) fun x hx=>by
  obtain ⟨i,hi,rfl⟩:=dA hx;rw [aG];have h2:=df p i;obtain ⟨k,hk⟩:=h i;have h3:=mY p i;refine ⟨(k:Rat),Wh.int k,?_⟩;show seq p i=_;rw [h2,h3,hk,Rat.intCast_mul];grind
 obtain ⟨z,hz,e⟩:=h1;have h2:z*(t:Rat)=1:=by
  have h3:(z*(t:Rat)-1)*bO p=0:=by grind
  rcases nXq.1 h3 with h|h
  ·grind
  ·rw [h] at hm;exact absurd hm Rat.lt_irrefl
 rw [hz.eq,←Rat.intCast_mul] at h2;have h4:z.num*t=1:=Rat.intCast_inj.1 h2;exact Int.natAbs_dvd_natAbs.2 (⟨z.num,by rw [←h4,Int.mul_comm]⟩:t ∣ 1) |> fun h=>Nat.dvd_one.1 h
theorem rR:∀ N:Nat,2≤N→∃ r,2≤r∧r ∣ N∧∀ x y:Int,(r:Int) ∣ x*y→(r:Int) ∣ x∨(r:Int) ∣ y:=by
 intro N hN;have key:∀ n:Nat,∀ r,2≤r→r≤n→r ∣ N→∃ r,2≤r∧r ∣ N∧∀ d,d ∣ N→2≤d→r≤d:=by
  intro n;induction n with
  | zero=>intro r h1 h2;omega
  | succ n ih =>
   intro r h1 h2 h3;by_cases h4:∃ d,d ∣ N∧2≤d∧d<r
   ·obtain ⟨d,d1,d2,d3⟩:=h4;exact ih d d2 (by omega) d1
   ·exact ⟨r,h1,h3,fun d d1 d2=>Classical.byContradiction fun h5=>h4 ⟨d,d1,d2,by omega⟩⟩
 obtain ⟨r,h1,h2,h3⟩:=key N N hN (nXd N) (Nat.dvd_refl N);refine ⟨r,h1,h2,fun x y h=>?_⟩;have hg:Nat.gcd r x.natAbs=1∨Nat.gcd r x.natAbs=r:=by
  have a1:=Nat.gcd_dvd_left r x.natAbs;have a2:Nat.gcd r x.natAbs ∣ N:=Nat.dvd_trans a1 h2;have a3:=Nat.le_of_dvd (by omega) a1;have a4:0<Nat.gcd r x.natAbs:=Nat.gcd_pos_of_pos_left _ (by omega);rcases Nat.lt_or_ge (Nat.gcd r x.natAbs) 2 with h4|h4
  ·left;omega
  ·right
   have:=h3 _ a2 h4;omega
 have hn:r ∣ x.natAbs*y.natAbs:=by
  have:=Int.natAbs_dvd_natAbs.2 h
  rwa [nYf,Int.natAbs_mul] at this
 rcases hg with h4|h4
 ·right
  exact Int.natAbs_dvd_natAbs.1 (by rw [nYf];exact Nat.Coprime.dvd_of_dvd_mul_left h4 hn)
 ·left
  exact Int.natAbs_dvd_natAbs.1 (by rw [nYf,←h4];exact Nat.gcd_dvd_right _ _)
theorem mt{r:Int}{f:Nat→Int}(h:∃ i,¬ r ∣ f i):∃ i,¬ r ∣ f i∧∀ j,j<i→r ∣ f j:=by
 obtain ⟨i,hi⟩:=h;induction i using Nat.strongRecOn with
 | _ i ih =>
  by_cases h2:∃ j,j<i∧¬ r ∣ f j
  ·obtain ⟨j,h3,h4⟩:=h2;exact ih j h3 h4
  ·exact ⟨i,hi,fun j hj=>Decidable.byContradiction fun h=>h2 ⟨j,hj,h⟩⟩
theorem uw{r:Int}{n:Nat}{f:Nat→Int}(h:∀ i,i<n→r ∣ f i):r ∣ gg n f:=by
 induction n with
 | zero=>exact ⟨0,by simp [gg]⟩
 | succ n ih=>exact Int.dvd_add (ih fun i hi=>h i (by omega)) (h n (Nat.lt_succ_self n))
theorem ux{r:Int}:∀ {n:Nat} {f:Nat→Int} {k:Nat},k<n→(∀ i,i<n→i≠k→r ∣ f i)→r ∣ gg n f→r ∣ f k:=by
 intro n;induction n with
 | zero=>intro f k h;omega
 | succ n ih =>
  intro f k hk h hs;have hs':r ∣ gg n f+f n:=hs;by_cases h1:k=n
  ·subst h1;exact (Int.dvd_add_right (uw fun i hi=>h i (by omega) (by omega))).1 hs'
  ·exact ih (by omega) (fun i hi hne=>h i (by omega) hne) ((Int.dvd_add_left (h n (Nat.lt_succ_self n) (by omega))).1 hs')
theorem As{r:Nat}(hr:∀ x y:Int,(r:Int) ∣ x*y→(r:Int) ∣ x∨(r:Int) ∣ y){f g:Nat→Int}(hf:∃ i,¬ (r:Int) ∣ f i)(hg:∃ i,¬ (r:Int) ∣ g i):∃ n,¬ (r:Int) ∣ gg (n+1) (fun i=>f i*g (n-i)):=by
 obtain ⟨a,ha,ha2⟩:=mt hf;obtain ⟨b,hb,hb2⟩:=mt hg;refine ⟨a+b,fun h=>?_⟩;have h1:=ux (k:=a) (by omega) (fun i hi hne=>?_) h
 ·rw [show a+b-a=b by omega] at h1;rcases hr _ _ h1 with h2|h2
  ·exact ha h2
  ·exact hb h2
 ·rcases Nat.lt_or_ge i a with h2|h2
  ·exact Int.dvd_mul_of_dvd_left (ha2 i h2)
  ·exact Int.dvd_mul_of_dvd_right (hb2 (a+b-i) (by omega))
theorem uY{q g h:List Rat}(hq:∀ i,Wh (seq q i))(hq0:tz q≠[])(hg:aA g=g)(he:∀ x,evV q x=evV g x*evV h x):∀ i,Wh (seq h i):=by
 have hg0:tz g≠[]:=fun h0=>by
  obtain ⟨y,hy⟩:=nm hq0;exact hy (by rw [he,ay.1 h0 y];grind)
 have hh0:tz h≠[]:=fun h0=>by
  obtain ⟨y,hy⟩:=nm hq0;exact hy (by rw [he,ay.1 h0 y];grind)
 have whs:=mY;have hc:∀ n,(seq q n)*((bO h).den:Rat)=((bO h).num:Rat)*((gg (n+1) (fun i=>(seq g i).num*(seq (aA h) (n-i)).num):Int):Rat):=fun n=>by
  have h1:=iG (p:=q) (q:=aw g h) (fun x=>by rw [bg,he]) n;rw [h1,cD,fo,mf];have h2:cv (seq g) (seq h) n=bO h*sm (n+1) (fun i=>(((seq g i).num*(seq (aA h) (n-i)).num:Int):Rat)):=by
   rw [←sm_mul];refine sm_congr fun i hi=>?_
   rw [Rat.intCast_mul,←whs h,df h (n-i)];have h3:=whs g i;rw [hg] at h3;rw [←h3];grind
  rw [h2];have h4:=low (bO h);rw [←h4];grind
 have hd:(bO h).den=1:=by
  apply Classical.byContradiction;intro hd;have hd2:2≤(bO h).den:=by have:=(bO h).den_pos;omega
  obtain ⟨r,r1,r2,r3⟩:=rR _ hd2;have hpf:∀ {p:List Rat},tz p≠[]→∃ i,¬ (r:Int) ∣ (seq (aA p) i).num:=fun {p} hp=>Classical.byContradiction fun hn=>by
   have:=tK hp (t:=(r:Int)) (fun i=>Classical.byContradiction fun h=>hn ⟨i,h⟩);rw [nYf] at this;omega
  have hgf:=hpf hg0;rw [hg] at hgf;obtain ⟨n,hn⟩:=As r3 hgf (hpf hh0);apply hn;have h1:=hc n;rw [(hq n).eq] at h1;have h2:(seq q n).num*(bO h).den=(bO h).num*gg (n+1) (fun i=>(seq g i).num*(seq (aA h) (n-i)).num):=by
   apply Rat.intCast_inj.1;rw [Rat.intCast_mul,Rat.intCast_mul,Rat.intCast_natCast];exact h1
  have h3:(r:Int) ∣ (bO h).num*gg (n+1) (fun i=>(seq g i).num*(seq (aA h) (n-i)).num):=by
   rw [←h2];obtain ⟨k,hk⟩:=r2;exact ⟨(seq q n).num*k,by rw [hk,Int.natCast_mul];grind⟩
  rcases r3 _ _ h3 with h4|h4
  ·exfalso;have h5:r ∣ (bO h).num.natAbs:=by
    have:=Int.natAbs_dvd_natAbs.2 h4
    rwa [nYf] at this
   have h6:=Nat.dvd_gcd h5 r2;rw [(bO h).reduced] at h6;have:=Nat.dvd_one.1 h6;omega
  ·exact h4
 intro i;rw [df h i];exact Wh.mul hd (by rw [whs h i];exact Wh.int _)
theorem xQ:∀ (m:Nat) (g:List Rat) (a B R:Rat),ln g≤m+1→0≤B→0≤R→(∀ t:Nat,t≤m→Sg.Bd B (evV g (a+(t:Rat))))→(∀ t:Nat,t≤m→Sg.Bd R (a+(t:Rat)))→∀ i,Sg.Bd (B*(2*R+3) ^ m) (seq g i):=by
 intro m;induction m with
 | zero =>
  intro g a B R hl hB hR hv hp i;rw [Rat.pow_zero,Rat.mul_one];cases i with
  | zero=>rw [←ii hl (a+((0:Nat):Rat))];exact hv 0 (nXd 0)
  | succ i=>rw [yt (by omega)];exact ⟨by grind,hB⟩
 | succ m ih =>
  intro g a B R hl hB hR hv hp i;obtain ⟨c,hc⟩:∃ c,c=a+((m+1:Nat):Rat):=⟨_,rfl⟩;have hcv:=hv (m+1) (nXd _);have hcR:=hp (m+1) (nXd _);rw [←hc] at hcv hcR;have one:∀ t:Rat,∀ x,evV [t] x=t:=fun t x=>by show 0*x+t=t;grind
  obtain ⟨f,hf⟩:∃ f,f=gy g [evV g c]:=⟨_,rfl⟩;have hfx:∀ x,evV f x=evV g x-evV g c:=fun x=>by rw [hf,em,one]
  obtain ⟨g1',⟨g1,rfl⟩,h1⟩:=vS (Pf.ev f) (a:=c) (by rw [hfx];grind);have hlf:ln f≤m+2:=by
   have h2:=gK g [evV g c];have h3:ln [evV g c]≤1:=ag [evV g c];rw [hf];omega
  have hl1:ln g1≤m+1:=by
   by_cases h2:tz g1=[]
   ·show (tz g1).length≤_;rw [h2];exact Nat.zero_le _
   ·have h3:=nq h1 h2;have h4:ln g1<ln f:=h3;omega
  have hmul:∀ d y:Rat,1≤d→Sg.Bd (2*B) (d*y)→Sg.Bd (2*B) y:=fun d y hd hb=>by
   rcases tot 0 y with h|h
   ·have h2:=cf hd h;exact ⟨by grind,by have:=hb.2;grind⟩
   ·have h2:=cf hd (show 0≤-y by grind);exact ⟨by have:=hb.1;grind,by grind⟩
  have hv1:∀ t:Nat,t≤m→Sg.Bd (2*B) (evV g1 (a+(t:Rat))):=fun t ht=>by
   have h2:=h1 (a+(t:Rat));rw [hfx] at h2;have h3:((m+1:Nat):Rat)-(t:Rat)=((m+1-t:Nat):Rat):=by
    have:((m+1:Nat):Rat)=((m+1-t:Nat):Rat)+(t:Rat):=by rw [←Rat.natCast_add];congr 1;omega
    grind
   have h4:(1:Rat)≤((m+1-t:Nat):Rat):=by exact_mod_cast (show 1≤m+1-t by omega)
   refine hmul _ _ h4 ?_;have h5:((m+1-t:Nat):Rat)*evV g1 (a+(t:Rat))=-(evV g (a+(t:Rat))-evV g c):=by rw [h2,←h3,hc];grind
   rw [h5,show (2:Rat)*B=B+B by grind];exact ((hv t (by omega)).sub hcv).neg
  have hI:=ih g1 a (2*B) R hl1 (by grind) hR hv1 (fun t ht=>hp t (by omega));have hs:=rO h1 i;have hsg:seq g i=seq f i+seq [evV g c] i:=by rw [hf,qI];grind
  have hcon:Sg.Bd B (seq [evV g c] i):=by
   cases i with
   | zero=>exact hcv
   | succ i=>exact ⟨by show -B≤(0:Rat);grind,by show (0:Rat)≤B;exact hB⟩
  have hP:0≤(2*R+3) ^ m:=Rat.pow_nonneg (by grind);have hsh:Sg.Bd (2*B*(2*R+3) ^ m) (sh (seq g1) i):=by
   cases i with
   | zero =>
    have:=kR (show 0≤2*B by grind) hP;exact ⟨by show -_≤(0:Rat);grind,by show (0:Rat)≤_;exact this⟩
   | succ i=>exact hI i
  have hP1:1≤(2*R+3) ^ m:=by
   have:∀ k:Nat,(1:Rat)≤(2*R+3) ^ k:=fun k=>by
    induction k with
    | zero=>rw [Rat.pow_zero];exact Rat.le_refl
    | succ k ihk =>
     rw [Rat.pow_succ];have h6:=cf ihk (show 0≤2*R+3 by grind);grind
   exact this m
  rw [hsg,hs,Rat.pow_succ];refine ((hsh.sub (hcR.mul (hI i))).add hcon).mono ?_;have h7:=aU hP1 hB;generalize (2*R+3) ^ m=P at *
  grind
theorem xB{A x:Rat}(hA:1≤A)(hx:A≤x):∀ p:List Rat,(∀ y ∈ p,Wh y∧Sg.Bd (A-1) y)→tz p≠[]→Big 1 (evV p x):=by
 intro p;induction p with
 | nil=>intro _ h;exact absurd rfl h
 | cons c p ih =>
  intro h h0;obtain ⟨hc1,hc2⟩:=h c (List.mem_cons_self ..);have e:evV (c :: p) x=evV p x*x+c:=rfl;rw [e];by_cases h1:tz p=[]
  ·rw [ay.1 h1 x];have hc0:c≠0:=fun hc=>h0 (ay.2 fun y=>by show evV p y*y+c=0;rw [ay.1 h1 y,hc];grind)
   obtain ⟨z,hz⟩:=Wh.iff.1 hc1;rw [hz] at hc0 ⊢;have hz0:z≠0:=fun h=>hc0 (by rw [h];rfl)
   rcases (show 1≤z∨z≤-1 by omega) with h2|h2
   ·left
    have:((1:Int):Rat)≤(z:Rat):=Rat.intCast_le_intCast.2 h2;have e1:((1:Int):Rat)=1:=rfl;grind
   ·right
    have:(z:Rat)≤((-1:Int):Rat):=Rat.intCast_le_intCast.2 h2;have e1:((-1:Int):Rat)=-1:=rfl;grind
  ·have h2:=ih (fun y hy=>h y (List.mem_cons_of_mem _ hy)) h1;obtain ⟨b1,b2⟩:=hc2;rcases h2 with h3|h3
   ·left
    have h4:=cf h3 (show 0≤x by grind);grind
   ·right
    have h4:=cf h3 (show 0≤x by grind);grind
theorem zq{A X x:Rat}(hA:0≤A)(hx:0≤x)(hX:x≤X):∀ p:List Rat,(∀ y ∈ p,Sg.Bd A y)→Sg.Bd (A*(X+1) ^ p.length) (evV p x):=by
 intro p;induction p with
 | nil =>
  intro _;rw [List.length_nil,Rat.pow_zero,Rat.mul_one];exact ⟨by show -A≤(0:Rat);grind,hA⟩
 | cons c p ih =>
  intro h;have h1:=ih (fun y hy=>h y (List.mem_cons_of_mem _ hy));have h2:=h c (List.mem_cons_self ..);have hP:∀ k:Nat,(1:Rat)≤(X+1) ^ k:=fun k=>by
   induction k with
   | zero=>rw [Rat.pow_zero];exact Rat.le_refl
   | succ k ihk =>
    rw [Rat.pow_succ];have h6:=cf ihk (show 0≤X+1 by grind);grind
  have e:evV (c :: p) x=evV p x*x+c:=rfl;rw [e,List.length_cons,Rat.pow_succ];refine ((h1.mul (show Sg.Bd X x from ⟨by grind,hX⟩)).add h2).mono ?_;have h3:=aU (hP p.length) hA;generalize (X+1) ^ p.length=P at *
  grind
theorem yy{p:List Rat}(h:∀ i,Wh (seq p i)){x:Rat}(hx:Wh x):Wh (evV p x):=by
 have key:∀ p:List Rat,(∀ i,Wh (seq p i))→Wh (evV p x):=by
  intro p;induction p with
  | nil=>intro _;exact Wh.zero
  | cons c p ih=>intro h;exact ((ih fun i=>h (i+1)).mul hx).add (h 0)
 exact key p h
theorem oR{q d:List Rat}{S:Nat}(hq:∀ x ∈ q,Wz S x)(hq0:tz q≠[])(hd:Dv (evV d) (evV q))(hn:q.length≤1000):∀ x ∈ aA d,Wz ((S+1)*(2*q.length+1)) x:=by
 have hd0:tz d≠[]:=fun h0=>by
  obtain ⟨y,hy⟩:=nm hq0;obtain ⟨c,-,h1⟩:=hd;exact hy (by rw [h1,ay.1 h0 y];grind)
 have hdl:=jD hd hq0;have hql:=ag q;obtain ⟨g,hg⟩:∃ g,g=aA d:=⟨_,rfl⟩;have hgg:aA g=g:=by
  rw [hg];exact (dH (p:=d) (q:=aA d) (bL hd0) (fun n=>by rw [df d n];grind)).symm
 obtain ⟨h,hh⟩:∃ h:List Rat,∀ x,evV q x=evV g x*evV h x:=by
  obtain ⟨c,hc,h1⟩:=hd;obtain ⟨h,hh⟩:=hc.smul (bO d);exact ⟨h,fun x=>by rw [h1,←hh,eD d x,hg];grind⟩
 have hqw:∀ i,Wh (seq q i):=fun i=>by rw [(gj hq i).1];exact Wh.int _
 have hhw:=uY hqw hq0 hgg hh;have hgw:∀ i,Wh (seq g i):=fun i=>by
  have:=mY d i;rw [←hg] at this;rw [this];exact Wh.int _
 obtain ⟨A,hA⟩:∃ A:Nat,A=W32 ^ S:=⟨_,rfl⟩;have hA1:1≤A:=by rw [hA];exact nYk au
 have hA1':(1:Rat)≤(A:Rat):=by exact_mod_cast hA1
 obtain ⟨m,hm⟩:∃ m,ln g=m+1:=⟨ln g-1,by
  have:1≤ln g:=eL (by rw [hg,bC];exact fun k=>hd0 (bV.1 k));omega⟩
 have hmq:m+1≤q.length:=by
  have:ln g=(tz d).length:=by show (tz g).length=_;rw [hg,bC,aK]
  omega
 obtain ⟨X,hX⟩:∃ X:Nat,X=A+m:=⟨_,rfl⟩;have hcoef:∀ y ∈ q,Wh y∧Sg.Bd ((A:Rat)-1) y:=fun y hy=>by
  obtain ⟨w1,w2⟩:=hq y hy;refine ⟨w1,?_⟩;rw [w1.eq];have h1:-((A:Int)-1)≤y.num∧y.num≤(A:Int)-1:=by rw [hA];omega
  have h2:=Rat.intCast_le_intCast.2 h1.1;have h3:=Rat.intCast_le_intCast.2 h1.2;rw [Rat.intCast_neg,Rat.intCast_sub,Rat.intCast_natCast] at h2;rw [Rat.intCast_sub,Rat.intCast_natCast] at h3;exact ⟨h2,h3⟩
 have hB:=fun (t:Nat) (ht:t≤m)=>zq (A:=(A:Rat)) (X:=(X:Rat)) (x:=(A:Rat)+(t:Rat)) (by grind) (by
  have:(0:Rat)≤(t:Rat):=by exact_mod_cast Nat.zero_le t
  grind) (by rw [hX,←Rat.natCast_add];exact_mod_cast (show A+t≤A+m by omega)) q (fun y hy=>(hcoef y hy).2.mono (by grind))
 have hval:∀ t:Nat,t≤m→Sg.Bd ((A:Rat)*((X:Rat)+1) ^ q.length) (evV g ((A:Rat)+(t:Rat))):=fun t ht=>by
  have h1:=xB (A:=(A:Rat)) (x:=(A:Rat)+(t:Rat)) hA1' (by
   have:(0:Rat)≤(t:Rat):=by exact_mod_cast Nat.zero_le t
   grind) q hcoef hq0
  have h2:=hB t ht;have hxw:Wh ((A:Rat)+(t:Rat)):=by
   have h3:∀ k:Nat,Wh (k:Rat):=fun k=>Rat.den_natCast k
   exact (h3 A).add (h3 t)
  have hv1:=yy hgw hxw;have hv2:=yy hhw hxw;rw [hh] at h1 h2;generalize evV g ((A:Rat)+(t:Rat))=u at *
  generalize evV h ((A:Rat)+(t:Rat))=v at *
  generalize (A:Rat)*((X:Rat)+1) ^ q.length=C at *
  have hvz:v≠0:=fun h0=>by
   rw [h0,nXz] at h1;rcases h1 with h1|h1 <;> grind
  obtain ⟨z,hz⟩:=Wh.iff.1 hv2;have hz0:z≠0:=fun h=>hvz (by rw [hz,h];rfl)
  obtain ⟨c1,c2⟩:=h2;rcases (show 1≤z∨z≤-1 by omega) with h3|h3
  ·have h4:(1:Rat)≤v:=by
    have:((1:Int):Rat)≤(z:Rat):=Rat.intCast_le_intCast.2 h3;rw [hz];exact this
   rcases tot 0 u with h5|h5
   ·have h6:=aU h4 h5;exact ⟨by grind,by grind⟩
   ·have h6:=aU h4 (show 0≤-u by grind);exact ⟨by grind,by grind⟩
  ·have h4:v≤-1:=by
    have:(z:Rat)≤((-1:Int):Rat):=Rat.intCast_le_intCast.2 h3;rw [hz];exact this
   rcases tot 0 u with h5|h5
   ·have h6:=aU (show 1≤-v by grind) h5;exact ⟨by grind,by grind⟩
   ·have h6:=aU (show 1≤-v by grind) (show 0≤-u by grind);exact ⟨by grind,by grind⟩
 have hXr:∀ t:Nat,t≤m→Sg.Bd (X:Rat) ((A:Rat)+(t:Rat)):=fun t ht=>by
  have h1:(A:Rat)+(t:Rat)≤(X:Rat):=by rw [hX,←Rat.natCast_add];exact_mod_cast (show A+t≤A+m by omega)
  have h2:(0:Rat)≤(A:Rat)+(t:Rat):=by rw [←Rat.natCast_add];exact_mod_cast Nat.zero_le (A+t)
  exact ⟨by grind,h1⟩
 have hX0:(0:Rat)≤(X:Rat):=by exact_mod_cast Nat.zero_le X
 have hC0:(0:Rat)≤(A:Rat)*((X:Rat)+1) ^ q.length:=kR (by grind) (Rat.pow_nonneg (by grind));have hfin:=xQ m g (A:Rat) _ (X:Rat) (by omega) hC0 hX0 hval hXr;have hW:2*X+3≤W32 ^ (S+1):=by
  have e1:W32 ^ (S+1)=A*4294967296:=by rw [nXt,←hA];rfl
  omega
 have hbound:A*(X+1) ^ q.length*(2*X+3) ^ m<W32 ^ ((S+1)*(2*q.length+1)):=by
  have b1:(X+1) ^ q.length≤W32 ^ ((S+1)*q.length):=by rw [Nat.pow_mul];exact Nat.pow_le_pow_left (by omega) _
  have b2:(2*X+3) ^ m≤W32 ^ ((S+1)*m):=by rw [Nat.pow_mul];exact Nat.pow_le_pow_left hW _
  have b3:A*(X+1) ^ q.length*(2*X+3) ^ m≤W32 ^ S*W32 ^ ((S+1)*q.length)*W32 ^ ((S+1)*m):=by
   rw [hA] at *
   exact nXw (nXf _ b1) b2
  refine nYi b3 ?_;rw [←Nat.pow_add,←Nat.pow_add];refine Nat.pow_lt_pow_right (by decide) ?_;have e2:(S+1)*(2*q.length+1)=(S+1)*q.length+(S+1)*q.length+(S+1):=by rw [Nat.mul_add,Nat.mul_one,show 2*q.length=q.length+q.length by omega,Nat.mul_add]
  have e3:(S+1)*m≤(S+1)*q.length:=nXf _ (by omega);omega
 intro x hx;rw [←hg] at hx;obtain ⟨i,hi,rfl⟩:=dA hx;have h1:=hfin i;have hw:=hgw i;refine ⟨hw,?_⟩;have h2:Sg.Bd (((A*(X+1) ^ q.length*(2*X+3) ^ m:Nat):Int):Rat) (((seq g i).num:Int):Rat):=by
  rw [←hw.eq,Rat.intCast_natCast,Rat.natCast_mul,Rat.natCast_mul,Rat.natCast_pow,Rat.natCast_pow,Rat.natCast_add,Rat.natCast_add,Rat.natCast_mul];exact h1
 obtain ⟨c1,c2⟩:=h2;rw [←Rat.intCast_neg] at c1;have c3:=Rat.intCast_le_intCast.1 c1;have c4:=Rat.intCast_le_intCast.1 c2;show (seq g i).num.natAbs<_;omega
end Go.Proofs.YtafgmcimcbhhjaaGreat.Sg
/- Sizes for chains of a polynomial and of its divisors. Plain facts. -/
namespace Go.Proofs.YtafgmcimcbhhjaaGreat
open Go.RowKit Go.Front Go.Num Stab Sg
theorem xf{q:List Rat}{L:Nat}(hq:bj q=q)(hw:∀ x ∈ aA q,Wz L x)(hL:1≤L):∃ D,0<D∧D<W32 ^ L∧FrL L D q:=by
 obtain ⟨D,h1,h2,h3⟩:=kS hw (bC q) hL;rw [(gA q).mon,hq] at h3;exact ⟨D,h1,h2,h3⟩
def KN(K S n:Nat):Prop:=3*((((S+1)*(2*n+1)+2)*(2*n)+(S+1)*(2*n+1)+2)*(2*n+3))≤K
theorem ze{K S S' n n':Nat}(h:3*(((S+2)*(2*n)+S+2)*(2*n+3))≤K)(hS:S'≤S)(hn:n'≤n):KZ K S' n':=by
 right
 refine nXe (nXf 3 (nXw ?_ (by omega))) h;have:(S'+2)*(2*n')≤(S+2)*(2*n):=nXw (by omega) (by omega);omega
theorem KN.kz{K S S' n n':Nat}(h:KN K S n)(hS:S'≤(S+1)*(2*n+1))(hn:n'≤n):KZ K S' n':=ze (S:=(S+1)*(2*n+1)) h hS hn
theorem KN.self{K S n n':Nat}(h:KN K S n)(hn:n'≤n):KZ K S n':=h.kz (by
 have:(S+1)*1≤(S+1)*(2*n+1):=nXf _ (by omega);omega) hn
theorem zx{K S n:Nat}{p q:List Rat}(hp:∀ x ∈ p,Wz S x)(hp0:tz p≠[])(hl:p.length≤n)(hn:n≤1000)(hK:KN K S n)(hd:Dv (evV q) (evV p))(hm:bj q=q):FrK K q:=by
 have h1:=oR hp hp0 hd (by omega);have h2:=jD hd hp0;have h3:=ag p;have h4:tz q=q:=by rw [←hm,dX]
 rw [h4] at h2;have hL:1≤(S+1)*(2*p.length+1):=Nat.mul_pos (by omega) (by omega);have hL2:(S+1)*(2*p.length+1)≤(S+1)*(2*n+1):=nXf _ (by omega);obtain ⟨D,d1,d2,d3⟩:=xf hm h1 hL;exact ⟨_,D,hL,d1,d2,d3,hK.kz hL2 (by omega)⟩
theorem vV{p q:List Rat}(h0:tz p≠[])(h:Dv (evV q) (evV p)):Dv (evV q) (evV (aA p)):=by
 obtain ⟨c,hc,h1⟩:=h;have hm:=bL h0;refine ⟨_,hc.smul (bO p)⁻¹,fun x=>?_⟩;have h2:=eD p x;have h3:=nYh (bO p) (fun k=>by rw [k] at hm;exact absurd hm Rat.lt_irrefl);rw [h1 x] at h2;have h4:(bO p)⁻¹*(evV q x*c x)=evV (aA p) x:=by rw [h2,←nYb,nYa _ (bO p),h3,Rat.one_mul]
 rw [←h4];grind
theorem vt{p:List Rat}(h0:tz p≠[]):Dv (evV (fI p)) (evV p):=by
 obtain ⟨g,q1,hg,-,-,h1,-⟩:=(qx h0).dv;exact ⟨g,hg,fun x=>by rw [h1 x];grind⟩
theorem wA(p:List Rat):bj (fI p)=fI p:=iP _
theorem uJ{K S D n:Nat}{p:List Rat}(hS:1≤S)(hD:0<D)(hD2:D<W32 ^ S)(hf:FrL S D p)(hl:p.length≤n)(hK:KN K S n):FrK K p:=⟨S,D,hS,hD,hD2,hf,hK.self hl⟩
theorem xx{K S D n:Nat}{p:List Rat}(hD:0<D)(hf:FrL S D p)(h0:tz p≠[])(hl:p.length≤n)(hn:n≤1000)(hK:KN K S n):FrK K (fI p):=by
 refine zx (p:=aA p) (eJ (fun x hx=>hf x (ju hx)) hD) (by rw [bC];exact fun k=>h0 (bV.1 k)) ?_ hn hK (vV h0 (vt h0)) (wA p);rw [aK];exact nXe (ag p) hl
end Go.Proofs.YtafgmcimcbhhjaaGreat
