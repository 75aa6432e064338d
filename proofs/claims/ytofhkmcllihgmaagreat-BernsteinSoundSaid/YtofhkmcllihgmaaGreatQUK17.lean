/- Count, Positive of package dspcompilerref06. -/
import Derived.Test.YtofhkmcllihgmaaGreatQUK16
import Derived.Test.YtofhkmcllihgmaaGreatQUK13
import Derived.Test.YtofhkmcllihgmaaGreatQUK14
import Derived.Test.YtofhkmcllihgmaaGreatQUK15
import Derived.Test.YtofhkmcllihgmaaGreatQUK1
import Derived.Test.YtofhkmcllihgmaaGreatQUM1
set_option linter.unusedVariables false
set_option maxRecDepth 8000
set_option maxHeartbeats 8000000
namespace Go.Proofs.YtofhkmcllihgmaaGreat
open Go.RowKit Go.Front Go.Num Stab Sg
attribute [local go_sem] XW.cell XW.frozen
def Fn(A:Prop):Prop:=Unit→A
theorem rP(pa:Option Addr)(P pc:Nat)(l:List Rat)(K:Nat)(s t:RH)(a b:Rat)(T:Nat)(w:World)(h:dU w ⟨pa,P,pc⟩ l)(hP:P≤49)(h0:tz l≠[])(hk:FrK K (tz l))(hK:K≤3900000)(hK2:(P+1)*(K / 3)≤25000000)(hsq:FrK K (sqfV (tz l)))
 (hs:aO w s a)(ht:aO w t b)(za:Sz T a)(zb:Sz T b)(hT3:T≤1000) :
  au 48 [.slice pa P pc,IvV (s,t)] w (fun _:Unit=>.tuple #[.int .i64 (uL (tz l) (loV a b) (hiV a b)),.int .i64 0]) (fun _ _=>True):=by
 obtain ⟨sn,sa,sl,sc,sb,sm,sd⟩:=s;obtain ⟨tn,ta,tl,tc,tb,tm,td⟩:=t;have HX:=Hi (Ext.refl w);have LP:=Hi h;have LPw:=Hi h;have HS:=Hi hs;have HT:=Hi ht;have hlen:=h.len;simp only at hlen;have HKp:=Hi hk;have HKs:=Hi hsq;have h00:tz (tz l)≠[]:=by rw [bi];exact h0
 have H0:=Hi h00;have hq0:=(pw h00).ne;have ZA:Hid (Sz T (loV a b)):=Hi (by rcases ox a b with e|e <;> rw [e] <;> assumption);have ZB:Hid (Sz T (hiV a b)):=Hi (by rcases rK a b with e|e <;> rw [e] <;> assumption);obtain ⟨N,hN⟩:∃ N,N=(tz l).length:=⟨_,rfl⟩;have hN1:1≤N:=by rw [hN];exact List.length_pos_iff.2 h0
 have hN2:N≤49:=by rw [hN];have:=aj l;omega
 have HN:=Hi hN;obtain ⟨q,hq⟩:∃ q,q=sqfV (tz l):=⟨_,rfl⟩;have hql:q.length≤49:=by rw [hq];have:=zy h00;have:=aj l;omega
 rw [←hq] at hq0 hsq;obtain ⟨U,E,hU,hE,hE2,hfU,hUK⟩:=hsq;have hUs:=KZ.small hUK;have HFU:=Hi hfU;have HUK:=Hi hUK;have HQ0:=Hi hq0;obtain ⟨lo,hlo⟩:∃ lo,lo=loV a b:=⟨_,rfl⟩;obtain ⟨hi,hhi⟩:∃ hi,hi=hiV a b:=⟨_,rfl⟩;rw [←hlo] at ZA;rw [←hhi] at ZB;have HMA:Hid (Mz (nB q) lo):=Hi (uO hU hE hfU (by omega) hq0 hUK (by omega) ZA.out (by omega));have HMB:Hid (Mz (nB q) hi):=Hi (uO hU hE hfU (by omega) hq0 hUK (by omega) ZB.out (by omega));have HSQ:Hid (SzL 40000000 q):=Hi ((hfU.sz hU hE hE2).mono (by omega));have HEV:Hid (∀ k,k≤q.length→Sz 40000000 (evV (q.drop k) lo)):=Hi (fun k hk=>(qp hfU ZA.out hU hE hE2 k).mono (by
  have:q.length*(T+1)≤49*1001:=Nat.mul_le_mul hql (by omega);omega))
 have v1:=o7 (nB q) lo;have v2:=o7 (nB q) hi;have hml:=HMA.out.ln;obtain ⟨r,hr⟩:∃ r:Int,r=(gu (nB q) lo:Int)-gu (nB q) hi:=⟨_,rfl⟩;have hr1:-1000≤r∧r≤1000:=by omega
 have HR:=Hi hr;have HCN:Hid (Fn (uL (tz l) (loV a b) (hiV a b)=r+(if Sg.sg (evV q lo)=0 then 1 else 0))):=Hi (fun _=>by rw [hr,←hlo,←hhi,hq];rfl);have HQE:=Hi hq;have HLO:=Hi hlo;have HHI:=Hi hhi;clear h hs ht hk h0 h00 za zb hlo hhi hlen hN hq hq0 hfU hUK v1 v2 hml hr;unfold au;go_enter Tryz.func48,Tryz.ntmps48
 go_upto_region 1 with fail
 refine nmA ?_;intro w1 hE B3 hz_w1 hr_w1;refine mV4 hE ?_ HX LP HS HT;clear HX LP HS HT;intro HX LP HS HT;have hs_w1:=hE.size;clear hE;replace b_B3:=Front.b3 B3
 go_wp2_with fail
 refine cM (ey pa P pc l _ LP.out (by omega)) fun x10 w10 hE _=>?_
 refine mV5 hE ?_ B3 HX LP HS HT;clear B3 HX LP HS HT;intro B3 HX LP HS HT
 have hs_w10:=hE.size;clear hE;replace b_B3:=Front.b3 B3;rw [←HN.out];have hg1:¬ (48:Int)<(N:Int)-1:=by omega
 have hg2:¬ (N:Int)-1<0:=by omega
 go_wp2_with fail
 refine cM (bG ⟨sn,sa,sl,sc,sb,sm,sd⟩ ⟨tn,ta,tl,tc,tb,tm,td⟩ a b _ HS.out HT.out) fun x18 w18 hE G18=>?_
 refine mV5 hE ?_ B3 HX LP HS HT;clear B3 HX LP HS HT;intro B3 HX LP HS HT
 have hs_w18:=hE.size;clear hE;replace b_B3:=Front.b3 B3;obtain ⟨⟨ln,la,ll,lc,lb,lm,ld⟩,⟨hn,ha,hl,hc,hb,hm,hd⟩⟩:=x18;rw [←HLO.out,←HHI.out] at G18;have HL:=Hi G18.out.1;have HH:=Hi G18.out.2;clear G18 hg1 hg2;clear HS;clear HT;clear LP
 go_upto_region 7 with fail
 refine bK B3.out rfl ?_;intro w19 T;replace HX:=Hi (T.ext HX.out (by omega));replace B3:=Hi (T.bx);replace HL:=Hi (HL.out.keep T.keep);replace HH:=Hi (HH.out.keep T.keep);have hs_w19:=nle T.size;have hr_w19:=nle T.size.symm;clear T;replace b_B3:=Front.b3 B3
 go_wp2_with fail
 refine cM (sS pa P pc l K _ (LPw.out.ext HX.out) (by omega) H0.out HKp.out hK hK2 HKs.out) fun x20 w20 hE G20=>?_
 refine mV4 hE ?_ HX B3 HL HH;clear HX B3 HL HH;intro HX B3 HL HH
 have hs_w20:=hE.size;clear hE;replace b_B3:=Front.b3 B3;obtain ⟨qa,qn,qc⟩:=x20;rw [←HQE.out] at G20;have LQ:=Hi G20.out.lin;have hqn:qn≤49:=by have h1:=G20.out.len;simp only at h1;omega
 have HQl:Hid (q.length=qn):=Hi G20.out.len;clear G20;simp only [SH.v]
 go_upto_region 8 with fail
 have HUK2:Hid (KZ K U qn):=Hi (by rw [←HQl.out];exact HUK.out);refine wpG 7 (fun opIx=>match opIx with
  | 1=>.spec (SH) (default) (SH.v) (fun x w'=>ChR w' x (nB q))
  | 6=>.spec Unit () (fun _=>.int .i64 r) (fun _ _=>True)
  | _=>.quiet) (fun|6=>[1]|_=>[]) fun w0 he0 hz0 hc0 hf0=>?_
 refine wps he0.out rfl rfl (fun w1 hW hG=>?_) fun x30=>?_
 ·exact spc [.slice qa qn qc] Tryz.func124 (rR qa qn qc q U E K _ (LQ.out.can.ext hW) (by omega) HQ0.out hU hE hE2 HFU.out HUK2.out (by omega))
 refine qZ ?_;refine wps he0.out rfl rfl (fun w1 hW hG=>?_) fun x31=>?_
 ·have g30:=(hG 1 (by decide):ay _ _).get fun _ e g=>g.ext e
  exact spc [x30.v,RH.v ⟨ln,la,ll,lc,lb,lm,ld⟩,RH.v ⟨hn,ha,hl,hc,hb,hm,hd⟩] Tryz.func123 ((by rw [HR.out];exact ru x30 (nB q) ⟨ln,la,ll,lc,lb,lm,ld⟩ ⟨hn,ha,hl,hc,hb,hm,hd⟩ lo hi _ g30 HMA.out HMB.out (HL.out.ext hW) (HH.out.ext hW) (ZA.out.mono (by omega)) (ZB.out.mono (by omega))))
 refine qZ ?_;refine wpF_nil ?_;intro w21 hI;have hE:=he0.out.trans hI.ext;have G30:=gT (hI.facts 1);clear hI he0 hz0 hc0 hf0;refine mV5 hE ?_ HX B3 LQ HL HH;clear HX B3 LQ HL HH;intro HX B3 LQ HL HH;have hs_w21:=hE.size;clear hE;replace b_B3:=Front.b3 B3;simp only [pD];clear G30
 go_wp2_with fail
 refine cM (fS qa qn qc q ⟨ln,la,ll,lc,lb,lm,ld⟩ lo _ LQ.out.can HL.out (by omega) HSQ.out (ZA.out.mono (by omega)) HEV.out) fun x31 w31 hE G31=>?_
 refine mV5 hE ?_ HX B3 LQ HL HH;clear HX B3 LQ HL HH;intro HX B3 LQ HL HH
 have hs_w31:=hE.size;clear hE;replace b_B3:=Front.b3 B3
 go_wp2_with fail
 refine cM (cL x31 (evV q lo) _ (G31.out.raw (HEV.out 0 (Nat.zero_le _)) (by decide))) fun x32 w32 hE _=>?_
 refine mV6 hE ?_ G31 HX B3 LQ HL HH;clear G31 HX B3 LQ HL HH;intro G31 HX B3 LQ HL HH
 have hs_w32:=hE.size;clear hE;replace b_B3:=Front.b3 B3;rw [k9];obtain ⟨z,hz⟩:∃ z,z=Sg.sg (evV q lo):=⟨_,rfl⟩;have HCN2:Hid (Fn (uL (tz l) (loV a b) (hiV a b)=r+(if z=0 then 1 else 0))):=Hi (fun _=>by rw [HCN.out (),hz]);have hzs:=ri (evV q lo);rw [←hz] at hzs ⊢;clear hz HCN;clear G31;by_cases h1:z=0
 case pos =>
  subst h1;have HE2:Hid (Fn (uL (tz l) (loV a b) (hiV a b)=r+1)):=Hi (fun _=>by rw [HCN2.out (),if_pos rfl]);clear HCN2;go_wp2;exact bodyPost_ret (v:=.tuple #[.int .i64 (uL (tz l) (loV a b) (hiV a b)),.int .i64 0]) (by rw [HE2.out ()];simp [results,Tryz.results48,go_sem]) rfl ⟨(),rfl,HX.out,trivial⟩
 have hzb:(z == 0)=false:=by rw [beq_eq_false_iff_ne];exact h1
 have HE2:Hid (Fn (uL (tz l) (loV a b) (hiV a b)=r)):=Hi (fun _=>by rw [HCN2.out (),if_neg h1];omega);clear HCN2;go_wp2;exact bodyPost_ret (v:=.tuple #[.int .i64 (uL (tz l) (loV a b) (hiV a b)),.int .i64 0]) (by rw [HE2.out ()];simp [results,Tryz.results48,go_sem]) rfl ⟨(),rfl,HX.out,trivial⟩
theorem oK(pa:Option Addr)(P pc:Nat)(l:List Rat)(v:Value)(s t:RH)(w:World)(h:dU w ⟨pa,P,pc⟩ l)(hP:P≤1000000)(h0:tz l=[]) :
  au 48 [.slice pa P pc,IvV (s,t)] w (fun _:Unit=>.tuple #[.int .i64 0,.int .i64 3]) (fun _ _=>True):=by
 have HX:=Hi (Ext.refl w);have LP:=Hi h;have H0:=Hi h0;obtain ⟨sn,sa,sl,sc,sb,sm,sd⟩:=s;obtain ⟨tn,ta,tl,tc,tb,tm,td⟩:=t;clear h h0;unfold au;go_enter Tryz.func48,Tryz.ntmps48
 go_upto_region 1 with fail
 refine nmA ?_;intro w1 hE B3 hz_w1 hr_w1;refine mV2 hE ?_ HX LP;clear HX LP;intro HX LP;have hs_w1:=hE.size;clear hE;replace b_B3:=Front.b3 B3
 go_wp2_with fail
 refine cM (ey pa P pc l _ LP.out (by omega)) fun x10 w10 hE _=>?_
 refine mV3 hE ?_ B3 HX LP;clear B3 HX LP;intro B3 HX LP
 have hs_w10:=hE.size;clear hE;replace b_B3:=Front.b3 B3;rw [H0.out];simp only [List.length_nil];go_wp2;exact bodyPost_ret (v:=.tuple #[.int .i64 0,.int .i64 3]) (by simp [results,Tryz.results48,go_sem]) rfl ⟨(),rfl,HX.out,trivial⟩
def og(l:List Rat)(a b:Rat):Bool:=if tz l=[] then false else decide (uL (tz l) (loV a b) (hiV a b)=0∧0<Sg.sg (evV l a))
theorem fi(pa:Option Addr)(P pc:Nat)(l:List Rat)(K:Nat)(s t:RH)(a b:Rat)(T:Nat)(w:World)(h:dU w ⟨pa,P,pc⟩ l)(hP:P≤49)(hk:FrK K (tz l))(hK:K≤3900000)(hK2:(P+1)*(K / 3)≤25000000)(hsq:FrK K (sqfV (tz l)))
 (hs:aO w s a)(ht:aO w t b)(za:Sz T a)(zb:Sz T b)(hT3:T≤1000)(hz:SzL 40000000 l)(hE:∀ k,k≤l.length→Sz 40000000 (evV (l.drop k) a)) :
  au 37 [.slice pa P pc,IvV (s,t)] w (fun _:Unit=>.tuple #[.bool (og l a b),.int .i64 0]) (fun _ _=>True):=by
 obtain ⟨sn,sa,sl,sc,sb,sm,sd⟩:=s;obtain ⟨tn,ta,tl,tc,tb,tm,td⟩:=t;have HX:=Hi (Ext.refl w);have LP:=Hi h;have HS:=Hi hs;have HT:=Hi ht;have hlen:=h.len;simp only at hlen;have HKp:=Hi hk;have HKs:=Hi hsq;have ZA:=Hi za;have ZB:=Hi zb;have HZ:=Hi hz;have HEV:=Hi hE;obtain ⟨N,hN⟩:∃ N,N=(tz l).length:=⟨_,rfl⟩;have hN2:N≤49:=by rw [hN];have:=aj l;omega
 have HN:=Hi hN;clear h hs ht hk hsq za zb hlen hN hz hE;unfold au;go_enter Tryz.func37,Tryz.ntmps37
 go_upto_region 1 with fail
 refine nmA ?_;intro w1 hE B3 hz_w1 hr_w1
 refine mV4 hE ?_ HX LP HS HT;clear HX LP HS HT;intro HX LP HS HT
 have hs_w1:=hE.size;clear hE;replace b_B3:=Front.b3 B3
 go_wp2_with fail
 refine cM (ey pa P pc l _ LP.out (by omega)) fun x9 w9 hE _=>?_
 refine mV5 hE ?_ B3 HX LP HS HT;clear B3 HX LP HS HT;intro B3 HX LP HS HT
 have hs_w9:=hE.size;clear hE;replace b_B3:=Front.b3 B3;rw [←HN.out];have hg1:¬ (48:Int)<(N:Int)-1:=by omega
 by_cases h0:tz l=[]
 case pos =>
  have H0:=Hi h0;have HV:Hid (Fn (og l a b=false)):=Hi (fun _=>by unfold og;rw [if_pos H0.out]);clear h0
  go_wp2_with fail
  refine cM (oK pa P pc l (.int .i64 0) ⟨sn,sa,sl,sc,sb,sm,sd⟩ ⟨tn,ta,tl,tc,tb,tm,td⟩ _ LP.out (by omega) H0.out) fun x14 w14 hE _=>?_
  refine mV5 hE ?_ B3 HX LP HS HT;clear B3 HX LP HS HT;intro B3 HX LP HS HT
  have hs_w14:=hE.size;clear hE;replace b_B3:=Front.b3 B3;go_wp2;exact bodyPost_ret (v:=.tuple #[.bool (og l a b),.int .i64 0]) (by rw [HV.out ()];simp [results,Tryz.results37,go_sem]) rfl ⟨(),rfl,HX.out,trivial⟩
 have H0:=Hi h0;clear h0
 go_wp2_with fail
 refine cM (rP pa P pc l K ⟨sn,sa,sl,sc,sb,sm,sd⟩ ⟨tn,ta,tl,tc,tb,tm,td⟩ a b T _ LP.out hP H0.out HKp.out hK hK2 HKs.out HS.out HT.out ZA.out ZB.out hT3) fun x14 w14 hE _=>?_
 refine mV5 hE ?_ B3 HX LP HS HT;clear B3 HX LP HS HT;intro B3 HX LP HS HT
 have hs_w14:=hE.size;clear hE;replace b_B3:=Front.b3 B3;obtain ⟨n,hn⟩:∃ n,n=uL (tz l) (loV a b) (hiV a b):=⟨_,rfl⟩;have HNN:=Hi hn;rw [←hn];clear hn;by_cases h1:n=0
 case neg =>
  have hb1:(n == 0)=false:=by rw [beq_eq_false_iff_ne];exact h1
  have HV:Hid (Fn (og l a b=false)):=Hi (fun _=>by unfold og;rw [if_neg H0.out,←HNN.out];exact decide_eq_false (fun h=>h1 h.1));go_wp2;exact bodyPost_ret (v:=.tuple #[.bool (og l a b),.int .i64 0]) (by rw [HV.out ()];simp [results,Tryz.results37,go_sem]) rfl ⟨(),rfl,HX.out,trivial⟩
 subst h1
 go_wp2_with fail
 refine cM (ui pa P pc l ⟨sn,sa,sl,sc,sb,sm,sd⟩ a _ LP.out HS.out (by omega) HZ.out (ZA.out.mono (by omega)) HEV.out) fun x27 w27 hE G27=>?_
 refine mV5 hE ?_ B3 HX LP HS HT;clear B3 HX LP HS HT;intro B3 HX LP HS HT;have hs_w27:=hE.size;clear hE;replace b_B3:=Front.b3 B3
 go_wp2_with fail
 refine cM (cL x27 (evV l a) _ (G27.out.raw (HEV.out 0 (Nat.zero_le _)) (by decide))) fun x28 w28 hE _=>?_
 refine mV6 hE ?_ G27 B3 HX LP HS HT;clear G27 B3 HX LP HS HT;intro G27 B3 HX LP HS HT
 have hs_w28:=hE.size;clear hE;replace b_B3:=Front.b3 B3;rw [k9];have hzs:=ri (evV l a);obtain ⟨z,hz⟩:∃ z,z=Sg.sg (evV l a):=⟨_,rfl⟩;have HV:Hid (Fn (og l a b=decide (0<z))):=Hi (fun _=>by
  unfold og;rw [if_neg H0.out,←HNN.out,hz];by_cases h:0<Sg.sg (evV l a)
  ·rw [decide_eq_true h];exact decide_eq_true ⟨rfl,h⟩
  ·rw [decide_eq_false h];exact decide_eq_false (fun k=>h k.2))
 rw [←hz] at hzs ⊢;clear hz;go_wp2;exact bodyPost_ret (v:=.tuple #[.bool (og l a b),.int .i64 0]) (by rw [HV.out ()];simp [results,Tryz.results37,go_sem]) rfl ⟨(),rfl,HX.out,trivial⟩
end Go.Proofs.YtofhkmcllihgmaaGreat
/- The divisors of a polynomial with whole coefficients are small: Gauss's lemma, and a polynomial from its values. Plain facts. -/
set_option linter.unusedVariables false
namespace Go.Proofs.YtofhkmcllihgmaaGreat.Sg
open Go.RowKit Go.Front Go.Num Go.Stab Go.Proofs.YtofhkmcllihgmaaGreat Sie
theorem BB{g a b:Rat}(ha:Mu g a)(hb:Mu g b)(h0:a≠0∨b≠0):Mu g (mQ a b):=by
 have habs:∀ {x:Rat},Mu g x→Mu g x.abs:=fun {x} ⟨z,hz,e⟩=>by
  rcases nF x with k|k
  ·exact ⟨z,hz,by rw [k,e]⟩
  ·exact ⟨-z,hz.neg,by rw [k,e];grind⟩
 unfold mQ;by_cases ha0:a=0
 ·rw [if_pos ha0];exact habs hb
 ·rw [if_neg ha0];by_cases hb0:b=0
  ·rw [if_pos hb0];exact ha
  ·rw [if_neg hb0];refine habs ?_;obtain ⟨z,hz,rfl⟩:=ha;obtain ⟨y,hy,rfl⟩:=hb;have hg:g≠0:=fun h=>ha0 (by rw [h];grind)
   have hz0:z≠0:=fun h=>ha0 (by rw [h];grind)
   have hy0:y≠0:=fun h=>hb0 (by rw [h];grind)
   have e:z*g / (y*g)=z / y:=jq hg z hy0;rw [e];have h1:=low (z / y);have h2:=div_cancel (a:=z) hy0;have hq0:z / y≠0:=fun h=>hz0 (by rw [←h2,h];grind)
   have hN:=pM hq0;rw [hz.eq,hy.eq] at h1 h2;rw [hz.eq,hy.eq] at hN ⊢;generalize hq:(z.num:Rat) / (y.num:Rat)=q at *
   -- z den=y num
   have h3:z.num*q.den=y.num*q.num:=by
    have:(z.num:Rat)*(q.den:Rat)=(y.num:Rat)*(q.num:Rat):=by rw [←h1,←h2];grind
    have h4:((z.num*q.den:Int):Rat)=((y.num*q.num:Int):Rat):=by
     rw [Rat.intCast_mul,Rat.intCast_mul,Rat.intCast_natCast];exact this
    exact Rat.intCast_inj.1 h4
   have hd:q.num ∣ z.num:=by
    have h4:q.num ∣ z.num*q.den:=⟨y.num,by rw [h3,Int.mul_comm]⟩;have h5:q.num.natAbs ∣ z.num.natAbs*q.den:=by
     have:=Int.natAbs_dvd_natAbs.2 h4
     rwa [Int.natAbs_mul,Int.natAbs_natCast] at this
    exact Int.natAbs_dvd_natAbs.1 (Nat.Coprime.dvd_of_dvd_mul_right q.reduced h5)
   obtain ⟨k,hk⟩:=hd;refine ⟨(k:Rat),Wh.int k,?_⟩;have h6:=div_cancel (a:=(z.num:Rat)*g) hN;have h7:(z.num:Rat)=(q.num:Rat)*(k:Rat):=by rw [hk,Rat.intCast_mul]
   have h8:((z.num:Rat)*g / (q.num:Rat)-(k:Rat)*g)*(q.num:Rat)=0:=by rw [Rat.sub_eq_add_neg,Rat.add_mul,h6,h7];grind
   rcases Rat.mul_eq_zero.1 h8 with h|h
   ·grind
   ·exact absurd h hN
theorem Aa{g:Rat}(l:List Rat)(h:∀ x ∈ l,Mu g x):Mu g (fo l):=by
 induction l using snoc_ind with
 | h0=>exact Mu.zero g
 | h1 l r ih =>
  rw [fN];have h1:=ih (fun x hx=>h x (List.mem_append_left _ hx));have h2:=h r (by simp);by_cases h3:fo l≠0∨r≠0
  ·exact BB h1 h2 h3
  ·have e1:fo l=0:=Decidable.byContradiction fun h4=>h3 (Or.inl h4)
   have e2:r=0:=Decidable.byContradiction fun h4=>h3 (Or.inr h4)
   rw [e1,e2,qz];exact Mu.zero g
theorem nS(p:List Rat)(i:Nat):seq (aC p) i=(((seq (aC p) i).num:Int):Rat):=by
 rcases Nat.lt_or_ge i (aC p).length with h4|h4
 ·exact (yj p _ (eD h4)).eq
 ·rw [show seq (aC p) i=0 from bs h4];rfl
theorem vL{p:List Rat}(hp:tz p≠[]){t:Int}(h:∀ i,t ∣ (seq (aC p) i).num):t.natAbs=1:=by
 have hm:=br hp;have h1:Mu ((t:Rat)*bO p) (bO p):=Aa (tz p) fun x hx=>by
  obtain ⟨i,hi,rfl⟩:=dR hx;rw [aW];have h2:=d9 p i;obtain ⟨k,hk⟩:=h i;have h3:=nS p i;refine ⟨(k:Rat),Wh.int k,?_⟩;show seq p i=_;rw [h2,h3,hk,Rat.intCast_mul];grind
 obtain ⟨z,hz,e⟩:=h1;have h2:z*(t:Rat)=1:=by
  have h3:(z*(t:Rat)-1)*bO p=0:=by grind
  rcases Rat.mul_eq_zero.1 h3 with h|h
  ·grind
  ·rw [h] at hm;exact absurd hm Rat.lt_irrefl
 rw [hz.eq,←Rat.intCast_mul] at h2;have h4:z.num*t=1:=Rat.intCast_inj.1 h2;exact Int.natAbs_dvd_natAbs.2 (⟨z.num,by rw [←h4,Int.mul_comm]⟩:t ∣ 1) |> fun h=>Nat.dvd_one.1 h
theorem tC:∀ N:Nat,2≤N→∃ r,2≤r∧r ∣ N∧∀ x y:Int,(r:Int) ∣ x*y→(r:Int) ∣ x∨(r:Int) ∣ y:=by
 intro N hN;have key:∀ n:Nat,∀ r,2≤r→r≤n→r ∣ N→∃ r,2≤r∧r ∣ N∧∀ d,d ∣ N→2≤d→r≤d:=by
  intro n;induction n with
  | zero=>intro r h1 h2;omega
  | succ n ih =>
   intro r h1 h2 h3;by_cases h4:∃ d,d ∣ N∧2≤d∧d<r
   ·obtain ⟨d,d1,d2,d3⟩:=h4;exact ih d d2 (by omega) d1
   ·exact ⟨r,h1,h3,fun d d1 d2=>Classical.byContradiction fun h5=>h4 ⟨d,d1,d2,by omega⟩⟩
 obtain ⟨r,h1,h2,h3⟩:=key N N hN (Nat.le_refl N) (Nat.dvd_refl N);refine ⟨r,h1,h2,fun x y h=>?_⟩;have hg:Nat.gcd r x.natAbs=1∨Nat.gcd r x.natAbs=r:=by
  have a1:=Nat.gcd_dvd_left r x.natAbs;have a2:Nat.gcd r x.natAbs ∣ N:=Nat.dvd_trans a1 h2;have a3:=Nat.le_of_dvd (by omega) a1;have a4:0<Nat.gcd r x.natAbs:=Nat.gcd_pos_of_pos_left _ (by omega);rcases Nat.lt_or_ge (Nat.gcd r x.natAbs) 2 with h4|h4
  ·left;omega
  ·right
   have:=h3 _ a2 h4;omega
 have hn:r ∣ x.natAbs*y.natAbs:=by
  have:=Int.natAbs_dvd_natAbs.2 h
  rwa [Int.natAbs_natCast,Int.natAbs_mul] at this
 rcases hg with h4|h4
 ·right
  exact Int.natAbs_dvd_natAbs.1 (by rw [Int.natAbs_natCast];exact Nat.Coprime.dvd_of_dvd_mul_left h4 hn)
 ·left
  exact Int.natAbs_dvd_natAbs.1 (by rw [Int.natAbs_natCast,←h4];exact Nat.gcd_dvd_right _ _)
theorem ng{r:Int}{f:Nat→Int}(h:∃ i,¬ r ∣ f i):∃ i,¬ r ∣ f i∧∀ j,j<i→r ∣ f j:=by
 obtain ⟨i,hi⟩:=h;induction i using Nat.strongRecOn with
 | _ i ih =>
  by_cases h2:∃ j,j<i∧¬ r ∣ f j
  ·obtain ⟨j,h3,h4⟩:=h2;exact ih j h3 h4
  ·exact ⟨i,hi,fun j hj=>Decidable.byContradiction fun h=>h2 ⟨j,hj,h⟩⟩
theorem wR{r:Int}{n:Nat}{f:Nat→Int}(h:∀ i,i<n→r ∣ f i):r ∣ gS n f:=by
 induction n with
 | zero=>exact ⟨0,by simp [gS]⟩
 | succ n ih=>exact Int.dvd_add (ih fun i hi=>h i (by omega)) (h n (Nat.lt_succ_self n))
theorem wS{r:Int}:∀ {n:Nat} {f:Nat→Int} {k:Nat},k<n→(∀ i,i<n→i≠k→r ∣ f i)→r ∣ gS n f→r ∣ f k:=by
 intro n;induction n with
 | zero=>intro f k h;omega
 | succ n ih =>
  intro f k hk h hs;have hs':r ∣ gS n f+f n:=hs;by_cases h1:k=n
  ·subst h1;exact (Int.dvd_add_right (wR fun i hi=>h i (by omega) (by omega))).1 hs'
  ·exact ih (by omega) (fun i hi hne=>h i (by omega) hne) ((Int.dvd_add_left (h n (Nat.lt_succ_self n) (by omega))).1 hs')
theorem Dg{r:Nat}(hr:∀ x y:Int,(r:Int) ∣ x*y→(r:Int) ∣ x∨(r:Int) ∣ y){f g:Nat→Int}(hf:∃ i,¬ (r:Int) ∣ f i)(hg:∃ i,¬ (r:Int) ∣ g i):∃ n,¬ (r:Int) ∣ gS (n+1) (fun i=>f i*g (n-i)):=by
 obtain ⟨a,ha,ha2⟩:=ng hf;obtain ⟨b,hb,hb2⟩:=ng hg;refine ⟨a+b,fun h=>?_⟩;have h1:=wS (k:=a) (by omega) (fun i hi hne=>?_) h
 ·rw [show a+b-a=b by omega] at h1;rcases hr _ _ h1 with h2|h2
  ·exact ha h2
  ·exact hb h2
 ·rcases Nat.lt_or_ge i a with h2|h2
  ·exact Int.dvd_mul_of_dvd_left (ha2 i h2)
  ·exact Int.dvd_mul_of_dvd_right (hb2 (a+b-i) (by omega))
theorem xJ{q g h:List Rat}(hq:∀ i,Wh (seq q i))(hq0:tz q≠[])(hg:aC g=g)(he:∀ x,evV q x=evV g x*evV h x):∀ i,Wh (seq h i):=by
 have hg0:tz g≠[]:=fun h0=>by
  obtain ⟨y,hy⟩:=rD hq0;exact hy (by rw [he,ev_tznil.1 h0 y];grind)
 have hh0:tz h≠[]:=fun h0=>by
  obtain ⟨y,hy⟩:=rD hq0;exact hy (by rw [he,ev_tznil.1 h0 y];grind)
 have whs:=nS;have hc:∀ n,(seq q n)*((bO h).den:Rat)=((bO h).num:Rat)*((gS (n+1) (fun i=>(seq g i).num*(seq (aC h) (n-i)).num):Int):Rat):=fun n=>by
  have h1:=ev_inj (p:=q) (q:=aD g h) (fun x=>by rw [bg,he]) n;rw [h1,dh,fT,mZ];have h2:cv (seq g) (seq h) n=bO h*sm (n+1) (fun i=>(((seq g i).num*(seq (aC h) (n-i)).num:Int):Rat)):=by
   rw [←gx];refine sm_congr fun i hi=>?_
   rw [Rat.intCast_mul,←whs h,d9 h (n-i)];have h3:=whs g i;rw [hg] at h3;rw [←h3];grind
  rw [h2];have h4:=low (bO h);rw [←h4];grind
 have hd:(bO h).den=1:=by
  apply Classical.byContradiction;intro hd;have hd2:2≤(bO h).den:=by have:=(bO h).den_pos;omega
  obtain ⟨r,r1,r2,r3⟩:=tC _ hd2;have hpf:∀ {p:List Rat},tz p≠[]→∃ i,¬ (r:Int) ∣ (seq (aC p) i).num:=fun {p} hp=>Classical.byContradiction fun hn=>by
   have:=vL hp (t:=(r:Int)) (fun i=>Classical.byContradiction fun h=>hn ⟨i,h⟩);rw [Int.natAbs_natCast] at this;omega
  have hgf:=hpf hg0;rw [hg] at hgf;obtain ⟨n,hn⟩:=Dg r3 hgf (hpf hh0);apply hn;have h1:=hc n;rw [(hq n).eq] at h1;have h2:(seq q n).num*(bO h).den=(bO h).num*gS (n+1) (fun i=>(seq g i).num*(seq (aC h) (n-i)).num):=by
   apply Rat.intCast_inj.1;rw [Rat.intCast_mul,Rat.intCast_mul,Rat.intCast_natCast];exact h1
  have h3:(r:Int) ∣ (bO h).num*gS (n+1) (fun i=>(seq g i).num*(seq (aC h) (n-i)).num):=by
   rw [←h2];obtain ⟨k,hk⟩:=r2;exact ⟨(seq q n).num*k,by rw [hk,Int.natCast_mul];grind⟩
  rcases r3 _ _ h3 with h4|h4
  ·exfalso;have h5:r ∣ (bO h).num.natAbs:=by
    have:=Int.natAbs_dvd_natAbs.2 h4
    rwa [Int.natAbs_natCast] at this
   have h6:=Nat.dvd_gcd h5 r2;rw [(bO h).reduced] at h6;have:=Nat.dvd_one.1 h6;omega
  ·exact h4
 intro i;rw [d9 h i];exact Wh.mul hd (by rw [whs h i];exact Wh.int _)
end Go.Proofs.YtofhkmcllihgmaaGreat.Sg
/- The divisors of a polynomial with whole coefficients are small: the bound. Plain facts. -/
set_option linter.unusedVariables false
namespace Go.Proofs.YtofhkmcllihgmaaGreat.Sg
open Go.RowKit Go.Front Go.Num Go.Stab Go.Proofs.YtofhkmcllihgmaaGreat Sie
theorem AI:∀ (m:Nat) (g:List Rat) (a B R:Rat),ln g≤m+1→0≤B→0≤R→(∀ t:Nat,t≤m→Sg.Bd B (evV g (a+(t:Rat))))→(∀ t:Nat,t≤m→Sg.Bd R (a+(t:Rat)))→∀ i,Sg.Bd (B*(2*R+3) ^ m) (seq g i):=by
 intro m;induction m with
 | zero =>
  intro g a B R hl hB hR hv hp i;rw [Rat.pow_zero,Rat.mul_one];cases i with
  | zero=>rw [←j7 hl (a+((0:Nat):Rat))];exact hv 0 (Nat.le_refl 0)
  | succ i=>rw [A2 (by omega)];exact ⟨by grind,hB⟩
 | succ m ih =>
  intro g a B R hl hB hR hv hp i;obtain ⟨c,hc⟩:∃ c,c=a+((m+1:Nat):Rat):=⟨_,rfl⟩;have hcv:=hv (m+1) (Nat.le_refl _);have hcR:=hp (m+1) (Nat.le_refl _);rw [←hc] at hcv hcR;have one:∀ t:Rat,∀ x,evV [t] x=t:=fun t x=>by show 0*x+t=t;grind
  obtain ⟨f,hf⟩:∃ f,f=ib g [evV g c]:=⟨_,rfl⟩;have hfx:∀ x,evV f x=evV g x-evV g c:=fun x=>by rw [hf,eV,one]
  obtain ⟨g1',⟨g1,rfl⟩,h1⟩:=yN (Pf.ev f) (a:=c) (by rw [hfx];grind);have hlf:ln f≤m+2:=by
   have h2:=iq g [evV g c];have h3:ln [evV g c]≤1:=aj [evV g c];rw [hf];omega
  have hl1:ln g1≤m+1:=by
   by_cases h2:tz g1=[]
   ·show (tz g1).length≤_;rw [h2];exact Nat.zero_le _
   ·have h3:=tx h1 h2;have h4:ln g1<ln f:=h3;omega
  have hmul:∀ d y:Rat,1≤d→Sg.Bd (2*B) (d*y)→Sg.Bd (2*B) y:=fun d y hd hb=>by
   rcases tot 0 y with h|h
   ·have h2:=mul_le hd h;exact ⟨by grind,by have:=hb.2;grind⟩
   ·have h2:=mul_le hd (show 0≤-y by grind);exact ⟨by have:=hb.1;grind,by grind⟩
  have hv1:∀ t:Nat,t≤m→Sg.Bd (2*B) (evV g1 (a+(t:Rat))):=fun t ht=>by
   have h2:=h1 (a+(t:Rat));rw [hfx] at h2;have h3:((m+1:Nat):Rat)-(t:Rat)=((m+1-t:Nat):Rat):=by
    have:((m+1:Nat):Rat)=((m+1-t:Nat):Rat)+(t:Rat):=by rw [←Rat.natCast_add];congr 1;omega
    grind
   have h4:(1:Rat)≤((m+1-t:Nat):Rat):=by exact_mod_cast (show 1≤m+1-t by omega)
   refine hmul _ _ h4 ?_;have h5:((m+1-t:Nat):Rat)*evV g1 (a+(t:Rat))=-(evV g (a+(t:Rat))-evV g c):=by rw [h2,←h3,hc];grind
   rw [h5,show (2:Rat)*B=B+B by grind];exact ((hv t (by omega)).sub hcv).neg
  have hI:=ih g1 a (2*B) R hl1 (by grind) hR hv1 (fun t ht=>hp t (by omega));have hs:=tw h1 i;have hsg:seq g i=seq f i+seq [evV g c] i:=by rw [hf,sE];grind
  have hcon:Sg.Bd B (seq [evV g c] i):=by
   cases i with
   | zero=>exact hcv
   | succ i=>exact ⟨by show -B≤(0:Rat);grind,by show (0:Rat)≤B;exact hB⟩
  have hP:0≤(2*R+3) ^ m:=Rat.pow_nonneg (by grind);have hsh:Sg.Bd (2*B*(2*R+3) ^ m) (sh (seq g1) i):=by
   cases i with
   | zero =>
    have:=wG (show 0≤2*B by grind) hP;exact ⟨by show -_≤(0:Rat);grind,by show (0:Rat)≤_;exact this⟩
   | succ i=>exact hI i
  have hP1:1≤(2*R+3) ^ m:=by
   have:∀ k:Nat,(1:Rat)≤(2*R+3) ^ k:=fun k=>by
    induction k with
    | zero=>rw [Rat.pow_zero];exact Rat.le_refl
    | succ k ihk =>
     rw [Rat.pow_succ];have h6:=mul_le ihk (show 0≤2*R+3 by grind);grind
   exact this m
  rw [hsg,hs,Rat.pow_succ];refine ((hsh.sub (hcR.mul (hI i))).add hcon).mono ?_;have h7:=eo hP1 hB;generalize (2*R+3) ^ m=P at *
  grind
theorem Au{A x:Rat}(hA:1≤A)(hx:A≤x):∀ p:List Rat,(∀ y ∈ p,Wh y∧Sg.Bd (A-1) y)→tz p≠[]→Big 1 (evV p x):=by
 intro p;induction p with
 | nil=>intro _ h;exact absurd rfl h
 | cons c p ih =>
  intro h h0;obtain ⟨hc1,hc2⟩:=h c (List.mem_cons_self ..);have e:evV (c :: p) x=evV p x*x+c:=rfl;rw [e];by_cases h1:tz p=[]
  ·rw [ev_tznil.1 h1 x];have hc0:c≠0:=fun hc=>h0 (ev_tznil.2 fun y=>by show evV p y*y+c=0;rw [ev_tznil.1 h1 y,hc];grind)
   obtain ⟨z,hz⟩:=Wh.iff.1 hc1;rw [hz] at hc0 ⊢;have hz0:z≠0:=fun h=>hc0 (by rw [h];rfl)
   rcases (show 1≤z∨z≤-1 by omega) with h2|h2
   ·left
    have:((1:Int):Rat)≤(z:Rat):=Rat.intCast_le_intCast.2 h2;have e1:((1:Int):Rat)=1:=rfl;grind
   ·right
    have:(z:Rat)≤((-1:Int):Rat):=Rat.intCast_le_intCast.2 h2;have e1:((-1:Int):Rat)=-1:=rfl;grind
  ·have h2:=ih (fun y hy=>h y (List.mem_cons_of_mem _ hy)) h1;obtain ⟨b1,b2⟩:=hc2;rcases h2 with h3|h3
   ·left
    have h4:=mul_le h3 (show 0≤x by grind);grind
   ·right
    have h4:=mul_le h3 (show 0≤x by grind);grind
theorem BV{A X x:Rat}(hA:0≤A)(hx:0≤x)(hX:x≤X):∀ p:List Rat,(∀ y ∈ p,Sg.Bd A y)→Sg.Bd (A*(X+1) ^ p.length) (evV p x):=by
 intro p;induction p with
 | nil =>
  intro _;rw [List.length_nil,Rat.pow_zero,Rat.mul_one];exact ⟨by show -A≤(0:Rat);grind,hA⟩
 | cons c p ih =>
  intro h;have h1:=ih (fun y hy=>h y (List.mem_cons_of_mem _ hy));have h2:=h c (List.mem_cons_self ..);have hP:∀ k:Nat,(1:Rat)≤(X+1) ^ k:=fun k=>by
   induction k with
   | zero=>rw [Rat.pow_zero];exact Rat.le_refl
   | succ k ihk =>
    rw [Rat.pow_succ];have h6:=mul_le ihk (show 0≤X+1 by grind);grind
  have e:evV (c :: p) x=evV p x*x+c:=rfl;rw [e,List.length_cons,Rat.pow_succ];refine ((h1.mul (show Sg.Bd X x from ⟨by grind,hX⟩)).add h2).mono ?_;have h3:=eo (hP p.length) hA;generalize (X+1) ^ p.length=P at *
  grind
theorem Ba{p:List Rat}(h:∀ i,Wh (seq p i)){x:Rat}(hx:Wh x):Wh (evV p x):=by
 have key:∀ p:List Rat,(∀ i,Wh (seq p i))→Wh (evV p x):=by
  intro p;induction p with
  | nil=>intro _;exact Wh.zero
  | cons c p ih=>intro h;exact ((ih fun i=>h (i+1)).mul hx).add (h 0)
 exact key p h
theorem xz{q d:List Rat}{S:Nat}(hq:∀ x ∈ q,Wz S x)(hq0:tz q≠[])(hd:Dv (evV d) (evV q))(hn:q.length≤1000):∀ x ∈ aC d,Wz ((S+1)*(2*q.length+1)) x:=by
 have hd0:tz d≠[]:=fun h0=>by
  obtain ⟨y,hy⟩:=rD hq0;obtain ⟨c,-,h1⟩:=hd;exact hy (by rw [h1,ev_tznil.1 h0 y];grind)
 have hdl:=kY hd hq0;have hql:=aj q;obtain ⟨g,hg⟩:∃ g,g=aC d:=⟨_,rfl⟩;have hgg:aC g=g:=by
  rw [hg];exact (eh (p:=d) (q:=aC d) (br hd0) (fun n=>by rw [d9 d n];grind)).symm
 obtain ⟨h,hh⟩:∃ h:List Rat,∀ x,evV q x=evV g x*evV h x:=by
  obtain ⟨c,hc,h1⟩:=hd;obtain ⟨h,hh⟩:=hc.smul (bO d);exact ⟨h,fun x=>by rw [h1,←hh,dI d x,hg];grind⟩
 have hqw:∀ i,Wh (seq q i):=fun i=>by rw [(gU hq i).1];exact Wh.int _
 have hhw:=xJ hqw hq0 hgg hh;have hgw:∀ i,Wh (seq g i):=fun i=>by
  have:=nS d i;rw [←hg] at this;rw [this];exact Wh.int _
 obtain ⟨A,hA⟩:∃ A:Nat,A=W32 ^ S:=⟨_,rfl⟩;have hA1:1≤A:=by rw [hA];exact Nat.pow_pos aA
 have hA1':(1:Rat)≤(A:Rat):=by exact_mod_cast hA1
 obtain ⟨m,hm⟩:∃ m,ln g=m+1:=⟨ln g-1,by
  have:1≤ln g:=gy (by rw [hg,bL];exact fun k=>hd0 (ct.1 k));omega⟩
 have hmq:m+1≤q.length:=by
  have:ln g=(tz d).length:=by show (tz g).length=_;rw [hg,bL,aP]
  omega
 obtain ⟨X,hX⟩:∃ X:Nat,X=A+m:=⟨_,rfl⟩;have hcoef:∀ y ∈ q,Wh y∧Sg.Bd ((A:Rat)-1) y:=fun y hy=>by
  obtain ⟨w1,w2⟩:=hq y hy;refine ⟨w1,?_⟩;rw [w1.eq];have h1:-((A:Int)-1)≤y.num∧y.num≤(A:Int)-1:=by rw [hA];omega
  have h2:=Rat.intCast_le_intCast.2 h1.1;have h3:=Rat.intCast_le_intCast.2 h1.2;rw [Rat.intCast_neg,Rat.intCast_sub,Rat.intCast_natCast] at h2;rw [Rat.intCast_sub,Rat.intCast_natCast] at h3;exact ⟨h2,h3⟩
 have hB:=fun (t:Nat) (ht:t≤m)=>BV (A:=(A:Rat)) (X:=(X:Rat)) (x:=(A:Rat)+(t:Rat)) (by grind) (by
  have:(0:Rat)≤(t:Rat):=by exact_mod_cast Nat.zero_le t
  grind) (by rw [hX,←Rat.natCast_add];exact_mod_cast (show A+t≤A+m by omega)) q (fun y hy=>(hcoef y hy).2.mono (by grind))
 have hval:∀ t:Nat,t≤m→Sg.Bd ((A:Rat)*((X:Rat)+1) ^ q.length) (evV g ((A:Rat)+(t:Rat))):=fun t ht=>by
  have h1:=Au (A:=(A:Rat)) (x:=(A:Rat)+(t:Rat)) hA1' (by
   have:(0:Rat)≤(t:Rat):=by exact_mod_cast Nat.zero_le t
   grind) q hcoef hq0
  have h2:=hB t ht;have hxw:Wh ((A:Rat)+(t:Rat)):=by
   have h3:∀ k:Nat,Wh (k:Rat):=fun k=>Rat.den_natCast k
   exact (h3 A).add (h3 t)
  have hv1:=Ba hgw hxw;have hv2:=Ba hhw hxw;rw [hh] at h1 h2;generalize evV g ((A:Rat)+(t:Rat))=u at *
  generalize evV h ((A:Rat)+(t:Rat))=v at *
  generalize (A:Rat)*((X:Rat)+1) ^ q.length=C at *
  have hvz:v≠0:=fun h0=>by
   rw [h0,Rat.mul_zero] at h1;rcases h1 with h1|h1 <;> grind
  obtain ⟨z,hz⟩:=Wh.iff.1 hv2;have hz0:z≠0:=fun h=>hvz (by rw [hz,h];rfl)
  obtain ⟨c1,c2⟩:=h2;rcases (show 1≤z∨z≤-1 by omega) with h3|h3
  ·have h4:(1:Rat)≤v:=by
    have:((1:Int):Rat)≤(z:Rat):=Rat.intCast_le_intCast.2 h3;rw [hz];exact this
   rcases tot 0 u with h5|h5
   ·have h6:=eo h4 h5;exact ⟨by grind,by grind⟩
   ·have h6:=eo h4 (show 0≤-u by grind);exact ⟨by grind,by grind⟩
  ·have h4:v≤-1:=by
    have:(z:Rat)≤((-1:Int):Rat):=Rat.intCast_le_intCast.2 h3;rw [hz];exact this
   rcases tot 0 u with h5|h5
   ·have h6:=eo (show 1≤-v by grind) h5;exact ⟨by grind,by grind⟩
   ·have h6:=eo (show 1≤-v by grind) (show 0≤-u by grind);exact ⟨by grind,by grind⟩
 have hXr:∀ t:Nat,t≤m→Sg.Bd (X:Rat) ((A:Rat)+(t:Rat)):=fun t ht=>by
  have h1:(A:Rat)+(t:Rat)≤(X:Rat):=by rw [hX,←Rat.natCast_add];exact_mod_cast (show A+t≤A+m by omega)
  have h2:(0:Rat)≤(A:Rat)+(t:Rat):=by rw [←Rat.natCast_add];exact_mod_cast Nat.zero_le (A+t)
  exact ⟨by grind,h1⟩
 have hX0:(0:Rat)≤(X:Rat):=by exact_mod_cast Nat.zero_le X
 have hC0:(0:Rat)≤(A:Rat)*((X:Rat)+1) ^ q.length:=wG (by grind) (Rat.pow_nonneg (by grind));have hfin:=AI m g (A:Rat) _ (X:Rat) (by omega) hC0 hX0 hval hXr;have hW:2*X+3≤W32 ^ (S+1):=by
  have e1:W32 ^ (S+1)=A*4294967296:=by rw [Nat.pow_succ,←hA];rfl
  omega
 have hbound:A*(X+1) ^ q.length*(2*X+3) ^ m<W32 ^ ((S+1)*(2*q.length+1)):=by
  have b1:(X+1) ^ q.length≤W32 ^ ((S+1)*q.length):=by rw [Nat.pow_mul];exact Nat.pow_le_pow_left (by omega) _
  have b2:(2*X+3) ^ m≤W32 ^ ((S+1)*m):=by rw [Nat.pow_mul];exact Nat.pow_le_pow_left hW _
  have b3:A*(X+1) ^ q.length*(2*X+3) ^ m≤W32 ^ S*W32 ^ ((S+1)*q.length)*W32 ^ ((S+1)*m):=by
   rw [hA] at *
   exact Nat.mul_le_mul (Nat.mul_le_mul_left _ b1) b2
  refine Nat.lt_of_le_of_lt b3 ?_;rw [←Nat.pow_add,←Nat.pow_add];refine Nat.pow_lt_pow_right (by decide) ?_;have e2:(S+1)*(2*q.length+1)=(S+1)*q.length+(S+1)*q.length+(S+1):=by rw [Nat.mul_add,Nat.mul_one,show 2*q.length=q.length+q.length by omega,Nat.mul_add]
  have e3:(S+1)*m≤(S+1)*q.length:=Nat.mul_le_mul_left _ (by omega);omega
 intro x hx;rw [←hg] at hx;obtain ⟨i,hi,rfl⟩:=dR hx;have h1:=hfin i;have hw:=hgw i;refine ⟨hw,?_⟩;have h2:Sg.Bd (((A*(X+1) ^ q.length*(2*X+3) ^ m:Nat):Int):Rat) (((seq g i).num:Int):Rat):=by
  rw [←hw.eq,Rat.intCast_natCast,Rat.natCast_mul,Rat.natCast_mul,Rat.natCast_pow,Rat.natCast_pow,Rat.natCast_add,Rat.natCast_add,Rat.natCast_mul];exact h1
 obtain ⟨c1,c2⟩:=h2;rw [←Rat.intCast_neg] at c1;have c3:=Rat.intCast_le_intCast.1 c1;have c4:=Rat.intCast_le_intCast.1 c2;show (seq g i).num.natAbs<_;omega
end Go.Proofs.YtofhkmcllihgmaaGreat.Sg
/- Sizes for chains of a polynomial and of its divisors. Plain facts. -/
set_option linter.unusedVariables false
namespace Go.Proofs.YtofhkmcllihgmaaGreat
open Go.RowKit Go.Front Go.Num Stab Sg
theorem Ab{q:List Rat}{L:Nat}(hq:bu q=q)(hw:∀ x ∈ aC q,Wz L x)(hL:1≤L):∃ D,0<D∧D<W32 ^ L∧FrL L D q:=by
 obtain ⟨D,h1,h2,h3⟩:=lP hw (bL q) hL;rw [(ie q).mon,hq] at h3;exact ⟨D,h1,h2,h3⟩
def KN(K S n:Nat):Prop:=3*((((S+1)*(2*n+1)+2)*(2*n)+(S+1)*(2*n+1)+2)*(2*n+3))≤K
theorem BM{K S S' n n':Nat}(h:3*(((S+2)*(2*n)+S+2)*(2*n+3))≤K)(hS:S'≤S)(hn:n'≤n):KZ K S' n':=by
 right
 refine Nat.le_trans (Nat.mul_le_mul_left 3 (Nat.mul_le_mul ?_ (by omega))) h;have:(S'+2)*(2*n')≤(S+2)*(2*n):=Nat.mul_le_mul (by omega) (by omega);omega
theorem KN.kz{K S S' n n':Nat}(h:KN K S n)(hS:S'≤(S+1)*(2*n+1))(hn:n'≤n):KZ K S' n':=BM (S:=(S+1)*(2*n+1)) h hS hn
theorem KN.self{K S n n':Nat}(h:KN K S n)(hn:n'≤n):KZ K S n':=h.kz (by
 have:(S+1)*1≤(S+1)*(2*n+1):=Nat.mul_le_mul_left _ (by omega);omega) hn
theorem Cb{K S n:Nat}{p q:List Rat}(hp:∀ x ∈ p,Wz S x)(hp0:tz p≠[])(hl:p.length≤n)(hn:n≤1000)(hK:KN K S n)(hd:Dv (evV q) (evV p))(hm:bu q=q):FrK K q:=by
 have h1:=xz hp hp0 hd (by omega);have h2:=kY hd hp0;have h3:=aj p;have h4:tz q=q:=by rw [←hm,eI]
 rw [h4] at h2;have hL:1≤(S+1)*(2*p.length+1):=Nat.mul_pos (by omega) (by omega);have hL2:(S+1)*(2*p.length+1)≤(S+1)*(2*n+1):=Nat.mul_le_mul_left _ (by omega);obtain ⟨D,d1,d2,d3⟩:=Ab hm h1 hL;exact ⟨_,D,hL,d1,d2,d3,hK.kz hL2 (by omega)⟩
theorem Ca{p q:List Rat}(h0:tz p≠[])(h:Dv (evV q) (evV p)):Dv (evV q) (evV (aC p)):=by
 obtain ⟨c,hc,h1⟩:=h;have hm:=br h0;refine ⟨_,hc.smul (bO p)⁻¹,fun x=>?_⟩;have h2:=dI p x;have h3:=Rat.mul_inv_cancel (bO p) (fun k=>by rw [k] at hm;exact absurd hm Rat.lt_irrefl);rw [h1 x] at h2;have h4:(bO p)⁻¹*(evV q x*c x)=evV (aC p) x:=by rw [h2,←Rat.mul_assoc,Rat.mul_comm _ (bO p),h3,Rat.one_mul]
 rw [←h4];grind
theorem Bh{p:List Rat}(h0:tz p≠[]):Dv (evV (sqfV p)) (evV p):=by
 obtain ⟨g,q1,hg,-,-,h1,-⟩:=(pw h0).dv;exact ⟨g,hg,fun x=>by rw [h1 x];grind⟩
theorem zv(p:List Rat):bu (sqfV p)=sqfV p:=jk _
theorem xr{K S D n:Nat}{p:List Rat}(hS:1≤S)(hD:0<D)(hD2:D<W32 ^ S)(hf:FrL S D p)(hl:p.length≤n)(hK:KN K S n):FrK K p:=⟨S,D,hS,hD,hD2,hf,hK.self hl⟩
theorem Ap{K S D n:Nat}{p:List Rat}(hD:0<D)(hf:FrL S D p)(h0:tz p≠[])(hl:p.length≤n)(hn:n≤1000)(hK:KN K S n):FrK K (sqfV p):=by
 refine Cb (p:=aC p) (fI (fun x hx=>hf x (mS hx)) hD) (by rw [bL];exact fun k=>h0 (ct.1 k)) ?_ hn hK (Ca h0 (Bh h0)) (zv p);rw [aP];exact Nat.le_trans (aj p) hl
end Go.Proofs.YtofhkmcllihgmaaGreat
/- Tape -/
set_option linter.unusedVariables false
namespace Go.Proofs.YtofhkmcllihgmaaGreat
open Go.RowKit Go.Front Go.Num
attribute [local go_sem] XW.cell XW.frozen
def qN(b n:Nat)(ao:Option Addr)(c:Nat)(N:Int)(w:World)(e:Ending)(w':World):Prop :=
 ∃ (v at':Int) (w1:World),e=.returned (.int .i64 v)∧0≤v∧v<N∧0≤at'∧at'≤n∧dN w b 58 #[.slice ao n c,.int .i64 at'] w1∧Ext w1 w'
theorem dN.same{w w':World}{b:Nat}{T:TypeId}{cs:Array Value}(h:w.heap[b]?=some (.cells cs T (0,0))):dN w b T cs w :=
 ⟨dB.refl w,h,fun _ _ _ h=>h,rfl,Below.refl _ _⟩
theorem dN.drewN{w w2:World}{b n:Nat}{T:TypeId}{cs:Array Value}(h:dN (w.drewN n) b T cs w2)(hb:b≤w.heap.size):dN w b T cs w2 :=
 ⟨dB.trans (bD (Ext.drewN w n)) h.keep,h.bx,h.rest,h.size,Below.trans (Below.mono (Ext.drewN w n) hb) h.below⟩
theorem zW{w1:World}{b:Nat}{T:TypeId}{c0 c1 v1:Value}{F:World→Prop}(hb:w1.heap[b]?=some (.cells #[c0,c1] T (0,0)))(hn:#[c0,c1].toList.all eX=true)(h:∀ w2,dN w1 b T #[c0,v1] w2→F w2):F (w1.setCell ⟨b,1,none⟩ v1) :=
 h _ (dN.of (Array.getElem?_eq_some_iff.1 hb).1 (ai hb hn) (aJ.setCell w1 ⟨b,1,none⟩ v1) (by simp [World.setCell]) (aG hb 1 v1))
set_option maxRecDepth 4000 in
set_option maxHeartbeats 1000000 in
theorem wC(b n c:Nat)(ao:Option Addr)(xs:List Int)(at' N:Int)(w:World)(hB:w.heap[b]?=some (.cells #[.slice ao n c,.int .i64 at'] 58 (0,0)))(h:cZ w ao xs)(hr:InR xs)(hl:xs.length=n)(hm:n≤9223372036854775807)(hc:n≤c)(hcm:c≤9223372036854775807)
 (hsep:xs≠[]→∀ p,ao=some p→p.block≠b)(h0:0≤at')(h1:at'≤n)(hN:0<N)(hN2:N≤9223372036854775807) :
  Calls Tryz.prog 33 #[ptr b,.int .i64 N] w (qN b n ao c N w):=by
 obtain ⟨k,rfl⟩:∃ k:Nat,at'=(k:Nat):=⟨at'.toNat,by omega⟩;have HX:=Hi (Ext.refl w);have BT:=Hi hB;have H:=Hi h;have hbl:b<w.heap.size:=(Array.getElem?_eq_some_iff.1 hB).1;clear hB h;simp only [ptr];go_enter Tryz.func33,Tryz.ntmps33;replace b_BT:=Front.b3 BT;by_cases hk:k=n
 ·subst hk
  go_upto_region 1 with fail
  go_quiet (fail)
  go_wp2
  go_ret
  exact ⟨0,(k:Int),w,rfl,by omega,hN,by omega,by omega,dN.same (w':=w) BT.out,Ext.drewN w _⟩
 ·have hkn:(k:Int)<n:=by omega
  have hne:xs≠[]:=by intro h;rw [h] at hl;simp at hl;omega
  obtain ⟨bx,off,hao,hcell⟩:=H.out.at (k:=k) (by omega);have hbx:bx≠b:=hsep hne _ hao;obtain ⟨x,hx⟩:∃ x,x=xs.getD k 0:=⟨_,rfl⟩;have hxr:-9223372036854775808≤x∧x≤9223372036854775807:=by
   refine hr x ?_;rw [hx,show xs.getD k 0=xs[k]'(by omega) by simp [show k<xs.length by omega]];exact List.getElem_mem _
  obtain ⟨hx1,hx2⟩:=hxr;rw [←hx] at hcell;subst hao;have hble:b≤w.heap.size:=by omega
  clear hx hsep hr H hne
  go_upto_region 1 with fail
  go_quiet (fail)
  go_upto_region 4 with fail
  refine zW BT.out rfl ?_;intro w2 T;have T0:=Hi T;replace hcell:=T.cell hbx hcell;have hbl2:bx<w2.heap.size:=World.block_lt_of_cell? _ _ hcell;clear b_BT hbl;replace BT:=Hi T.bx;clear T;have E2:=Hi (Ext.refl w2);replace b_BT:=Front.b3 BT;refine ah 13 (fun opIx=>match opIx with
   | 12=>.spec Unit () (fun _=>.int .i64 (x % N)) (fun _ _=>True)
   | _=>.quiet) (fun _=>[]) (by kernel_rfl) (by kernel_rfl) (fun w0 he0 hz0 hc0 hf0=>?_)
  replace he0:=Hi he0;simp only [pT]
  repeat (first|(refine wpq fun K h=>?_;go_big_quiet_op;refine h _ ?_;clear h K)|(refine fy rfl rfl rfl rfl ?_;simp only [pS]))
  refine wps he0.out rfl rfl (fun w1 hW hG=>?_) fun x12=>?_
  ·exact spc [.int .i64 x,.int .i64 N] Tryz.func40 (fk x N _ hx1 hx2 hN hN2)
  simp only [pS]
  repeat (first|(refine wpq fun K h=>?_;go_big_quiet_op;refine h _ ?_;clear h K)|(refine fy rfl rfl rfl rfl ?_;simp only [pS]))
  refine wpF_nil ?_;intro w3 hI;have hE:=he0.out.trans hI.ext;clear hI he0 hz0 hc0 hf0
  refine mV2 hE ?_ BT E2;clear BT E2;intro BT E2
  have hs_w3:=hE.size;clear hE;replace b_BT:=Front.b3 BT;simp only [pD];have hm1:=Int.emod_nonneg x (show N≠0 by omega);have hm2:=Int.emod_lt_of_pos x hN;go_wp2
  go_ret
  exact ⟨x % N,(k:Int)+1,w2,rfl,hm1,hm2,by omega,by omega,T0.out.drewN hble,E2.out⟩
end Go.Proofs.YtofhkmcllihgmaaGreat
