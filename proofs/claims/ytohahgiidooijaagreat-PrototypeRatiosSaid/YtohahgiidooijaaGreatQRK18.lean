/- Positive for lists of any form. -/
import Derived.Test.YtohahgiidooijaaGreatQRK14
import Derived.Test.YtohahgiidooijaaGreatQRK17
import Derived.Test.YtohahgiidooijaaGreatQRK6
import Derived.Test.YtohahgiidooijaaGreatQRK15
import Derived.Test.YtohahgiidooijaaGreatQRK13
import Derived.Test.YtohahgiidooijaaGreatQRK11
set_option linter.unusedVariables false
set_option maxHeartbeats 8000000
set_option maxRecDepth 8000
namespace Go.Proofs.YtohahgiidooijaaGreat
open Go.RowKit Go.Front Go.Num Stab
attribute [local go_sem] XW.cell XW.frozen
theorem sS(p:List Rat):Sg.remsV (tz p)=Sg.remsV p :=
 (Sg.rems_same (c:=1) (by decide) (fun n=>by rw [aW,Rat.mul_one])).symm
theorem zo(p:List Rat):bt (tz p)=bt p:=Pr.mon ⟨1,by decide,fun n=>by rw [aW,Rat.one_mul]⟩
theorem xA(p:List Rat):Sg.sqfV (tz p)=Sg.sqfV p:=by
 have hd:tz (Sg.derL (tz p))=tz (Sg.derL p):=jk (fun n=>by rw [Sg.seq_derL,Sg.seq_derL,aW]);have hg:cN (tz p) (Sg.derL (tz p))=cN p (Sg.derL p):=by
  rw [←jG,hd,jG];unfold cN;rw [zo]
 have hq:bs (tz p) (cN p (Sg.derL p))=bs p (cN p (Sg.derL p)):=by unfold bs;rw [aT]
 unfold Sg.sqfV;rw [hg,hq]
theorem Bq(p:List Rat)(lo hi:Rat):Sg.cntV (tz p) lo hi=Sg.cntV p lo hi:=by
 have h:Sg.remsV (Sg.rootV (tz p))=Sg.remsV (Sg.rootV p):=by
  unfold Sg.rootV;rw [sS,xA];split
  ·rfl
  ·exact sS p
 unfold Sg.cntV;rw [h]
theorem AN(p:List Rat)(lo hi:Rat):Sg.posV (tz p) lo hi=Sg.posV p lo hi:=by
 unfold Sg.posV;rw [aT,lQ,Bq]
theorem yN{p:List Rat}{lo hi:Rat}(h:lo≤hi):Sg.posV p lo hi=kI p lo hi:=by rw [←AN,Sg.pos_eq h]
open Sg
theorem vD(pa:Option Addr)(P pc:Nat)(p:List Rat)(K:Nat)(s t:RH)(a b:Rat)(T:Nat)(w:World)(h:cx w ⟨pa,P,pc⟩ p)(hP:P≤49)(hk:FrK K p)(hkq:FrK K (sqfV p))(hK:K≤12000000)(hK2:(P+1)*(K / 3)≤25000000)
 (hs:aR w s a)(ht:aR w t b)(za:Sz T a)(zb:Sz T b)(hT:1≤T)(hT3:T≤1000) :
  am 94 [.slice pa P pc,IvV (s,t)] w (fun _:Unit=>.tuple #[.bool (posV p (loV a b) (hiV a b)),.int .i64 0]) (fun _ _=>True):=by
 obtain ⟨sn,sa,sl,sc,sb,sm,sd⟩:=s;obtain ⟨tn,ta,tl,tc,tb,tm,td⟩:=t;have HX:=Hi (Ext.refl w);have LP:=Hi (RIn.of h);have HS:=Hi hs;have HT:=Hi ht;have hlen:=h.len;simp only at hlen;have HKp:=Hi hk;have HKs:=Hi hkq;obtain ⟨S,D,hS,hD,hDW,hF,hSK⟩:=hk;have hSs:=KZ.small hSK;have HF:=Hi hF;have HSW:Hid (∀ y ∈ av p,Wz S y):=Hi (dK (fun x hx=>hF x (gN hx)) hD);have HSl:Hid ((av p).length≤P):=Hi (by rw [ay,←hlen];exact ag p);have ZA:Hid (Sz T (loV a b)):=Hi (by rcases zt a b with e|e <;> rw [e] <;> assumption);have ZB:Hid (Sz T (hiV a b)):=Hi (by rcases zy a b with e|e <;> rw [e] <;> assumption);have HLH:Hid (loV (loV a b) (hiV a b)=loV a b∧hiV (loV a b) (hiV a b)=hiV a b):=Hi ⟨wB (AX a b),wI (AX a b)⟩;obtain ⟨lo,hlo⟩:∃ lo,lo=loV a b:=⟨_,rfl⟩;obtain ⟨hi,hhi⟩:∃ hi,hi=hiV a b:=⟨_,rfl⟩;rw [←hlo] at ZA;rw [←hhi] at ZB;rw [←hlo,←hhi] at HLH;have HLO:=Hi hlo;have HHI:=Hi hhi;have HLn:=Hi hlen;rw [←hlo,←hhi];clear h hs ht hkq za zb hlo hhi hF hSK hlen;unfold am;go_enter Tryz.func94,Tryz.ntmps94
 go_upto_region 1 with fail
 refine nmA ?_;intro w1 hE B3 hz_w1 hr_w1;refine mV4 hE ?_ HX LP HS HT;clear HX LP HS HT;intro HX LP HS HT;have hs_w1:=hE.size;clear hE;replace b_B3:=bX3 B3
 go_wp2_with fail
 refine cM (pC pa P pc p _ LP.out.raw) fun x9 w9 hE _=>?_
 refine mV5 hE ?_ B3 HX LP HS HT;clear B3 HX LP HS HT;intro B3 HX LP HS HT;have hs_w9:=hE.size;clear hE;replace b_B3:=bX3 B3;by_cases h0:tz p=[]
 case pos =>
  have HE:Hid (posV p lo hi=false):=Hi (by unfold posV;rw [if_pos h0]);have HCk:Hid (rR p=3):=Hi (by unfold rR;rw [if_neg (by rw [h0];decide),if_pos h0]);rw [HCk.out];clear h0;go_wp2;exact bodyPost_ret (v:=.tuple #[.bool (posV p lo hi),.int .i64 0]) (by rw [HE.out];simp [results,Tryz.results94,go_sem]) rfl ⟨(),rfl,HX.out,trivial⟩
 have H0:=Hi h0;rw [Bu h0 (by rw [HLn.out];exact hP)];clear h0;have HNV:Hid (posV p lo hi=if Sg.sg (evV (av p) lo)≤0 then false else decide (cntV p lo hi=0)):=Hi (by
  unfold posV;rw [if_neg H0.out])
 go_wp2_with fail
 refine cM (lx ⟨sn,sa,sl,sc,sb,sm,sd⟩ ⟨tn,ta,tl,tc,tb,tm,td⟩ a b _ HS.out HT.out) fun x15 w15 hE G15=>?_
 refine mV5 hE ?_ B3 HX LP HS HT;clear B3 HX LP HS HT;intro B3 HX LP HS HT;have hs_w15:=hE.size;clear hE;replace b_B3:=bX3 B3;obtain ⟨⟨ln,la,ll,lc,lb,lm,ld⟩,⟨hn,ha,hl,hc,hb,hm,hd⟩⟩:=x15;rw [←HLO.out,←HHI.out] at G15;have HL:=Hi G15.out.1;have HH:=Hi G15.out.2;clear G15;clear HS;clear HT
 go_upto_region 7 with fail
 refine ci B3.out rfl ?_;intro w16 T;replace HX:=Hi (T.ext HX.out (by omega));replace LP:=Hi (LP.out.put T (by omega));replace B3:=Hi (T.bx);replace HL:=Hi (HL.out.keep T.keep);replace HH:=Hi (HH.out.keep T.keep);have hs_w16:=nle T.size;have hr_w16:=nle T.size.symm;clear T;replace b_B3:=bX3 B3;obtain ⟨s1,hs1⟩:∃ s1,s1=Sg.sg (evV (av p) lo):=⟨_,rfl⟩;have HS1:=Hi hs1;rw [←hs1] at HNV;clear hs1;refine wpG 6 (fun opIx=>match opIx with
  | 1=>.spec (SH) (default) (SH.v) (fun x w'=>An (av p).length w' x (av p))
  | 4=>.spec Unit () (fun _=>.int .i64 s1) (fun _ _=>True)
  | _=>.quiet) (fun|4=>[1]|_=>[]) fun w0 he0 hz0 hc0 hf0=>?_
 refine wps he0.out rfl rfl (fun w1 hW hG=>?_) fun x20=>?_
 ·exact spc [.slice pa P pc] Tryz.func159 ((jV pa P pc p S D _ (LP.out.ext hW).raw (by omega) hS (by omega) hD hDW HF.out).wk (fun x w' _ h=>(let ⟨_,_,_,_,h4⟩:=h.lin (by have:=HSl.out;omega);⟨h4.can,h4.len.symm⟩)))
 refine qZ ?_;refine wps he0.out rfl rfl (fun w1 hW hG=>?_) fun x21=>?_
 ·have g20:=(hG 1 (by decide):ax _ _).get fun _ e g=>g.ext e
  exact spc [x20.v,RH.v ⟨ln,la,ll,lc,lb,lm,ld⟩] Tryz.func158 ((by rw [HS1.out];exact jU x20.a x20.n x20.c (av p) ⟨ln,la,ll,lc,lb,lm,ld⟩ lo S T _ g20.1 (HL.out.ext hW) (by rw [g20.2];have:=HSl.out;omega) HSW.out ZA.out hT hS (by omega) hT3))
 refine qZ ?_;refine aj ?_;intro w17 hI;have hE:=he0.out.trans hI.ext;have G20:=gT (hI.facts 1);clear hI he0 hz0 hc0 hf0;refine mV5 hE ?_ HX B3 HH LP HL;clear HX B3 HH LP HL;intro HX B3 HH LP HL;have hs_w17:=hE.size;clear hE;replace b_B3:=bX3 B3;simp only [pD];clear G20;by_cases hn1:s1≤0
 case pos =>
  have HE:Hid (posV p lo hi=false):=Hi (by rw [HNV.out,if_pos hn1]);go_wp2;exact bodyPost_ret (v:=.tuple #[.bool (posV p lo hi),.int .i64 0]) (by rw [HE.out];simp [results,Tryz.results94,go_sem]) rfl ⟨(),rfl,HX.out,trivial⟩
 rw [if_neg (fun h=>by omega)] at HNV
 go_wp2_with fail
 refine cM (ri pa P pc p K ⟨ln,la,ll,lc,lb,lm,ld⟩ ⟨hn,ha,hl,hc,hb,hm,hd⟩ lo hi T _ LP.out.raw hP H0.out HKp.out hK hK2 HKs.out (HL.out.raw ZA.out (by omega)) (HH.out.raw ZB.out (by omega)) ZA.out ZB.out hT hT3) fun x25 w25 hE _=>?_
 refine mV5 hE ?_ HX B3 HH LP HL;clear HX B3 HH LP HL;intro HX B3 HH LP HL;have hs_w25:=hE.size;clear hE;replace b_B3:=bX3 B3;rw [HLH.out.1,HLH.out.2];obtain ⟨c,hcc⟩:∃ c,c=cntV p lo hi:=⟨_,rfl⟩;rw [←hcc] at HNV ⊢;clear hcc;by_cases hc0:c=0
 ·have HE:Hid (posV p lo hi=true):=Hi (by rw [HNV.out,decide_eq_true hc0]);subst hc0;go_wp2;exact bodyPost_ret (v:=.tuple #[.bool (posV p lo hi),.int .i64 0]) (by rw [HE.out];simp [results,Tryz.results94,go_sem]) rfl ⟨(),rfl,HX.out,trivial⟩
 ·have HE:Hid (posV p lo hi=false):=Hi (by rw [HNV.out,decide_eq_false hc0]);have hcb:(c == 0)=false:=by rw [nXr];exact hc0
  go_wp2;exact bodyPost_ret (v:=.tuple #[.bool (posV p lo hi),.int .i64 0]) (by rw [HE.out];simp [results,Tryz.results94,go_sem]) rfl ⟨(),rfl,HX.out,trivial⟩
end Go.Proofs.YtohahgiidooijaaGreat
/- The divisors of a polynomial with whole coefficients are small: Gauss's lemma, and a polynomial from its values. Plain facts. -/
namespace Go.Proofs.YtohahgiidooijaaGreat.Sg
open Go.RowKit Go.Front Go.Num Go.Stab Go.Proofs.YtohahgiidooijaaGreat Sie
theorem AV{g a b:Rat}(ha:Mu g a)(hb:Mu g b)(h0:a≠0∨b≠0):Mu g (fK a b):=by
 have habs:∀ {x:Rat},Mu g x→Mu g x.abs:=fun {x} ⟨z,hz,e⟩=>by
  rcases u6 x with k|k
  ·exact ⟨z,hz,by rw [k,e]⟩
  ·exact ⟨-z,hz.neg,by rw [k,e];grind⟩
 unfold fK;by_cases ha0:a=0
 ·rw [if_pos ha0];exact habs hb
 ·rw [if_neg ha0];by_cases hb0:b=0
  ·rw [if_pos hb0];exact ha
  ·rw [if_neg hb0];refine habs ?_;obtain ⟨z,hz,rfl⟩:=ha;obtain ⟨y,hy,rfl⟩:=hb;have hg:g≠0:=fun h=>ha0 (by rw [h];grind)
   have hz0:z≠0:=fun h=>ha0 (by rw [h];grind)
   have hy0:y≠0:=fun h=>hb0 (by rw [h];grind)
   have e:z*g / (y*g)=z / y:=jH hg z hy0;rw [e];have h1:=low (z / y);have h2:=bG (a:=z) hy0;have hq0:z / y≠0:=fun h=>hz0 (by rw [←h2,h];grind)
   have hN:=lk hq0;rw [hz.eq,hy.eq] at h1 h2;rw [hz.eq,hy.eq] at hN ⊢;generalize hq:(z.num:Rat) / (y.num:Rat)=q at *
   -- z den=y num
   have h3:z.num*q.den=y.num*q.num:=by
    have:(z.num:Rat)*(q.den:Rat)=(y.num:Rat)*(q.num:Rat):=by rw [←h1,←h2];grind
    have h4:((z.num*q.den:Int):Rat)=((y.num*q.num:Int):Rat):=by
     rw [Rat.intCast_mul,Rat.intCast_mul,Rat.intCast_natCast];exact this
    exact Rat.intCast_inj.1 h4
   have hd:q.num ∣ z.num:=by
    have h4:q.num ∣ z.num*q.den:=⟨y.num,by rw [h3,Int.mul_comm]⟩;have h5:q.num.natAbs ∣ z.num.natAbs*q.den:=by
     have:=Int.natAbs_dvd_natAbs.2 h4
     rwa [Int.natAbs_mul,nYg] at this
    exact Int.natAbs_dvd_natAbs.1 (Nat.Coprime.dvd_of_dvd_mul_right q.reduced h5)
   obtain ⟨k,hk⟩:=hd;refine ⟨(k:Rat),Wh.int k,?_⟩;have h6:=bG (a:=(z.num:Rat)*g) hN;have h7:(z.num:Rat)=(q.num:Rat)*(k:Rat):=by rw [hk,Rat.intCast_mul]
   have h8:((z.num:Rat)*g / (q.num:Rat)-(k:Rat)*g)*(q.num:Rat)=0:=by rw [Rat.sub_eq_add_neg,Rat.add_mul,h6,h7];grind
   rcases nXq.1 h8 with h|h
   ·grind
   ·exact absurd h hN
theorem zk{g:Rat}(l:List Rat)(h:∀ x ∈ l,Mu g x):Mu g (bg l):=by
 induction l using snoc_ind with
 | h0=>exact Mu.zero g
 | h1 l r ih =>
  rw [er];have h1:=ih (fun x hx=>h x (List.mem_append_left _ hx));have h2:=h r (by simp);by_cases h3:bg l≠0∨r≠0
  ·exact AV h1 h2 h3
  ·have e1:bg l=0:=Decidable.byContradiction fun h4=>h3 (Or.inl h4)
   have e2:r=0:=Decidable.byContradiction fun h4=>h3 (Or.inr h4)
   rw [e1,e2,qH];exact Mu.zero g
theorem ox(p:List Rat)(i:Nat):seq (av p) i=(((seq (av p) i).num:Int):Rat):=by
 rcases Nat.lt_or_ge i (av p).length with h4|h4
 ·exact (xC p _ (bI h4)).eq
 ·rw [show seq (av p) i=0 from bC h4];rfl
theorem vE{p:List Rat}(hp:tz p≠[]){t:Int}(h:∀ i,t ∣ (seq (av p) i).num):t.natAbs=1:=by
 have hm:=bL hp;have h1:Mu ((t:Rat)*aH p) (aH p):=zk (tz p) fun x hx=>by
  obtain ⟨i,hi,rfl⟩:=dh hx;rw [aY];have h2:=cH p i;obtain ⟨k,hk⟩:=h i;have h3:=ox p i;refine ⟨(k:Rat),Wh.int k,?_⟩;show seq p i=_;rw [h2,h3,hk,Rat.intCast_mul];grind
 obtain ⟨z,hz,e⟩:=h1;have h2:z*(t:Rat)=1:=by
  have h3:(z*(t:Rat)-1)*aH p=0:=by grind
  rcases nXq.1 h3 with h|h
  ·grind
  ·rw [h] at hm;exact absurd hm Rat.lt_irrefl
 rw [hz.eq,←Rat.intCast_mul] at h2;have h4:z.num*t=1:=Rat.intCast_inj.1 h2;exact Int.natAbs_dvd_natAbs.2 (⟨z.num,by rw [←h4,Int.mul_comm]⟩:t ∣ 1) |> fun h=>Nat.dvd_one.1 h
theorem tN:∀ N:Nat,2≤N→∃ r,2≤r∧r ∣ N∧∀ x y:Int,(r:Int) ∣ x*y→(r:Int) ∣ x∨(r:Int) ∣ y:=by
 intro N hN;have key:∀ n:Nat,∀ r,2≤r→r≤n→r ∣ N→∃ r,2≤r∧r ∣ N∧∀ d,d ∣ N→2≤d→r≤d:=by
  intro n;induction n with
  | zero=>intro r h1 h2;omega
  | succ n ih =>
   intro r h1 h2 h3;by_cases h4:∃ d,d ∣ N∧2≤d∧d<r
   ·obtain ⟨d,d1,d2,d3⟩:=h4;exact ih d d2 (by omega) d1
   ·exact ⟨r,h1,h3,fun d d1 d2=>Classical.byContradiction fun h5=>h4 ⟨d,d1,d2,by omega⟩⟩
 obtain ⟨r,h1,h2,h3⟩:=key N N hN (nXd N) (Nat.dvd_refl N);refine ⟨r,h1,h2,fun x y h=>?_⟩;have hg:Nat.gcd r x.natAbs=1∨Nat.gcd r x.natAbs=r:=by
  have a1:=Nat.gcd_dvd_left r x.natAbs;have a2:Nat.gcd r x.natAbs ∣ N:=Nat.dvd_trans a1 h2;have a3:=Nat.le_of_dvd (by omega) a1;have a4:0<Nat.gcd r x.natAbs:=Nat.gcd_pos_of_pos_left _ (by omega);rcases Nat.lt_or_ge (Nat.gcd r x.natAbs) 2 with h4|h4
  ·left;omega
  ·right
   have:=h3 _ a2 h4;omega
 have hn:r ∣ x.natAbs*y.natAbs:=by
  have:=Int.natAbs_dvd_natAbs.2 h
  rwa [nYg,Int.natAbs_mul] at this
 rcases hg with h4|h4
 ·right
  exact Int.natAbs_dvd_natAbs.1 (by rw [nYg];exact Nat.Coprime.dvd_of_dvd_mul_left h4 hn)
 ·left
  exact Int.natAbs_dvd_natAbs.1 (by rw [nYg,←h4];exact Nat.gcd_dvd_right _ _)
theorem nJ{r:Int}{f:Nat→Int}(h:∃ i,¬ r ∣ f i):∃ i,¬ r ∣ f i∧∀ j,j<i→r ∣ f j:=by
 obtain ⟨i,hi⟩:=h;induction i using Nat.strongRecOn with
 | _ i ih =>
  by_cases h2:∃ j,j<i∧¬ r ∣ f j
  ·obtain ⟨j,h3,h4⟩:=h2;exact ih j h3 h4
  ·exact ⟨i,hi,fun j hj=>Decidable.byContradiction fun h=>h2 ⟨j,hj,h⟩⟩
theorem wE{r:Int}{n:Nat}{f:Nat→Int}(h:∀ i,i<n→r ∣ f i):r ∣ ia n f:=by
 induction n with
 | zero=>exact ⟨0,by simp [ia]⟩
 | succ n ih=>exact Int.dvd_add (ih fun i hi=>h i (by omega)) (h n (Nat.lt_succ_self n))
theorem wF{r:Int}:∀ {n:Nat} {f:Nat→Int} {k:Nat},k<n→(∀ i,i<n→i≠k→r ∣ f i)→r ∣ ia n f→r ∣ f k:=by
 intro n;induction n with
 | zero=>intro f k h;omega
 | succ n ih =>
  intro f k hk h hs;have hs':r ∣ ia n f+f n:=hs;by_cases h1:k=n
  ·subst h1;exact (Int.dvd_add_right (wE fun i hi=>h i (by omega) (by omega))).1 hs'
  ·exact ih (by omega) (fun i hi hne=>h i (by omega) hne) ((Int.dvd_add_left (h n (Nat.lt_succ_self n) (by omega))).1 hs')
theorem BU{r:Nat}(hr:∀ x y:Int,(r:Int) ∣ x*y→(r:Int) ∣ x∨(r:Int) ∣ y){f g:Nat→Int}(hf:∃ i,¬ (r:Int) ∣ f i)(hg:∃ i,¬ (r:Int) ∣ g i):∃ n,¬ (r:Int) ∣ ia (n+1) (fun i=>f i*g (n-i)):=by
 obtain ⟨a,ha,ha2⟩:=nJ hf;obtain ⟨b,hb,hb2⟩:=nJ hg;refine ⟨a+b,fun h=>?_⟩;have h1:=wF (k:=a) (by omega) (fun i hi hne=>?_) h
 ·rw [show a+b-a=b by omega] at h1;rcases hr _ _ h1 with h2|h2
  ·exact ha h2
  ·exact hb h2
 ·rcases Nat.lt_or_ge i a with h2|h2
  ·exact Int.dvd_mul_of_dvd_left (ha2 i h2)
  ·exact Int.dvd_mul_of_dvd_right (hb2 (a+b-i) (by omega))
theorem xh{q g h:List Rat}(hq:∀ i,Wh (seq q i))(hq0:tz q≠[])(hg:av g=g)(he:∀ x,evV q x=evV g x*evV h x):∀ i,Wh (seq h i):=by
 have hg0:tz g≠[]:=fun h0=>by
  obtain ⟨y,hy⟩:=wo hq0;exact hy (by rw [he,aC.1 h0 y];grind)
 have hh0:tz h≠[]:=fun h0=>by
  obtain ⟨y,hy⟩:=wo hq0;exact hy (by rw [he,aC.1 h0 y];grind)
 have whs:=ox;have hc:∀ n,(seq q n)*((aH h).den:Rat)=((aH h).num:Rat)*((ia (n+1) (fun i=>(seq g i).num*(seq (av h) (n-i)).num):Int):Rat):=fun n=>by
  have h1:=iK (p:=q) (q:=aw g h) (fun x=>by rw [aV,he]) n;rw [h1,dS,gg,nD];have h2:cv (seq g) (seq h) n=aH h*sm (n+1) (fun i=>(((seq g i).num*(seq (av h) (n-i)).num:Int):Rat)):=by
   rw [←jW];refine sm_congr fun i hi=>?_
   rw [Rat.intCast_mul,←whs h,cH h (n-i)];have h3:=whs g i;rw [hg] at h3;rw [←h3];grind
  rw [h2];have h4:=low (aH h);rw [←h4];grind
 have hd:(aH h).den=1:=by
  apply Classical.byContradiction;intro hd;have hd2:2≤(aH h).den:=by have:=(aH h).den_pos;omega
  obtain ⟨r,r1,r2,r3⟩:=tN _ hd2;have hpf:∀ {p:List Rat},tz p≠[]→∃ i,¬ (r:Int) ∣ (seq (av p) i).num:=fun {p} hp=>Classical.byContradiction fun hn=>by
   have:=vE hp (t:=(r:Int)) (fun i=>Classical.byContradiction fun h=>hn ⟨i,h⟩);rw [nYg] at this;omega
  have hgf:=hpf hg0;rw [hg] at hgf;obtain ⟨n,hn⟩:=BU r3 hgf (hpf hh0);apply hn;have h1:=hc n;rw [(hq n).eq] at h1;have h2:(seq q n).num*(aH h).den=(aH h).num*ia (n+1) (fun i=>(seq g i).num*(seq (av h) (n-i)).num):=by
   apply Rat.intCast_inj.1;rw [Rat.intCast_mul,Rat.intCast_mul,Rat.intCast_natCast];exact h1
  have h3:(r:Int) ∣ (aH h).num*ia (n+1) (fun i=>(seq g i).num*(seq (av h) (n-i)).num):=by
   rw [←h2];obtain ⟨k,hk⟩:=r2;exact ⟨(seq q n).num*k,by rw [hk,Int.natCast_mul];grind⟩
  rcases r3 _ _ h3 with h4|h4
  ·exfalso;have h5:r ∣ (aH h).num.natAbs:=by
    have:=Int.natAbs_dvd_natAbs.2 h4
    rwa [nYg] at this
   have h6:=Nat.dvd_gcd h5 r2;rw [(aH h).reduced] at h6;have:=Nat.dvd_one.1 h6;omega
  ·exact h4
 intro i;rw [cH h i];exact Wh.mul hd (by rw [whs h i];exact Wh.int _)
theorem zU:∀ (m:Nat) (g:List Rat) (a B R:Rat),ln g≤m+1→0≤B→0≤R→(∀ t:Nat,t≤m→Sg.Bd B (evV g (a+(t:Rat))))→(∀ t:Nat,t≤m→Sg.Bd R (a+(t:Rat)))→∀ i,Sg.Bd (B*(2*R+3) ^ m) (seq g i):=by
 intro m;induction m with
 | zero =>
  intro g a B R hl hB hR hv hp i;rw [Rat.pow_zero,Rat.mul_one];cases i with
  | zero=>rw [←ku hl (a+((0:Nat):Rat))];exact hv 0 (nXd 0)
  | succ i=>rw [Ap (by omega)];exact ⟨by grind,hB⟩
 | succ m ih =>
  intro g a B R hl hB hR hv hp i;obtain ⟨c,hc⟩:∃ c,c=a+((m+1:Nat):Rat):=⟨_,rfl⟩;have hcv:=hv (m+1) (nXd _);have hcR:=hp (m+1) (nXd _);rw [←hc] at hcv hcR;have one:∀ t:Rat,∀ x,evV [t] x=t:=fun t x=>by show 0*x+t=t;grind
  obtain ⟨f,hf⟩:∃ f,f=gK g [evV g c]:=⟨_,rfl⟩;have hfx:∀ x,evV f x=evV g x-evV g c:=fun x=>by rw [hf,ey,one]
  obtain ⟨g1',⟨g1,rfl⟩,h1⟩:=A3 (Pf.ev f) (a:=c) (by rw [hfx];grind);have hlf:ln f≤m+2:=by
   have h2:=iE g [evV g c];have h3:ln [evV g c]≤1:=ag [evV g c];rw [hf];omega
  have hl1:ln g1≤m+1:=by
   by_cases h2:tz g1=[]
   ·show (tz g1).length≤_;rw [h2];exact Nat.zero_le _
   ·have h3:=zv h1 h2;have h4:ln g1<ln f:=h3;omega
  have hmul:∀ d y:Rat,1≤d→Sg.Bd (2*B) (d*y)→Sg.Bd (2*B) y:=fun d y hd hb=>by
   rcases tot 0 y with h|h
   ·have h2:=kp hd h;exact ⟨by grind,by have:=hb.2;grind⟩
   ·have h2:=kp hd (show 0≤-y by grind);exact ⟨by have:=hb.1;grind,by grind⟩
  have hv1:∀ t:Nat,t≤m→Sg.Bd (2*B) (evV g1 (a+(t:Rat))):=fun t ht=>by
   have h2:=h1 (a+(t:Rat));rw [hfx] at h2;have h3:((m+1:Nat):Rat)-(t:Rat)=((m+1-t:Nat):Rat):=by
    have:((m+1:Nat):Rat)=((m+1-t:Nat):Rat)+(t:Rat):=by rw [←Rat.natCast_add];congr 1;omega
    grind
   have h4:(1:Rat)≤((m+1-t:Nat):Rat):=by exact_mod_cast (show 1≤m+1-t by omega)
   refine hmul _ _ h4 ?_;have h5:((m+1-t:Nat):Rat)*evV g1 (a+(t:Rat))=-(evV g (a+(t:Rat))-evV g c):=by rw [h2,←h3,hc];grind
   rw [h5,show (2:Rat)*B=B+B by grind];exact ((hv t (by omega)).sub hcv).neg
  have hI:=ih g1 a (2*B) R hl1 (by grind) hR hv1 (fun t ht=>hp t (by omega));have hs:=tJ h1 i;have hsg:seq g i=seq f i+seq [evV g c] i:=by rw [hf,sH];grind
  have hcon:Sg.Bd B (seq [evV g c] i):=by
   cases i with
   | zero=>exact hcv
   | succ i=>exact ⟨by show -B≤(0:Rat);grind,by show (0:Rat)≤B;exact hB⟩
  have hP:0≤(2*R+3) ^ m:=Rat.pow_nonneg (by grind);have hsh:Sg.Bd (2*B*(2*R+3) ^ m) (sh (seq g1) i):=by
   cases i with
   | zero =>
    have:=wt (show 0≤2*B by grind) hP;exact ⟨by show -_≤(0:Rat);grind,by show (0:Rat)≤_;exact this⟩
   | succ i=>exact hI i
  have hP1:1≤(2*R+3) ^ m:=by
   have:∀ k:Nat,(1:Rat)≤(2*R+3) ^ k:=fun k=>by
    induction k with
    | zero=>rw [Rat.pow_zero];exact Rat.le_refl
    | succ k ihk =>
     rw [Rat.pow_succ];have h6:=kp ihk (show 0≤2*R+3 by grind);grind
   exact this m
  rw [hsg,hs,Rat.pow_succ];refine ((hsh.sub (hcR.mul (hI i))).add hcon).mono ?_;have h7:=fy hP1 hB;generalize (2*R+3) ^ m=P at *
  grind
theorem zF{A x:Rat}(hA:1≤A)(hx:A≤x):∀ p:List Rat,(∀ y ∈ p,Wh y∧Sg.Bd (A-1) y)→tz p≠[]→Big 1 (evV p x):=by
 intro p;induction p with
 | nil=>intro _ h;exact absurd rfl h
 | cons c p ih =>
  intro h h0;obtain ⟨hc1,hc2⟩:=h c (List.mem_cons_self ..);have e:evV (c :: p) x=evV p x*x+c:=rfl;rw [e];by_cases h1:tz p=[]
  ·rw [aC.1 h1 x];have hc0:c≠0:=fun hc=>h0 (aC.2 fun y=>by show evV p y*y+c=0;rw [aC.1 h1 y,hc];grind)
   obtain ⟨z,hz⟩:=Wh.iff.1 hc1;rw [hz] at hc0 ⊢;have hz0:z≠0:=fun h=>hc0 (by rw [h];rfl)
   rcases (show 1≤z∨z≤-1 by omega) with h2|h2
   ·left
    have:((1:Int):Rat)≤(z:Rat):=Rat.intCast_le_intCast.2 h2;have e1:((1:Int):Rat)=1:=rfl;grind
   ·right
    have:(z:Rat)≤((-1:Int):Rat):=Rat.intCast_le_intCast.2 h2;have e1:((-1:Int):Rat)=-1:=rfl;grind
  ·have h2:=ih (fun y hy=>h y (List.mem_cons_of_mem _ hy)) h1;obtain ⟨b1,b2⟩:=hc2;rcases h2 with h3|h3
   ·left
    have h4:=kp h3 (show 0≤x by grind);grind
   ·right
    have h4:=kp h3 (show 0≤x by grind);grind
theorem A2{A X x:Rat}(hA:0≤A)(hx:0≤x)(hX:x≤X):∀ p:List Rat,(∀ y ∈ p,Sg.Bd A y)→Sg.Bd (A*(X+1) ^ p.length) (evV p x):=by
 intro p;induction p with
 | nil =>
  intro _;rw [List.length_nil,Rat.pow_zero,Rat.mul_one];exact ⟨by show -A≤(0:Rat);grind,hA⟩
 | cons c p ih =>
  intro h;have h1:=ih (fun y hy=>h y (List.mem_cons_of_mem _ hy));have h2:=h c (List.mem_cons_self ..);have hP:∀ k:Nat,(1:Rat)≤(X+1) ^ k:=fun k=>by
   induction k with
   | zero=>rw [Rat.pow_zero];exact Rat.le_refl
   | succ k ihk =>
    rw [Rat.pow_succ];have h6:=kp ihk (show 0≤X+1 by grind);grind
  have e:evV (c :: p) x=evV p x*x+c:=rfl;rw [e,List.length_cons,Rat.pow_succ];refine ((h1.mul (show Sg.Bd X x from ⟨by grind,hX⟩)).add h2).mono ?_;have h3:=fy (hP p.length) hA;generalize (X+1) ^ p.length=P at *
  grind
theorem Aq{p:List Rat}(h:∀ i,Wh (seq p i)){x:Rat}(hx:Wh x):Wh (evV p x):=by
 have key:∀ p:List Rat,(∀ i,Wh (seq p i))→Wh (evV p x):=by
  intro p;induction p with
  | nil=>intro _;exact Wh.zero
  | cons c p ih=>intro h;exact ((ih fun i=>h (i+1)).mul hx).add (h 0)
 exact key p h
theorem wX{q d:List Rat}{S:Nat}(hq:∀ x ∈ q,Wz S x)(hq0:tz q≠[])(hd:Dv (evV d) (evV q))(hn:q.length≤1000):∀ x ∈ av d,Wz ((S+1)*(2*q.length+1)) x:=by
 have hd0:tz d≠[]:=fun h0=>by
  obtain ⟨y,hy⟩:=wo hq0;obtain ⟨c,-,h1⟩:=hd;exact hy (by rw [h1,aC.1 h0 y];grind)
 have hdl:=lz hd hq0;have hql:=ag q;obtain ⟨g,hg⟩:∃ g,g=av d:=⟨_,rfl⟩;have hgg:av g=g:=by
  rw [hg];exact (cu (p:=d) (q:=av d) (bL hd0) (fun n=>by rw [cH d n];grind)).symm
 obtain ⟨h,hh⟩:∃ h:List Rat,∀ x,evV q x=evV g x*evV h x:=by
  obtain ⟨c,hc,h1⟩:=hd;obtain ⟨h,hh⟩:=hc.smul (aH d);exact ⟨h,fun x=>by rw [h1,←hh,eQ d x,hg];grind⟩
 have hqw:∀ i,Wh (seq q i):=fun i=>by rw [(ib hq i).1];exact Wh.int _
 have hhw:=xh hqw hq0 hgg hh;have hgw:∀ i,Wh (seq g i):=fun i=>by
  have:=ox d i;rw [←hg] at this;rw [this];exact Wh.int _
 obtain ⟨A,hA⟩:∃ A:Nat,A=W32 ^ S:=⟨_,rfl⟩;have hA1:1≤A:=by rw [hA];exact nYl aB
 have hA1':(1:Rat)≤(A:Rat):=by exact_mod_cast hA1
 obtain ⟨m,hm⟩:∃ m,ln g=m+1:=⟨ln g-1,by
  have:1≤ln g:=eH (by rw [hg,bj];exact fun k=>hd0 (ck.1 k));omega⟩
 have hmq:m+1≤q.length:=by
  have:ln g=(tz d).length:=by show (tz g).length=_;rw [hg,bj,ay]
  omega
 obtain ⟨X,hX⟩:∃ X:Nat,X=A+m:=⟨_,rfl⟩;have hcoef:∀ y ∈ q,Wh y∧Sg.Bd ((A:Rat)-1) y:=fun y hy=>by
  obtain ⟨w1,w2⟩:=hq y hy;refine ⟨w1,?_⟩;rw [w1.eq];have h1:-((A:Int)-1)≤y.num∧y.num≤(A:Int)-1:=by rw [hA];omega
  have h2:=Rat.intCast_le_intCast.2 h1.1;have h3:=Rat.intCast_le_intCast.2 h1.2;rw [Rat.intCast_neg,Rat.intCast_sub,Rat.intCast_natCast] at h2;rw [Rat.intCast_sub,Rat.intCast_natCast] at h3;exact ⟨h2,h3⟩
 have hB:=fun (t:Nat) (ht:t≤m)=>A2 (A:=(A:Rat)) (X:=(X:Rat)) (x:=(A:Rat)+(t:Rat)) (by grind) (by
  have:(0:Rat)≤(t:Rat):=by exact_mod_cast Nat.zero_le t
  grind) (by rw [hX,←Rat.natCast_add];exact_mod_cast (show A+t≤A+m by omega)) q (fun y hy=>(hcoef y hy).2.mono (by grind))
 have hval:∀ t:Nat,t≤m→Sg.Bd ((A:Rat)*((X:Rat)+1) ^ q.length) (evV g ((A:Rat)+(t:Rat))):=fun t ht=>by
  have h1:=zF (A:=(A:Rat)) (x:=(A:Rat)+(t:Rat)) hA1' (by
   have:(0:Rat)≤(t:Rat):=by exact_mod_cast Nat.zero_le t
   grind) q hcoef hq0
  have h2:=hB t ht;have hxw:Wh ((A:Rat)+(t:Rat)):=by
   have h3:∀ k:Nat,Wh (k:Rat):=fun k=>Rat.den_natCast k
   exact (h3 A).add (h3 t)
  have hv1:=Aq hgw hxw;have hv2:=Aq hhw hxw;rw [hh] at h1 h2;generalize evV g ((A:Rat)+(t:Rat))=u at *
  generalize evV h ((A:Rat)+(t:Rat))=v at *
  generalize (A:Rat)*((X:Rat)+1) ^ q.length=C at *
  have hvz:v≠0:=fun h0=>by
   rw [h0,nYa] at h1;rcases h1 with h1|h1 <;> grind
  obtain ⟨z,hz⟩:=Wh.iff.1 hv2;have hz0:z≠0:=fun h=>hvz (by rw [hz,h];rfl)
  obtain ⟨c1,c2⟩:=h2;rcases (show 1≤z∨z≤-1 by omega) with h3|h3
  ·have h4:(1:Rat)≤v:=by
    have:((1:Int):Rat)≤(z:Rat):=Rat.intCast_le_intCast.2 h3;rw [hz];exact this
   rcases tot 0 u with h5|h5
   ·have h6:=fy h4 h5;exact ⟨by grind,by grind⟩
   ·have h6:=fy h4 (show 0≤-u by grind);exact ⟨by grind,by grind⟩
  ·have h4:v≤-1:=by
    have:(z:Rat)≤((-1:Int):Rat):=Rat.intCast_le_intCast.2 h3;rw [hz];exact this
   rcases tot 0 u with h5|h5
   ·have h6:=fy (show 1≤-v by grind) h5;exact ⟨by grind,by grind⟩
   ·have h6:=fy (show 1≤-v by grind) (show 0≤-u by grind);exact ⟨by grind,by grind⟩
 have hXr:∀ t:Nat,t≤m→Sg.Bd (X:Rat) ((A:Rat)+(t:Rat)):=fun t ht=>by
  have h1:(A:Rat)+(t:Rat)≤(X:Rat):=by rw [hX,←Rat.natCast_add];exact_mod_cast (show A+t≤A+m by omega)
  have h2:(0:Rat)≤(A:Rat)+(t:Rat):=by rw [←Rat.natCast_add];exact_mod_cast Nat.zero_le (A+t)
  exact ⟨by grind,h1⟩
 have hX0:(0:Rat)≤(X:Rat):=by exact_mod_cast Nat.zero_le X
 have hC0:(0:Rat)≤(A:Rat)*((X:Rat)+1) ^ q.length:=wt (by grind) (Rat.pow_nonneg (by grind));have hfin:=zU m g (A:Rat) _ (X:Rat) (by omega) hC0 hX0 hval hXr;have hW:2*X+3≤W32 ^ (S+1):=by
  have e1:W32 ^ (S+1)=A*4294967296:=by rw [nXs,←hA];rfl
  omega
 have hbound:A*(X+1) ^ q.length*(2*X+3) ^ m<W32 ^ ((S+1)*(2*q.length+1)):=by
  have b1:(X+1) ^ q.length≤W32 ^ ((S+1)*q.length):=by rw [Nat.pow_mul];exact Nat.pow_le_pow_left (by omega) _
  have b2:(2*X+3) ^ m≤W32 ^ ((S+1)*m):=by rw [Nat.pow_mul];exact Nat.pow_le_pow_left hW _
  have b3:A*(X+1) ^ q.length*(2*X+3) ^ m≤W32 ^ S*W32 ^ ((S+1)*q.length)*W32 ^ ((S+1)*m):=by
   rw [hA] at *
   exact nXw (nXf _ b1) b2
  refine nYj b3 ?_;rw [←Nat.pow_add,←Nat.pow_add];refine Nat.pow_lt_pow_right (by decide) ?_;have e2:(S+1)*(2*q.length+1)=(S+1)*q.length+(S+1)*q.length+(S+1):=by rw [Nat.mul_add,Nat.mul_one,show 2*q.length=q.length+q.length by omega,Nat.mul_add]
  have e3:(S+1)*m≤(S+1)*q.length:=nXf _ (by omega);omega
 intro x hx;rw [←hg] at hx;obtain ⟨i,hi,rfl⟩:=dh hx;have h1:=hfin i;have hw:=hgw i;refine ⟨hw,?_⟩;have h2:Sg.Bd (((A*(X+1) ^ q.length*(2*X+3) ^ m:Nat):Int):Rat) (((seq g i).num:Int):Rat):=by
  rw [←hw.eq,Rat.intCast_natCast,Rat.natCast_mul,Rat.natCast_mul,Rat.natCast_pow,Rat.natCast_pow,Rat.natCast_add,Rat.natCast_add,Rat.natCast_mul];exact h1
 obtain ⟨c1,c2⟩:=h2;rw [←Rat.intCast_neg] at c1;have c3:=Rat.intCast_le_intCast.1 c1;have c4:=Rat.intCast_le_intCast.1 c2;show (seq g i).num.natAbs<_;omega
end Go.Proofs.YtohahgiidooijaaGreat.Sg
/- Sizes for chains of a polynomial and of its divisors. Plain facts. -/
namespace Go.Proofs.YtohahgiidooijaaGreat
open Go.RowKit Go.Front Go.Num Stab Sg
theorem zp{q:List Rat}{L:Nat}(hq:bt q=q)(hw:∀ x ∈ av q,Wz L x)(hL:1≤L):∃ D,0<D∧D<W32 ^ L∧FrL L D q:=by
 obtain ⟨D,h1,h2,h3⟩:=mq hw (bj q) hL;rw [(im q).mon,hq] at h3;exact ⟨D,h1,h2,h3⟩
def KN(K S n:Nat):Prop:=3*((((S+1)*(2*n+1)+2)*(2*n)+(S+1)*(2*n+1)+2)*(2*n+3))≤K
theorem AY{K S S' n n':Nat}(h:3*(((S+2)*(2*n)+S+2)*(2*n+3))≤K)(hS:S'≤S)(hn:n'≤n):KZ K S' n':=by
 right
 refine nXe (nXf 3 (nXw ?_ (by omega))) h;have:(S'+2)*(2*n')≤(S+2)*(2*n):=nXw (by omega) (by omega);omega
theorem KN.kz{K S S' n n':Nat}(h:KN K S n)(hS:S'≤(S+1)*(2*n+1))(hn:n'≤n):KZ K S' n':=AY (S:=(S+1)*(2*n+1)) h hS hn
theorem KN.self{K S n n':Nat}(h:KN K S n)(hn:n'≤n):KZ K S n':=h.kz (by
 have:(S+1)*1≤(S+1)*(2*n+1):=nXf _ (by omega);omega) hn
theorem Be{K S n:Nat}{p q:List Rat}(hp:∀ x ∈ p,Wz S x)(hp0:tz p≠[])(hl:p.length≤n)(hn:n≤1000)(hK:KN K S n)(hd:Dv (evV q) (evV p))(hm:bt q=q):FrK K q:=by
 have h1:=wX hp hp0 hd (by omega);have h2:=lz hd hp0;have h3:=ag p;have h4:tz q=q:=by rw [←hm,eN]
 rw [h4] at h2;have hL:1≤(S+1)*(2*p.length+1):=Nat.mul_pos (by omega) (by omega);have hL2:(S+1)*(2*p.length+1)≤(S+1)*(2*n+1):=nXf _ (by omega);obtain ⟨D,d1,d2,d3⟩:=zp hm h1 hL;exact ⟨_,D,hL,d1,d2,d3,hK.kz hL2 (by omega)⟩
theorem Bc{p q:List Rat}(h0:tz p≠[])(h:Dv (evV q) (evV p)):Dv (evV q) (evV (av p)):=by
 obtain ⟨c,hc,h1⟩:=h;have hm:=bL h0;refine ⟨_,hc.smul (aH p)⁻¹,fun x=>?_⟩;have h2:=eQ p x;have h3:=nYi (aH p) (fun k=>by rw [k] at hm;exact absurd hm Rat.lt_irrefl);rw [h1 x] at h2;have h4:(aH p)⁻¹*(evV q x*c x)=evV (av p) x:=by rw [h2,←nYc,nYb _ (aH p),h3,Rat.one_mul]
 rw [←h4];grind
theorem Ax{p:List Rat}(h0:tz p≠[]):Dv (evV (sqfV p)) (evV p):=by
 obtain ⟨g,q1,hg,-,-,h1,-⟩:=(kX h0).dv;exact ⟨g,hg,fun x=>by rw [h1 x];grind⟩
theorem yB(p:List Rat):bt (sqfV p)=sqfV p:=jA _
theorem wR{K S D n:Nat}{p:List Rat}(hS:1≤S)(hD:0<D)(hD2:D<W32 ^ S)(hf:FrL S D p)(hl:p.length≤n)(hK:KN K S n):FrK K p:=⟨S,D,hS,hD,hD2,hf,hK.self hl⟩
theorem zC{K S D n:Nat}{p:List Rat}(hD:0<D)(hf:FrL S D p)(h0:tz p≠[])(hl:p.length≤n)(hn:n≤1000)(hK:KN K S n):FrK K (sqfV p):=by
 refine Be (p:=av p) (dK (fun x hx=>hf x (gN hx)) hD) (by rw [bj];exact fun k=>h0 (ck.1 k)) ?_ hn hK (Bc h0 (Ax h0)) (yB p);rw [ay];exact nXe (ag p) hl
end Go.Proofs.YtohahgiidooijaaGreat
/- Package prototype: Valid, Ratio. -/
namespace Go.Proofs.YtohahgiidooijaaGreat
open Go.RowKit Go.Front Go.Num Stab
attribute [local go_sem] XW.cell XW.frozen
def IvE(w:World)(x:RH×RH)(a b:Rat):Prop:=au w x.1 a∧au w x.2 b
theorem IvE.ext{w w':World}{x:RH×RH}{a b:Rat}(h:IvE w x a b)(he:Ext w w'):IvE w' x a b:=⟨h.1.ext he,h.2.ext he⟩
instance {w w':World} {x:RH×RH} {a b:Rat}:Go.Front.Mv w w' (IvE w x a b) (IvE w' x a b):=⟨fun e h=>IvE.ext h e⟩

def je(w:World)(x:PH)(g:Rat)(e d:List Rat):Prop:=aR w x.g g∧cx w x.e e∧cx w x.d d
theorem je.ext{w w':World}{x:PH}{g:Rat}{e d:List Rat}(h:je w x g e d)(he:Ext w w'):je w' x g e d:=⟨h.1.ext he,h.2.1.ext he,h.2.2.ext he⟩
instance {w w':World} {x:PH} {g:Rat} {e d:List Rat}:Go.Front.Mv w w' (je w x g e d) (je w' x g e d):=⟨fun e h=>je.ext h e⟩

def bN(g:Rat)(e:List Rat)(p:Int)(d:List Rat):Bool:=decide (0<g∧0≤p∧p≤48∧tz e≠[]∧(tz e).length≤25∧(tz d).length≤49) && kI d (-1) 1
theorem dG{g:Rat}{e:List Rat}{p:Int}{d:List Rat}(h:¬ (0<g∧0≤p∧p≤48∧tz e≠[]∧(tz e).length≤25∧(tz d).length≤49)):bN g e p d=false:=by
 unfold bN;rw [decide_eq_false h];rfl
theorem pq{g:Rat}{e:List Rat}{p:Int}{d:List Rat}(h:0<g∧0≤p∧p≤48∧tz e≠[]∧(tz e).length≤25∧(tz d).length≤49):bN g e p d=kI d (-1) 1:=by
 unfold bN;rw [decide_eq_true h];rfl
theorem nV{g:Rat}:dP g 0≤0↔¬ 0<g:=by rw [mK];exact ⟨fun h=>Rat.not_lt.2 h,fun h=>Rat.not_lt.1 h⟩
structure DnK (K P:Nat) (d:List Rat):Prop where
 fr:FrK K d
 sq:FrK K (Sg.sqfV d)
 k1:K≤3900000
 k2:(P+1)*(K / 3)≤25000000
theorem gt(x:PH)(g:Rat)(e d:List Rat)(K:Nat)(w:World)(h:je w x g e d)(hP:x.d.n≤49)(hk:DnK K x.d.n d) :
  am 37 [x.v] w (fun _:Unit=>.bool (bN g e x.p d)) (fun _ _=>True):=by
 obtain ⟨⟨gn,ga,gl,gc,gb,gm,gd⟩,⟨ea,en,ec⟩,p,⟨da,dn,dc⟩⟩:=x;have HX:=Hi (Ext.refl w);have RG:=Hi h.1;have LE:=Hi h.2.1;have LD:=Hi h.2.2;have HK:=Hi hk;have HEn:=Hi h.2.1.len;have HDn:=Hi h.2.2.len;simp only at hP RG LE LD HK HEn HDn;clear h hk;have hdl:(tz d).length≤49:=by have:=ag d;have:=HDn.out;omega
 have HDl:=Hi hdl;clear hdl;obtain ⟨c1,hc1⟩:∃ c,c=dP g 0:=⟨_,rfl⟩;have HC1:=Hi hc1;have HC:Hid (c1≤0↔¬ 0<g):=Hi (by rw [hc1];exact nV);clear hc1;unfold am;go_enter Tryz.func37,Tryz.ntmps37
 go_upto_region 1 with fail
 refine nmA ?_;intro w1 hE B1 hz_w1 hr_w1;refine mV4 hE ?_ HX RG LE LD;clear HX RG LE LD;intro HX RG LE LD;have hs_w1:=hE.size;clear hE;replace b_B1:=bX3 B1
 go_wp2_with fail
 refine cM (dM ⟨gn,ga,gl,gc,gb,gm,gd⟩ g _ RG.out) fun x2 w2 hE _=>?_
 refine mV5 hE ?_ B1 HX RG LE LD;clear B1 HX RG LE LD;intro B1 HX RG LE LD;have hs_w2:=hE.size;clear hE;replace b_B1:=bX3 B1;rw [←HC1.out];by_cases h1:c1≤0
 ·have HV:Hid (bN g e p d=false):=Hi (dG (fun k=>HC.out.1 h1 k.1));go_wp2
  go_ret
  exact ⟨(),by rw [HV.out];rfl,HX.out,trivial⟩
 have HG:Hid (0<g):=Hi (Classical.byContradiction fun k=>h1 (HC.out.2 k));clear HC;by_cases h2:p<0
 ·have HV:Hid (bN g e p d=false):=Hi (dG (fun k=>by have:=k.2.1;omega));go_wp2
  go_ret
  exact ⟨(),by rw [HV.out];rfl,HX.out,trivial⟩
 by_cases h3:48<p
 ·have HV:Hid (bN g e p d=false):=Hi (dG (fun k=>by have:=k.2.2.1;omega));go_wp2
  go_ret
  exact ⟨(),by rw [HV.out];rfl,HX.out,trivial⟩
 go_wp2_with fail
 refine cM (cT ea en ec e _ LE.out) fun x3 w3 hE _=>?_
 refine mV5 hE ?_ B1 HX RG LE LD;clear B1 HX RG LE LD;intro B1 HX RG LE LD;have hs_w3:=hE.size;clear hE;replace b_B1:=bX3 B1;obtain ⟨le,hle⟩:∃ n,n=(tz e).length:=⟨_,rfl⟩;have HLe:=Hi hle;rw [←hle];clear hle;by_cases h4:le=0
 ·have HV:Hid (bN g e p d=false):=Hi (dG (fun k=>k.2.2.2.1 (nXi.1 (by rw [←HLe.out];exact h4))));subst h4;go_wp2
  go_ret
  exact ⟨(),by rw [HV.out];rfl,HX.out,trivial⟩
 have h4i:¬ (le:Int)-1<0:=by omega
 by_cases h5:25<le
 ·have HV:Hid (bN g e p d=false):=Hi (dG (fun k=>by have:=k.2.2.2.2.1;rw [←HLe.out] at this;omega));have h5i:(24:Int)<(le:Int)-1:=by omega
  go_wp2
  go_ret
  exact ⟨(),by rw [HV.out];rfl,HX.out,trivial⟩
 have h5i:¬ (24:Int)<(le:Int)-1:=by omega
 have HV:Hid (bN g e p d=kI d (-1) 1):=Hi (pq ⟨HG.out,by omega,by omega,fun k=>by have:=HLe.out;rw [k] at this;exact h4 this,by rw [←HLe.out];omega,HDl.out⟩)
 go_wp2_with fail
 refine cM (cT da dn dc d _ LD.out) fun x5 w5 hE _=>?_
 refine mV5 hE ?_ B1 HX RG LE LD;clear B1 HX RG LE LD;intro B1 HX RG LE LD;have hs_w5:=hE.size;clear hE;replace b_B1:=bX3 B1;obtain ⟨ld,hld⟩:∃ n,n=(tz d).length:=⟨_,rfl⟩;have h6i:¬ (48:Int)<(ld:Int)-1:=by have:=HDl.out;omega
 rw [←hld];clear hld;have Zm:Hid (Sz 1 ((-1:Int):Rat)):=Hi (Sz.int (by decide));have Z1:Hid (Sz 1 ((1:Int):Rat)):=Hi (Sz.int (by decide));have Em:Hid (loV ((-1:Int):Rat) ((1:Int):Rat)=((-1:Int):Rat)):=Hi (wB (by decide));have E1:Hid (hiV ((-1:Int):Rat) ((1:Int):Rat)=((1:Int):Rat)):=Hi (wI (by decide));have HPV:Hid (Sg.posV d ((-1:Int):Rat) ((1:Int):Rat)=kI d (-1) 1):=Hi (yN (by decide));obtain ⟨v,hv⟩:∃ v,v=kI d (-1) 1:=⟨_,rfl⟩;rw [←hv] at HV HPV;clear hv h1 h2 h3
 go_upto_region 6 with fail
 refine aQ [(9,8)] _ (by simp only [gH,kH,List.push_toArray,List.cons_append,List.nil_append];exact rfl) (by intro c a d v w h;cases d <;> exact h) 9 (fun opIx=>match opIx with
  | 2=>.spec RH default RH.v (fun s w'=>au w' s (((-1:Int):Rat)))
  | 3=>.spec RH default RH.v (fun s w'=>au w' s (((1:Int):Rat)))
  | 4=>.spec (RH×RH) (default) (IvV) (fun x w'=>IvE w' x ((-1:Int):Rat) ((1:Int):Rat))
  | 5=>.spec Unit () (fun _=>.tuple #[.bool v,.int .i64 0]) (fun _ _=>True)
  | _=>.quiet) (fun|4=>[2,3]|5=>[4]|_=>[]) (by kernel_rfl) (by kernel_rfl) (by kernel_rfl) (fun w0 he0 hz0 hc0 hf0=>?_)
 replace he0:=Hi he0;simp only [pT];refine qQ ?_;refine wps he0.out rfl rfl (fun w1 hW hG=>?_) fun x40=>?_
 ·exact spc [.int .i64 (-1)] Tryz.func76 (aM (-1) _ (by decide) (by decide))
 refine qZ ?_;refine wps he0.out rfl rfl (fun w1 hW hG=>?_) fun x41=>?_
 ·exact spc [.int .i64 1] Tryz.func76 (aM 1 _ (by decide) (by decide))
 refine qZ ?_;refine wps he0.out rfl rfl (fun w1 hW hG=>?_) fun x42=>?_
 ·have g40:=(hG 2 (by decide):ax _ _).get fun _ e g=>g.ext e
  have g41:=(hG 3 (by decide):ax _ _).get fun _ e g=>g.ext e
  exact spc [x40.v,x41.v] Tryz.func95 ((by have h:=ly x40 x41 _ _ _ (g40.raw Zm.out (by decide)) (g41.raw Z1.out (by decide));rw [Em.out,E1.out] at h;exact h))
 refine qZ ?_;refine wps he0.out rfl rfl (fun w1 hW hG=>?_) fun x43=>?_
 ·have g42:=(hG 4 (by decide):ax _ _).get fun _ e g=>g.ext e
  exact spc [.slice da dn dc,IvV x42] Tryz.func94 ((by have h:=vD da dn dc d K x42.1 x42.2 ((-1:Int):Rat) ((1:Int):Rat) 1 _ (LD.out.ext hW) hP HK.out.fr HK.out.sq (nXe HK.out.k1 (by decide)) HK.out.k2 (g42.1.raw Zm.out (by decide)) (g42.2.raw Z1.out (by decide)) Zm.out Z1.out (by decide) (by decide);rw [Em.out,E1.out,HPV.out] at h;exact h))
 refine qZ ?_;refine aj ?_;intro w6 hI;have hE:=he0.out.trans hI.ext;have G40:=gT (hI.facts 2);have G41:=gT (hI.facts 3);have G42:=gT (hI.facts 4);clear hI he0 hz0 hc0 hf0;refine mV5 hE ?_ B1 HX RG LE LD;clear B1 HX RG LE LD;intro B1 HX RG LE LD;have hs_w6:=hE.size;clear hE;replace b_B1:=bX3 B1;simp only [pD];clear G42;clear G40;clear G41;cases v
 ·go_wp2
  go_ret
  exact ⟨(),by rw [HV.out];rfl,HX.out,trivial⟩
 ·go_wp2
  go_ret
  exact ⟨(),by rw [HV.out];rfl,HX.out,trivial⟩
def rW(g:Rat)(e:List Rat)(p:Int)(d:List Rat):Int×List Rat×List Rat:=if bN g e p d=true then (0,tz ((aw (aw e e) (co plQ p.toNat)).map (·*g)),tz d) else (2,[],[])
theorem po{g:Rat}{e:List Rat}{p:Int}{d:List Rat}(h:bN g e p d=true):0≤p∧p≤48:=by
 unfold bN at h;have h1:=of_decide_eq_true (Bool.and_eq_true_iff.1 h).1;exact ⟨h1.2.1,h1.2.2.1⟩
theorem k8(x:PH)(g:Rat)(e d:List Rat)(K S T:Nat)(w:World)(h:je w x g e d)(hP:x.d.n≤49)(hk:DnK K x.d.n d)(hE:x.e.n≤25)(fe:FrB S e)(hS:S≤10000)(zg:Sz T g)(hT:T≤10000) :
  am 34 [x.v] w FE (FEP (rW g e x.p d)):=by
 obtain ⟨⟨gn,ga,gl,gc,gb,gm,gd⟩,⟨ea,en,ec⟩,p,⟨da,dn,dc⟩⟩:=x;have HX:=Hi (Ext.refl w);have HR:=Hi h;have RG:=Hi h.1;have LE:=Hi h.2.1;have LD:=Hi h.2.2;have HEn:=Hi h.2.1.len;have HDn:=Hi h.2.2.len;have HK:=Hi hk;have FE':=Hi fe;have ZG:=Hi zg;simp only at hP hE RG LE LD HEn HDn HK;clear h hk fe zg;unfold am;go_enter Tryz.func34,Tryz.ntmps34
 go_upto_region 1 with fail
 refine f6 ?_;intro w1 hE B1 B2 hz_w1 hr_w1;refine mV5 hE ?_ HX HR RG LE LD;clear HX HR RG LE LD;intro HX HR RG LE LD;have hs_w1:=hE.size;clear hE;replace b_B1:=bX3 B1;replace b_B2:=bX3 B2
 go_wp2_with fail
 refine cM (gt ⟨⟨gn,ga,gl,gc,gb,gm,gd⟩,⟨ea,en,ec⟩,p,⟨da,dn,dc⟩⟩ g e d K _ HR.out hP HK.out) fun x2 w2 hE _=>?_
 refine mV7 hE ?_ B1 B2 HX HR RG LE LD;clear B1 B2 HX HR RG LE LD;intro B1 B2 HX HR RG LE LD;have hs_w2:=hE.size;clear hE;replace b_B1:=bX3 B1;replace b_B2:=bX3 B2;obtain ⟨v,hv⟩:∃ v,v=bN g e p d:=⟨_,rfl⟩;have HV:=Hi hv;rw [show bN g e (PH.p ⟨⟨gn,ga,gl,gc,gb,gm,gd⟩,⟨ea,en,ec⟩,p,⟨da,dn,dc⟩⟩) d=v from hv.symm];clear hv;clear HR;cases v
 ·have HQ:Hid (rW g e p d=(2,[],[])):=Hi (by unfold rW;rw [←HV.out];rfl);go_wp2;clear RG;clear LE;clear LD;refine l9 (F:=fun W=>bodyPost _ _ _ _ _ W) B2.out rfl ?_;intro w3 T;replace HX:=Hi (T.ext HX.out (by omega));replace B1:=Hi (T.rest _ _ (by omega) B1.out);replace B2:=Hi (T.bx);have hs_w3:=nle T.size;have hr_w3:=nle T.size.symm;clear T;replace b_B1:=bX3 B1;replace b_B2:=bX3 B2;exact bodyPost_ret (v:=FE (⟨⟨none,0,0⟩,⟨none,0,0⟩⟩,2)) (by simp [results,Tryz.results34,go_sem,b_B2.1,FE]) rfl ⟨(⟨⟨none,0,0⟩,⟨none,0,0⟩⟩,2),rfl,HX.out,by rw [HQ.out];exact ⟨rfl,qO _⟩⟩
 obtain ⟨hp0,hp1⟩:=po HV.out.symm;obtain ⟨k,rfl⟩:∃ k:Nat,p=(k:Nat):=⟨p.toNat,by omega⟩;have hk48:k≤48:=by omega
 have HQ:Hid (rW g e (k:Nat) d=(0,tz ((aw (aw e e) (co plQ k)).map (·*g)),tz d)):=Hi (by unfold rW;rw [←HV.out,if_pos rfl,Int.toNat_natCast]);have F1:Hid (FrB (2*S+1) (aw e e)):=Hi ((FE'.out.mul FE'.out (by have:=HEn.out;omega)).mono (by omega));have N1:Hid ((aw e e).length≤50):=Hi (nXe (dO (n:=25) (m:=25) (by rw [HEn.out];exact hE) (by rw [HEn.out];exact hE)) (by decide));have F2:Hid (FrB 99 (co plQ k)):=Hi (pV hk48);have N2:Hid ((co plQ k).length≤49):=Hi (nXe (pU k) (by omega));have F3:Hid (FrB (2*S+101) (aw (aw e e) (co plQ k))):=Hi ((F1.out.mul F2.out (by have:=N1.out;omega)).mono (by omega));have N3:Hid ((aw (aw e e) (co plQ k)).length≤98):=Hi (nXe (dO N1.out N2.out) (by decide));clear HV hp0 hp1
 go_upto_region 3 with fail
 refine wpG 9 (fun opIx=>match opIx with
  | 4=>.spec (SH) (default) (SH.v) (fun x w'=>aF w' x (aw e e))
  | 7=>.spec (SH) (default) (SH.v) (fun x w'=>aF w' x (co plQ k))
  | 8=>.spec (SH) (default) (SH.v) (fun x w'=>aF w' x (aw (aw e e) (co plQ k)))
  | _=>.quiet) (fun|8=>[4,7]|_=>[]) fun w0 he0 hz0 hc0 hf0=>?_
 refine wps he0.out rfl rfl (fun w1 hW hG=>?_) fun x30=>?_
 ·exact spc [.slice ea en ec,.slice ea en ec] Tryz.func66 ((fh ea ea en ec en ec e e S S _ (LE.out.ext hW) (LE.out.ext hW) (by omega) (by omega) FE'.out FE'.out (by omega)).weak (fun _ _ _ h=>h.can))
 refine qZ ?_;refine wps he0.out rfl rfl (fun w1 hW hG=>?_) fun x31=>?_
 ·exact spc [.int .i64 (k:Nat)] Tryz.func89 (fX k _ hk48)
 refine qZ ?_;refine wps he0.out rfl rfl (fun w1 hW hG=>?_) fun x32=>?_
 ·have g30:=(hG 4 (by decide):ax _ _).get fun _ e g=>g.ext e
  have g31:=(hG 7 (by decide):ax _ _).get fun _ e g=>g.ext e
  exact spc [x30.v,x31.v] Tryz.func66 ((fh x30.a x31.a x30.n x30.c x31.n x31.c _ _ (2*S+1) 99 _ (g30.raw F1.out.sz (by omega)) (g31.raw F2.out.sz (by decide)) (by have h:=g30.len;have h2:=N1.out;omega) (by have h:=g31.len;have h2:=N2.out;omega) F1.out F2.out (by omega)).weak (fun _ _ _ h=>h.can))
 refine qZ ?_;refine aj ?_;intro w3 hI;have hE:=he0.out.trans hI.ext;have G30:=gT (hI.facts 4);have G31:=gT (hI.facts 7);have G32:=gT (hI.facts 8);clear hI he0 hz0 hc0 hf0;refine mV6 hE ?_ RG LD HX B1 B2 LE;clear RG LD HX B1 B2 LE;intro RG LD HX B1 B2 LE;have hs_w3:=hE.size;clear hE;replace b_B1:=bX3 B1;replace b_B2:=bX3 B2;simp only [pD];obtain ⟨ma,mn,mc⟩:=x32;have LM:=Hi G32.out;clear G30 G31 G32;have hmn:mn≤98:=by have h:=LM.out.len;have h2:=N3.out;simp only at h;omega
 simp only [SH.v]
 go_upto_region 4 with fail
 refine wpG 8 (fun opIx=>match opIx with
  | 3=>.spec (SH) (default) (SH.v) (fun x w'=>aF w' x (tz ((aw (aw e e) (co plQ k)).map (·*g))))
  | 6=>.spec (SH) (default) (SH.v) (fun x w'=>aF w' x (tz d))
  | _=>.quiet) (fun _=>[]) fun w0 he0 hz0 hc0 hf0=>?_
 refine wps he0.out rfl rfl (fun w1 hW hG=>?_) fun x40=>?_
 ·exact spc [.slice ma mn mc,RH.v ⟨gn,ga,gl,gc,gb,gm,gd⟩] Tryz.func77 ((bQ ma mn mc (aw (aw e e) (co plQ k)) ⟨gn,ga,gl,gc,gb,gm,gd⟩ g _ ((LM.out.ext hW).raw F3.out.sz (by omega)) (RG.out.ext hW) (by omega) (F3.out.sz.mono (by omega)) (ZG.out.mono (by omega))).weak (fun _ _ _ h=>h.can))
 refine qZ ?_;refine wps he0.out rfl rfl (fun w1 hW hG=>?_) fun x41=>?_
 ·exact spc [.slice da dn dc] Tryz.func90 ((nq da dn dc d _ (LD.out.ext hW) (by omega)).weak (fun _ _ _ h=>h.can))
 refine qZ ?_;refine aj ?_;intro w4 hI;have hE:=he0.out.trans hI.ext;have G40:=gT (hI.facts 3);have G41:=gT (hI.facts 6);clear hI he0 hz0 hc0 hf0;refine mV7 hE ?_ HX B1 B2 LE LM RG LD;clear HX B1 B2 LE LM RG LD;intro HX B1 B2 LE LM RG LD;have hs_w4:=hE.size;clear hE;replace b_B1:=bX3 B1;replace b_B2:=bX3 B2;simp only [pD];obtain ⟨ua,un,uc⟩:=x40;obtain ⟨va,vn,vc⟩:=x41;simp only [SH.v];go_wp2;refine l9 (F:=fun W=>bodyPost _ _ _ _ _ W) B2.out rfl ?_;intro w5 T;have L1:=Hi (G40.out.put2 B2.out T);have L2:=Hi (G41.out.put2 B2.out T);clear G40 G41;clear RG;clear LE;clear LD;clear LM;replace HX:=Hi (T.ext HX.out (by omega));replace B1:=Hi (T.rest _ _ (by omega) B1.out);replace B2:=Hi (T.bx);have hs_w5:=nle T.size;have hr_w5:=nle T.size.symm;clear T;replace b_B1:=bX3 B1;replace b_B2:=bX3 B2;exact bodyPost_ret (v:=FE (⟨⟨ua,un,uc⟩,⟨va,vn,vc⟩⟩,0)) (by simp [results,Tryz.results34,go_sem,b_B2.1,FE]) rfl ⟨(⟨⟨ua,un,uc⟩,⟨va,vn,vc⟩⟩,0),rfl,HX.out,by rw [HQ.out];exact ⟨rfl,L1.out,L2.out⟩⟩
end Go.Proofs.YtohahgiidooijaaGreat
