/- The chains of the program fit Sturm's theorem. Plain facts. -/
import Derived.Test.YtofhkmcllihgmaaGreatQUK3
import Derived.Test.YtofhkmcllihgmaaGreatQUK9
import Derived.Test.YtofhkmcllihgmaaGreatQUM22
import Derived.Test.YtofhkmcllihgmaaGreatQUK2
import Derived.Test.YtofhkmcllihgmaaGreatQUK11
import Derived.Test.YtofhkmcllihgmaaGreatQUK7
import Derived.Test.YtofhkmcllihgmaaGreatQUK1
set_option linter.unusedVariables false
namespace Go.Proofs.YtofhkmcllihgmaaGreat.Sg
open Go.RowKit Go.Front Go.Num Go.Stab Go.Proofs.YtofhkmcllihgmaaGreat
def chn:Nat→List Rat→List Rat→List (List Rat)
 | 0,_,_=>[]
 | n+1,a,b=>if a=[] then [] else if b=[] then [a] else a :: chn n b (aC ((bA a b).map (·*-1)))
theorem dJ{n:Nat}{a:List Rat}(h:a≠[]):chn (n+1) a []=[a]:=by simp [chn,h]
theorem eF{n:Nat}{a b:List Rat}(h:a≠[])(k:b≠[]):chn (n+1) a b=a :: chn n b (aC ((bA a b).map (·*-1))):=by simp [chn,h,k]
theorem dI(p:List Rat)(x:Rat):evV p x=bO p*evV (aC p) x:=kj (d9 p) x
theorem ct{p:List Rat}:aC p=[]↔tz p=[]:=by rw [←List.length_eq_zero_iff,←List.length_eq_zero_iff,aP]
theorem tf(a b:List Rat)(hb:tz b≠[]):∃ d:Rat,0<d∧∀ x,evV a x+d*evV (aC ((bA a b).map (·*-1))) x=evV (bB a b) x*evV b x:=by
 have h1:=iu a hb;by_cases h0:tz ((bA a b).map (·*-1))=[]
 ·refine ⟨1,by decide,fun x=>?_⟩;have h2:=ev_tznil.1 h0 x;rw [bQ] at h2;rw [ct.2 h0,h1 x];show _+1*(0:Rat)=_;grind
 ·refine ⟨bO ((bA a b).map (·*-1)),br h0,fun x=>?_⟩;have h2:=dI ((bA a b).map (·*-1)) x;rw [←h2,bQ,h1 x];grind
theorem n4(a b:List Rat)(hb:tz b≠[]):(aC ((bA a b).map (·*-1))).length<(tz b).length:=by
 have h1:=(cu a hb).1;have h2:=aj ((bA a b).map (·*-1));rw [List.length_map] at h2;rw [aP];omega
theorem Bq{A B d:Rat}{f g h q:Rat→Rat}(hd:0<d)(hq:Pf q)(he:∀ x,f x+d*h x=q x*g x):Row A B f g h:=by
 obtain ⟨Q,hQ,h1⟩:=hq.on A B;exact ⟨1,d,Q,by decide,hd,hQ,q,h1,fun x=>by have:=he x;grind⟩
theorem yY{A B:Rat}{f u:Rat→Rat}(hu:Pf u)(h:∀ x,u x*f x=1):∃ r,0<r∧∀ x,A≤x→x≤B→Big r (f x):=by
 obtain ⟨M,hM,h1⟩:=hu.on A B;refine ⟨1 / (M+1),vA (by decide) (by grind),fun x ha hb=>?_⟩;have h2:=h x;apply Classical.byContradiction;intro hn;obtain ⟨n1,n2⟩:=lL hn;have h3:=(h1 x ha hb).mul (show Bd (1 / (M+1)) (f x) from ⟨by grind,by grind⟩);rw [h2] at h3;have h4:=h3.2;have h5:=div_cancel (a:=1) (b:=M+1) (by grind);have h6:=vA (show (0:Rat)<1 by decide) (show 0<M+1 by grind);grind
theorem Cs{A B:Rat}:∀ (n:Nat) (a b:List Rat),b.length≤n→tz b=b→a≠[]→Cp (evV a) (evV b)→∃ l,chn (n+1) a b=a :: l∧Ch A B (evV a) (l.map evV)∧(b≠[]→∃ l',l=b :: l'):=by
 intro n;induction n with
 | zero =>
  intro a b h ht ha hc;obtain rfl:b=[]:=List.length_eq_zero_iff.1 (by omega);refine ⟨[],dJ ha,?_,fun h=>absurd rfl h⟩;obtain ⟨u,v,hu,hv,h1⟩:=hc;exact yY hu (fun x=>by have:=h1 x;have e:evV [] x=0:=rfl;rw [e] at this;grind)
 | succ n ih =>
  intro a b h ht ha hc;by_cases hb:b=[]
  ·subst hb;refine ⟨[],dJ ha,?_,fun h=>absurd rfl h⟩;obtain ⟨u,v,hu,hv,h1⟩:=hc;exact yY hu (fun x=>by have:=h1 x;have e:evV [] x=0:=rfl;rw [e] at this;grind)
  ·have hbt:tz b≠[]:=by rw [ht];exact hb
   obtain ⟨d,hd,he⟩:=tf a b hbt;have hl:=n4 a b hbt;rw [ht] at hl;obtain ⟨c,hcc⟩:∃ c,c=aC ((bA a b).map (·*-1)):=⟨_,rfl⟩;have hct:tz c=c:=by rw [hcc,bL]
   rw [←hcc] at he hl;have hcp:Cp (evV b) (evV c):=by
    obtain ⟨u,v,hu,hv,h1⟩:=hc;refine ⟨_,_,(hu.mul (Pf.ev (bB a b))).add hv,hu.smul (-d),fun x=>?_⟩;have e1:=h1 x;have e2:=he x;have e3:evV a x=evV (bB a b) x*evV b x-d*evV c x:=by grind
    rw [e3] at e1;grind
   obtain ⟨l,h1,h2,h3⟩:=ih b c (by omega) hct hb hcp;refine ⟨b :: l,by rw [eF ha hb,←hcc,h1],?_,fun _=>⟨l,rfl⟩⟩;cases l with
   | nil=>exact h2
   | cons e l =>
    have hce:e=c:=by
     by_cases h0:c=[]
     ·subst h0;rw [dJ hb] at h1;cases h1
     ·obtain ⟨l',h4⟩:=h3 h0;cases h4;rfl
    subst hce;exact ⟨Bq hd (Pf.ev (bB a b)) he,h2⟩
theorem xO:∀ (n:Nat) (a b:List Rat),b.length≤n→tz b=b→tz a=a→a≠[]→∃ e,(chn (n+1) a b).getLast?=some e∧e≠[]∧tz e=e∧IsG (evV e) (evV a) (evV b):=by
 have hbase:∀ p:List Rat,IsG (evV p) (evV p) (evV []):=fun p=>⟨⟨_,Pf.const 1,fun x=>by grind⟩,⟨_,Pf.const 0,fun x=>by show (0:Rat)=_*0;grind⟩,_,_,Pf.const 1,Pf.const 0,fun x=>by show _=1*_+0*(0:Rat);grind⟩
 intro n;induction n with
 | zero =>
  intro a b h ht hta ha;obtain rfl:b=[]:=List.length_eq_zero_iff.1 (by omega);exact ⟨a,by rw [dJ ha];rfl,ha,hta,hbase a⟩
 | succ n ih =>
  intro a b h ht hta ha;by_cases hb:b=[]
  ·subst hb;exact ⟨a,by rw [dJ ha];rfl,ha,hta,hbase a⟩
  ·have hbt:tz b≠[]:=by rw [ht];exact hb
   obtain ⟨d,hd,he⟩:=tf a b hbt;have hl:=n4 a b hbt;rw [ht] at hl;obtain ⟨c,hcc⟩:∃ c,c=aC ((bA a b).map (·*-1)):=⟨_,rfl⟩;have hct:tz c=c:=by rw [hcc,bL]
   rw [←hcc] at he hl;obtain ⟨e,h1,h2,h3,h4,h5,u,v,hu,hv,h6⟩:=ih b c (by omega) hct ht hb;have hne:chn (n+1) b c≠[]:=fun h=>by rw [h] at h1;cases h1
   refine ⟨e,?_,h2,h3,?_,h4,?_⟩
   ·rw [eF ha hb,←hcc];obtain ⟨x,y,hxy⟩:=List.exists_cons_of_ne_nil hne;rw [hxy] at h1 ⊢;rw [List.getLast?_cons_cons];exact h1
   ·obtain ⟨w,hw,k⟩:=(h4.mull (Pf.ev (bB a b))).sub (h5.mull (Pf.const d));exact ⟨w,hw,fun x=>by rw [←k x];have:=he x;grind⟩
   ·have hdi:=Rat.mul_inv_cancel d (by grind);have hce:∀ x,evV c x=d⁻¹*(evV (bB a b) x*evV b x-evV a x):=fun x=>by
     have:=he x;have e1:d*evV c x=evV (bB a b) x*evV b x-evV a x:=by grind
     rw [←e1,←Rat.mul_assoc,Rat.mul_comm d⁻¹,hdi,Rat.one_mul]
    refine ⟨_,_,hv.smul (-d⁻¹),hu.add ((hv.smul d⁻¹).mul (Pf.ev (bB a b))),fun x=>?_⟩;rw [h6 x,hce x];grind
def cz(p:List Rat):List (List Rat):=chn (p.length+1) (aC p) (aC (aT p))
theorem xD{p:List Rat}(h:tz p≠[])(x:Rat):evD (aC p) x=bO (aT p) / bO p*evV (aC (aT p)) x:=by
 have hm:=br h;have h1:evD p x=bO p*evD (aC p) x:=by
  rw [←eK,←eK];refine kj (fun i=>?_) x;rw [fZ,fZ,d9 p];grind
 have h2:=dI (aT p) x;rw [eK,h1] at h2;have h3:=div_cancel (a:=bO (aT p)) (b:=bO p) (by grind);have h4:=Rat.mul_inv_cancel (bO p) (by grind);have h5:(bO p)⁻¹*(bO p*evD (aC p) x)=(bO p)⁻¹*(bO (aT p)*evV (aC (aT p)) x):=by rw [h2]
 rw [←Rat.mul_assoc,Rat.mul_comm _ (bO p),h4,Rat.one_mul] at h5;rw [h5,Rat.div_def];grind
theorem Bj{p:List Rat}(h:tz p≠[])(hc:Cp (evV p) (evD p)):Cp (evV (aC p)) (evV (aC (aT p))):=by
 obtain ⟨u,v,hu,hv,h1⟩:=hc;refine ⟨_,_,hu.smul (bO p),hv.smul (bO (aT p)),fun x=>?_⟩;have e1:=h1 x;rw [dI p x,←eK,dI (aT p) x] at e1;grind
theorem pC{p:List Rat}(h:tz p≠[])(hc:Cp (evV p) (evD p))(A B:Rat):∃ l,cz p=aC p :: l∧Fit A B (evV (aC p)) (l.map evV):=by
 have hlen:(aC (aT p)).length≤p.length:=by
  rw [aP];obtain ⟨n,hn,-⟩:=eT h;have:=iS p n hn;have:=aj p;omega
 obtain ⟨l,h1,h2,h3⟩:=Cs (A:=A) (B:=B) p.length (aC p) (aC (aT p)) hlen (bL _) (fun h0=>h (ct.1 h0)) (Bj h hc);refine ⟨l,h1,h2,qo _ A B,?_,?_⟩
 ·intro g hg;obtain ⟨q,-,rfl⟩:=List.mem_map.1 hg;exact qo q A B
 ·intro g l' hl;by_cases hb:aC (aT p)=[]
  ·exfalso;have h4:cz p=[aC p]:=by unfold cz;rw [hb,dJ (fun h0=>h (ct.1 h0))]
   have h5:cz p=aC p :: l:=h1;rw [h4] at h5;cases h5;cases hl
  ·obtain ⟨l2,hl2⟩:=h3 hb;subst hl2;rw [List.map_cons] at hl;cases hl;obtain ⟨K,hK,h6⟩:=qk (aC p) A B;have hp1:=br h;have hp2:=br (p:=aT p) (fun h0=>hb (ct.2 h0));refine ⟨bO (aT p) / bO p,K,vA hp2 hp1,hK,fun s t k1 k2 k3=>?_⟩;have h7:=h6 s t k1 k2 k3;rw [xD h] at h7;exact h7
def sqfV(p:List Rat):List Rat:=bu (bB p (dL p (aT p)))
def jN(p:List Rat):List Rat:=if 2≤((cz p).getLast?.getD []).length then sqfV p else p
structure Rt (p r:List Rat):Prop where
 ne:tz r≠[]
 cp:Cp (evV r) (evD r)
 dv:∃ g q1:Rat→Rat,Pf g∧Pf q1∧IsG g (evV p) (evD p)∧(∀ x,evV p x=g x*evV r x)∧(∀ x,evD p x=g x*q1 x)
theorem jS{p q:List Rat}(hq:tz q≠[])(h:Dv (evV q) (evV p)):∀ x,evV p x=evV q x*evV (bB p q) x:=by
 obtain ⟨c,⟨s,rfl⟩,h1⟩:=h;have h2:=ev_inj (p:=p) (q:=aD s q) (fun x=>by rw [bg,h1 x];grind);have h3:=jp (p:=p) hq (s:=seq s) (r:=fun _=>0) (F:=1) (N:=s.length) (Bd.seq s) (fun i _=>rfl) (fun n=>by
  rw [Rat.one_mul,h2 n,dh,fT];grind)
 intro x;rw [h1 x]
 congr 1
 exact (kj (c:=1) (fun i=>h3.1 i) x).trans (Rat.one_mul _)
theorem yH{p g:List Rat}(h:tz p≠[])(hG:IsG (evV g) (evV p) (evD p)):tz g≠[]:=fun h0=>h (ev_tznil.2 fun x=>by
 obtain ⟨c,-,h1⟩:=hG.1;rw [h1 x,ev_tznil.1 h0 x];grind)
theorem yP{p g:List Rat}(hG:IsG (evV g) (evV p) (evV (aT p))):IsG (evV g) (evV p) (evD p):=by
 rw [show evD p=evV (aT p) from funext fun x=>(eK p x).symm];exact hG
theorem wT{f g:Rat→Rat}(c:Rat)(h:IsD f g)(hf:Pf f)(hg:Pf g):IsD (fun x=>c*f x) (fun x=>c*g x):=by
 have h1:=IsD.mul (IsD.const c) h (Pf.const c) hf (Pf.const 0);have e:(fun x=>0*f x+c*g x)=fun x=>c*g x:=funext fun x=>by grind
 rw [e] at h1;exact h1
theorem pw{p:List Rat}(h:tz p≠[]):Rt p (sqfV p):=by
 have hG:=yP (ir p (aT p));have hg:=yH h hG;have h1:=jS hg hG.1;obtain ⟨q1,hq1,h2⟩:=hG.2.1;obtain ⟨c,hc,h3⟩:=nj (eJ (bB p (dL p (aT p))));have h3':∀ x,evV (sqfV p) x=c*evV (bB p (dL p (aT p))) x:=h3;have hci:=Rat.mul_inv_cancel c hc;have hmain:=vJ (tz p).length p (Nat.le_refl _) h _ _ (Pf.ev (dL p (aT p))) (Pf.ev (bB p (dL p (aT p)))) hG h1 _ (Pf.der _) (IsD.ev _);have hd:∀ x,evD (sqfV p) x=c*evD (bB p (dL p (aT p))) x:=fun x=>by
  have e:=wT c (IsD.ev (bB p (dL p (aT p)))) (Pf.ev _) (Pf.der _);rw [←show evV (sqfV p)=fun x=>c*evV (bB p (dL p (aT p))) x from funext h3'] at e;exact (IsD.ev (sqfV p)).uniq e x
 refine ⟨fun h0=>h (ev_tznil.2 fun x=>?_),?_,?_⟩
 ·have h4:=ev_tznil.1 h0 x;rw [h3' x] at h4;rcases Rat.mul_eq_zero.1 h4 with h5|h5
  ·exact absurd h5 hc
  ·rw [h1 x,h5];grind
 ·obtain ⟨u,v,hu,hv,h4⟩:=hmain;refine ⟨_,_,hu.smul c⁻¹,hv.smul c⁻¹,fun x=>?_⟩;have h5:=h4 x;rw [h3' x,hd x];grind
 ·refine ⟨fun x=>c⁻¹*evV (dL p (aT p)) x,fun x=>c*q1 x,(Pf.ev _).smul _,hq1.smul _,?_,fun x=>?_,fun x=>?_⟩
  ·obtain ⟨⟨a,ha,h4⟩,⟨b,hb,h5⟩,u,v,hu,hv,h6⟩:=hG;refine ⟨⟨_,ha.smul c,fun x=>by rw [h4 x];grind⟩,⟨_,hb.smul c,fun x=>by rw [h5 x];grind⟩,_,_,hu.smul c⁻¹,hv.smul c⁻¹,fun x=>by show c⁻¹*evV (dL p (aT p)) x=_;rw [h6 x];grind⟩
  ·rw [h3' x,h1 x];grind
  ·rw [h2 x];grind
theorem sJ{p:List Rat}(h:tz p≠[]):Rt p (jN p):=by
 unfold jN;split
 ·exact pw h
 ·rename_i hl
  have hlen:(aC (aT p)).length≤p.length:=by
   rw [aP];obtain ⟨n,hn,-⟩:=eT h;have:=iS p n hn;have:=aj p;omega
  obtain ⟨e,h1,h2,h3,h4,h5,u,v,hu,hv,h6⟩:=xO p.length (aC p) (aC (aT p)) hlen (bL _) (bL _) (fun h0=>h (ct.1 h0));have h7:(cz p).getLast?=some e:=h1;rw [h7,Option.getD_some] at hl;have h8:=j7 (p:=e) (by rw [h3];omega);have h9:seq e 0≠0:=fun h0=>h2 (by rw [←h3];exact ev_tznil.2 fun x=>by rw [h8 x,h0])
  have h10:=Rat.mul_inv_cancel _ h9;have hm1:=br h;have hcp:Cp (evV p) (evD p):=by
   by_cases h0:tz (aT p)=[]
   ·refine ⟨_,_,(hu.smul (bO p)⁻¹).smul (seq e 0)⁻¹,Pf.const 0,fun x=>?_⟩;have k:=h6 x;rw [h8 x,(ev_tznil (p:=aC (aT p))).1 (by rw [bL];exact ct.2 h0) x] at k;have k2:=dI p x;have k3:=Rat.mul_inv_cancel (bO p) (by grind);have k4:(bO p)⁻¹*evV p x=evV (aC p) x:=by rw [k2,←Rat.mul_assoc,Rat.mul_comm _ (bO p),k3,Rat.one_mul]
    have k5:(seq e 0)⁻¹*(u x*evV (aC p) x)=1:=by
     rw [show u x*evV (aC p) x=seq e 0 by grind,Rat.mul_comm];exact h10
    rw [←k4] at k5;grind
   ·have hm2:=br h0;refine ⟨_,_,(hu.smul (bO p)⁻¹).smul (seq e 0)⁻¹,(hv.smul (bO (aT p))⁻¹).smul (seq e 0)⁻¹,fun x=>?_⟩;have k:=h6 x;rw [h8 x] at k;have k2:=dI p x;have k3:=Rat.mul_inv_cancel (bO p) (by grind);have k4:(bO p)⁻¹*evV p x=evV (aC p) x:=by rw [k2,←Rat.mul_assoc,Rat.mul_comm _ (bO p),k3,Rat.one_mul]
    have j2:=dI (aT p) x;rw [eK] at j2;have j3:=Rat.mul_inv_cancel (bO (aT p)) (by grind);have j4:(bO (aT p))⁻¹*evD p x=evV (aC (aT p)) x:=by rw [j2,←Rat.mul_assoc,Rat.mul_comm _ (bO (aT p)),j3,Rat.one_mul]
    have k5:(seq e 0)⁻¹*(u x*evV (aC p) x+v x*evV (aC (aT p)) x)=1:=by
     rw [←k,Rat.mul_comm];exact h10
    rw [←k4,←j4] at k5;grind
  refine ⟨h,hcp,fun _=>1,evD p,Pf.const 1,Pf.der p,?_,fun x=>by grind,fun x=>by grind⟩;obtain ⟨a,b,ha,hb,h11⟩:=hcp;exact ⟨⟨_,Pf.ev p,fun x=>by grind⟩,⟨_,Pf.der p,fun x=>by grind⟩,a,b,ha,hb,fun x=>(h11 x).symm⟩
end Go.Proofs.YtofhkmcllihgmaaGreat.Sg
/- Roots of a polynomial and of that with each root once; what a count says of two halves. Plain facts. -/
set_option linter.unusedVariables false
namespace Go.Proofs.YtofhkmcllihgmaaGreat.Sg
open Go.RowKit Go.Front Go.Num Go.Stab Go.Proofs.YtofhkmcllihgmaaGreat
theorem pZ(a x:Rat):evV [-a,1] x=x-a:=by
 show (0*x+1)*x+-a=x-a;grind
theorem Pf.lin(a:Rat):Pf (fun x=>x-a):=⟨[-a,1],funext fun x=>(pZ a x).symm⟩
theorem yE(a:Rat):tz [-a,1]≠[]:=fun h=>by
 have h1:=ev_tznil.1 h (a+1);rw [pZ] at h1;grind
theorem IsD.lin(a:Rat):IsD (fun x=>x-a) (fun _=>1):=fun A B=>⟨0,Rat.le_refl,fun s t _ _ _=>⟨by grind,by grind⟩⟩
theorem yN{f:Rat→Rat}(hf:Pf f){a:Rat}(h0:f a=0):∃ g,Pf g∧∀ x,f x=(x-a)*g x:=by
 obtain ⟨p,rfl⟩:=hf;have h1:=iu p (yE a);have h2:=(cu p (yE a)).1;have h3:(tz (bA p [-a,1])).length≤1:=by
  have k1:=aj (bA p [-a,1]);have k2:=aj [-a,1];simp only [List.length_cons,List.length_nil] at k2;omega
 have h4:=j7 h3;have h5:seq (bA p [-a,1]) 0=0:=by
  have k:=h1 a;rw [h0,h4 a,pZ] at k;grind
 exact ⟨_,Pf.ev (bB p [-a,1]),fun x=>by rw [h1 x,h4 x,h5,pZ];grind⟩
theorem tw{p q:List Rat}{a:Rat}(h:∀ x,evV p x=(x-a)*evV q x)(i:Nat):seq p i=sh (seq q) i-a*seq q i:=by
 have h1:=ev_inj (p:=p) (q:=cG (0 :: q) (q.map (·*(-a)))) (fun x=>by
  rw [iP,bQ,h x];show _=(evV q x*x+0)+_;grind) i
 rw [h1,ff,jJ,aU];grind
theorem mX{p:List Rat}{i:Nat}(h:seq p i≠0):i<(tz p).length:=by
 apply Classical.byContradiction;intro hn;apply h;rw [←bq];exact bs (by omega)
theorem tx{p q:List Rat}{a:Rat}(h:∀ x,evV p x=(x-a)*evV q x)(hq:tz q≠[]):(tz q).length<(tz p).length:=by
 obtain ⟨m,hm,h0⟩:=eT hq;have h1:=tw h (m+1);have h2:seq q (m+1)=0:=by rw [←bq];exact bs (by omega)
 have h3:sh (seq q) (m+1)=seq q m:=rfl;rw [h2,h3] at h1;have:=mX (p:=p) (i:=m+1) (by rw [h1];grind);omega
theorem rD{p:List Rat}(h:tz p≠[]):∃ x,evV p x≠0:=Classical.byContradiction fun hn=>h (ev_tznil.2 fun x=>Classical.byContradiction fun h2=>hn ⟨x,h2⟩)
theorem DJ(a:Rat):∀ (n:Nat) (p:List Rat),(tz p).length≤n→tz p≠[]→∃ (k:Nat) (g:Rat→Rat),Pf g∧g a≠0∧∀ x,evV p x=(x-a) ^ k*g x:=by
 intro n;induction n with
 | zero=>intro p h h0;exact absurd (List.length_eq_zero_iff.1 (by omega)) h0
 | succ n ih =>
  intro p hn h0;by_cases h1:evV p a=0
  ·obtain ⟨g,⟨q,rfl⟩,h2⟩:=yN (Pf.ev p) h1;have hq:tz q≠[]:=fun h=>by
    obtain ⟨y,hy⟩:=rD h0;exact hy (by rw [h2,ev_tznil.1 h y];grind)
   have hl:=tx h2 hq;obtain ⟨k,g,hg,hga,h3⟩:=ih q (by omega) hq;exact ⟨k+1,g,hg,hga,fun x=>by rw [h2,h3,Rat.pow_succ];grind⟩
  ·exact ⟨0,evV p,Pf.ev p,h1,fun x=>by rw [Rat.pow_zero];grind⟩
theorem Pf.pow{f:Rat→Rat}(h:Pf f)(k:Nat):Pf (fun x=>f x ^ k):=by
 induction k with
 | zero =>
  have e:(fun x=>f x ^ 0)=fun _=>(1:Rat):=funext fun x=>Rat.pow_zero _
  rw [e];exact Pf.const 1
 | succ k ih =>
  have e:(fun x=>f x ^ (k+1))=fun x=>f x ^ k*f x:=funext fun x=>Rat.pow_succ _ _
  rw [e];exact ih.mul h
theorem IsD.pow(a:Rat)(k:Nat):IsD (fun x=>(x-a) ^ (k+1)) (fun x=>((k+1:Nat):Rat)*(x-a) ^ k):=by
 induction k with
 | zero =>
  have e:(fun x=>(x-a) ^ (0+1))=fun x:Rat=>x-a:=funext fun x=>by rw [Rat.pow_succ,Rat.pow_zero];grind
  have e2:(fun x=>((0+1:Nat):Rat)*(x-a) ^ 0)=fun _=>(1:Rat):=funext fun x=>by rw [Rat.pow_zero,Rat.mul_one];rfl
  rw [e,e2];exact IsD.lin a
 | succ k ih =>
  have h1:=IsD.mul (IsD.lin a) ih (Pf.lin a) ((Pf.lin a).pow (k+1)) (Pf.const 1);have e:(fun x=>(x-a) ^ (k+1+1))=fun x:Rat=>(x-a)*(x-a) ^ (k+1):=funext fun x=>by rw [Rat.pow_succ];grind
  have e2:(fun x=>((k+1+1:Nat):Rat)*(x-a) ^ (k+1))=fun x:Rat=>1*(x-a) ^ (k+1)+(x-a)*(((k+1:Nat):Rat)*(x-a) ^ k):=funext fun x=>by
   rw [Rat.pow_succ,show ((k+1+1:Nat):Rat)=((k+1:Nat):Rat)+1 by rw [Rat.natCast_add];rfl];grind
  rw [e,e2];exact h1
theorem Rt.root{p r:List Rat}(h:Rt p r)(hp:tz p≠[])(a:Rat):evV r a=0↔evV p a=0:=by
 obtain ⟨hne,hcp,g,q1,hg,hq1,hG,h1,h2⟩:=h;refine ⟨fun h0=>by rw [h1,h0];grind,fun h0=>Classical.byContradiction fun hr=>?_⟩;obtain ⟨gl,rfl⟩:=hg;have hgl:tz gl≠[]:=fun hh=>by
  obtain ⟨y,hy⟩:=rD hp;exact hy (by rw [h1,ev_tznil.1 hh y];grind)
 obtain ⟨k,g1,hg1,hga,h3⟩:=DJ a _ gl (Nat.le_refl _) hgl;have h4:evV gl a=0:=by
  have e:=h1 a;rw [h0] at e;rcases Rat.mul_eq_zero.1 e.symm with h5|h5
  ·exact h5
  ·exact absurd h5 hr
 cases k with
 | zero =>
  rw [h3,Rat.pow_zero] at h4;exact hga (by grind)
 | succ k =>
  obtain ⟨g1',hg1',hd1⟩:=sW hg1;have hgd:=(IsD.mul (IsD.pow a k) hd1 ((Pf.lin a).pow (k+1)) hg1 (((Pf.lin a).pow k).smul _)).uniq (by
   have e:=IsD.ev gl;rw [show evV gl=fun x=>(x-a) ^ (k+1)*g1 x from funext h3] at e;exact e)
  have hsl:∀ x,evD gl x*evV r x+evV gl x*evD r x=evV gl x*q1 x:=fun x=>by
   have e:=(IsD.mul (IsD.ev gl) (IsD.ev r) (Pf.ev gl) (Pf.ev r) (Pf.der gl)).uniq (by
    have:=IsD.ev p;rw [show evV p=fun x=>evV gl x*evV r x from funext h1] at this;exact this) x
   rw [h2 x] at e;exact e
  have key:=im (f:=fun x=>(x-a) ^ k) (g:=fun x=>(((k+1:Nat):Rat)*g1 x+(x-a)*g1' x)*evV r x) (h:=fun x=>(x-a)*(g1 x*(q1 x-evD r x)))
   ((Pf.lin a).pow k) ((((hg1.smul _).add ((Pf.lin a).mul hg1'))).mul (Pf.ev r)) ((Pf.lin a).mul (hg1.mul (hq1.sub (Pf.der r)))) (fun x=>by
    have e1:=hsl x;have e2:=hgd x;rw [←e2,h3 x,Rat.pow_succ] at e1;have e3:(((k+1:Nat):Rat)*(x-a) ^ k*g1 x+(x-a) ^ k*(x-a)*g1' x)*evV r x+(x-a) ^ k*(x-a)*g1 x*evD r x=(x-a) ^ k*(x-a)*g1 x*q1 x:=e1;grind) ⟨a+1,by
    show (a+1-a) ^ k≠0;have e:a+1-a=1:=by grind
    rw [e];have:∀ k:Nat,(1:Rat) ^ k=1:=fun k=>by
     induction k with
     | zero=>exact Rat.pow_zero _
     | succ k ih=>rw [Rat.pow_succ,ih,Rat.mul_one]
    rw [this];decide⟩ a
  have key2:(((k+1:Nat):Rat)*g1 a+(a-a)*g1' a)*evV r a=(a-a)*(g1 a*(q1 a-evD r a)):=key;have key3:((k+1:Nat):Rat)*g1 a*evV r a=0:=by grind
  rcases Rat.mul_eq_zero.1 key3 with h5|h5
  ·rcases Rat.mul_eq_zero.1 h5 with h6|h6
   ·exact yx h6
   ·exact hga h6
  ·exact hr h5
def gu(l:List (List Rat))(x:Rat):Nat:=vr 0 (l.map fun m=>sg (evV m x))
def rtV(l:List (List Rat))(x:Rat):Bool:=decide (sg (evV (l.getD 0 []) x)=0)
def DH(p:List Rat)(lo hi:Rat):Int:=(gu (cz (jN p)) lo:Int)-gu (cz (jN p)) hi+(if rtV (cz (jN p)) lo=true then 1 else 0)
theorem sM{p:List Rat}(h:tz p≠[]):∃ l,cz p=aC p :: l:=by
 have h1:aC p≠[]:=fun h0=>h (ct.1 h0)
 unfold cz;by_cases h2:aC (aT p)=[]
 ·rw [h2,dJ h1];exact ⟨_,rfl⟩
 ·rw [eF h1 h2];exact ⟨_,rfl⟩
theorem vK{p:List Rat}(h:tz p≠[])(x:Rat):evV (aC p) x=0↔evV p x=0:=by
 have h1:=dI p x;have h2:=br h;constructor
 ·intro h0;rw [h1,h0];grind
 ·intro h0;rw [h0] at h1;rcases Rat.mul_eq_zero.1 h1.symm with h3|h3
  ·rw [h3] at h2;exact absurd h2 Rat.lt_irrefl
  ·exact h3
theorem zC{p:List Rat}(h:tz p≠[])(x:Rat):rtV (cz (jN p)) x=true↔evV p x=0:=by
 have hr:=sJ h;obtain ⟨l,e⟩:=sM hr.ne;rw [←hr.root h x,←vK hr.ne x,e];unfold rtV;rw [decide_eq_true_iff];exact pz
end Go.Proofs.YtofhkmcllihgmaaGreat.Sg
/- Divisors of a product of linear factors and of a quadratic one without roots; their coefficients. Plain facts. -/
set_option linter.unusedVariables false
namespace Go.Proofs.YtofhkmcllihgmaaGreat.Sg
open Go.RowKit Go.Front Go.Num Go.Stab Go.Proofs.YtofhkmcllihgmaaGreat
def Pd:List Rat→Rat→Rat
 | [],_=>1
 | a :: l,x=>(x-a)*Pd l x
def Qd:Option Rat→Rat→Rat
 | none,_=>1
 | some b,x=>x*x+b
def Fac(p rl:List Rat)(b:Option Rat):Prop:=∃ c:Rat,c≠0∧∀ x,evV p x=c*(Pd rl x*Qd b x)
def Tw(a:Rat):Prop:=∃ z:Int,a*12=(z:Rat)∧z.natAbs≤12
theorem wL{p:List Rat}(h:tz p≠[]):aS (tz (bu p))=1:=by
 rw [eI,iL h];have h1:=bY h;unfold aS at *
 rw [List.length_map];rw [List.getD_eq_getElem?_getD,List.getElem?_map];have h2:=List.length_pos_iff.2 h;rw [List.getElem?_eq_getElem (by omega)];rw [List.getD_eq_getElem?_getD,List.getElem?_eq_getElem (by omega)] at h1 ⊢;show (tz p)[(tz p).length-1]*(((1:Int):Rat) / (tz p)[(tz p).length-1])=1;rw [Rat.mul_comm];exact div_cancel h1
end Go.Proofs.YtofhkmcllihgmaaGreat.Sg
/- What the count says of a product of linear factors. Plain facts. -/
set_option linter.unusedVariables false
namespace Go.Proofs.YtofhkmcllihgmaaGreat.Sg
open Go.RowKit Go.Front Go.Num Go.Stab Go.Proofs.YtofhkmcllihgmaaGreat
theorem mD(a b:Rat):sg (a*b)=sg a*sg b:=by
 rcases eC a with ⟨h,e⟩|⟨h,e⟩|⟨h,e⟩ <;> rcases eC b with ⟨k,f⟩|⟨k,f⟩|⟨k,f⟩ <;> rw [e,f]
 ·have:=Rat.mul_pos (a:=-a) (b:=-b) (by grind) (by grind);rw [sg_pos (by grind)];rfl
 ·rw [k,Rat.mul_zero,iH];rfl
 ·have:=Rat.mul_pos (a:=-a) (b:=b) (by grind) k;rw [dD (by grind)];rfl
 ·rw [h,Rat.zero_mul,iH];rfl
 ·rw [h,Rat.zero_mul,iH];rfl
 ·rw [h,Rat.zero_mul,iH];rfl
 ·have:=Rat.mul_pos (a:=a) (b:=-b) h (by grind);rw [dD (by grind)];rfl
 ·rw [k,Rat.mul_zero,iH];rfl
 ·rw [sg_pos (Rat.mul_pos h k)];rfl
def cn:List Rat→Rat→Rat→Nat
 | [],_,_=>0
 | d :: ds,lo,hi=>(if lo<d∧d≤hi then 1 else 0)+cn ds lo hi
def cc:List Rat→Rat→Rat→Nat
 | [],_,_=>0
 | d :: ds,lo,hi=>(if lo≤d∧d≤hi then 1 else 0)+cc ds lo hi
theorem o8{r:List Rat}{l:List (List Rat)}(e:cz r=aC r :: l)(x:Rat):gu (cz r) x=V (evV (aC r)) (l.map evV) x:=by
 unfold gu V sgs;rw [e];simp only [List.map_cons,List.map_map];rfl
end Go.Proofs.YtofhkmcllihgmaaGreat.Sg
/- The answers of package sturm, in plain terms, and the examples of the chapter. -/
set_option linter.unusedVariables false
namespace Go.Proofs.YtofhkmcllihgmaaGreat.Sg
open Go.RowKit Go.Front Go.Num Go.Stab Go.Proofs.YtofhkmcllihgmaaGreat
def posV(p:List Rat)(lo hi:Rat):Bool:=if tz p=[] then false else if sg (evV (aC p) lo)≤0 then false else decide (DH p lo hi=0)
end Go.Proofs.YtofhkmcllihgmaaGreat.Sg
/- What the answers of package sturm say: positive, nowhere negative. Plain facts. -/
set_option linter.unusedVariables false
namespace Go.Proofs.YtofhkmcllihgmaaGreat.Sg
open Go.RowKit Go.Front Go.Num Go.Stab Go.Proofs.YtofhkmcllihgmaaGreat
theorem DG{r:List Rat}(h:tz r≠[])(hc:Cp (evV r) (evD r)):∃ l,cz r=aC r :: l∧∀ A B,Fit A B (evV (aC r)) (l.map evV):=by
 obtain ⟨l,e,-⟩:=pC h hc 0 0;refine ⟨l,e,fun A B=>?_⟩;obtain ⟨l',e',h'⟩:=pC h hc A B;have:l=l':=by rw [e] at e';exact (List.cons.inj e').2
 rw [this];exact h'
end Go.Proofs.YtofhkmcllihgmaaGreat.Sg
/- A polynomial with a positive lower bound on an interval is said to be positive there. Plain facts. -/
set_option linter.unusedVariables false
namespace Go.Proofs.YtofhkmcllihgmaaGreat.Sg
open Go.RowKit Go.Front Go.Num Go.Stab Go.Proofs.YtofhkmcllihgmaaGreat
theorem CU{c x:Rat}(h:0<c):sg (c*x)=sg x:=by rw [mD,sg_pos h];omega
theorem ic{p:List Rat}(h:tz p≠[])(x:Rat):sg (evV (aC p) x)=sg (evV p x):=by rw [dI p x,CU (br h)]
theorem pt{A B d:Rat}{r:Rat→Rat}(hr:Pf r)(hd:0<d)(hb:∀ x,A≤x→x≤B→Big d (r x)):∀ s t,A≤s→s<t→t≤B→sg (r t)=sg (r s):=by
 obtain ⟨K,hK,k1⟩:=hr.lip A B;obtain ⟨e,he,k2⟩:=iG hK hd;exact qi he (fun s t h1 h2 h3 h4=>((hb s h1 (by grind)).sign k1 h1 (by grind) h3 (k2 _ h4)).1) (fun s t u _ _ _ _ h1 h2=>h2.trans h1)
theorem pos_on{p:List Rat}{c:Rat}(hc:0<c)(lo hi:Rat)(hlh:lo≤hi)(he:∀ x,lo≤x→x≤hi→c≤evV p x):posV p lo hi=true:=by
 have h0:tz p≠[]:=fun h=>by have h1:=he lo Rat.le_refl hlh;rw [ev_tznil.1 h lo] at h1;grind
 unfold posV;rw [if_neg h0,if_neg (by rw [ic h0,sg_pos (by have:=he lo Rat.le_refl hlh;grind)];decide),decide_eq_true_iff];have hr:=sJ h0;obtain ⟨l,e,hfit⟩:=DG hr.ne hr.cp;have hnr:rtV (cz (jN p)) lo=false:=by
  cases k:rtV (cz (jN p)) lo with
  | false=>rfl
  | true =>
   have h1:=(zC h0 lo).1 k;have:=he lo Rat.le_refl hlh;rw [h1] at this;grind
 unfold DH;rw [hnr,if_neg (by decide),o8 e,o8 e];rcases Rat.le_iff_lt_or_eq.1 hlh with h1|h1
 ·obtain ⟨g,q1,hg,-,-,k1,-⟩:=hr.dv;obtain ⟨M,hM,k2⟩:=hg.on lo hi;have hm:=br hr.ne;have hM1:0<M+1:=by grind
  have hd:0<c / (M+1):=vA hc hM1;have hdc:=div_cancel (a:=c) (b:=M+1) (by grind);have hbig:∀ x,lo≤x→x≤hi→Big (c / (M+1)) (evV (jN p) x):=fun x h2 h3=>Classical.byContradiction fun hn=>by
   obtain ⟨b1,b2⟩:=lL hn;generalize c / (M+1)=d at *
   have b0:Bd d (evV (jN p) x):=⟨by grind,by grind⟩;have b3:=((k2 x h2 h3).mul b0).2;have h4:=he x h2 h3;rw [k1 x] at h4;grind
  have hst:=pt (Pf.ev (jN p)) hd hbig;have hV:=(hfit lo hi).calm Rat.le_refl h1 Rat.le_refl (fun s t s1 s2 s3 _=>by rw [ic hr.ne,ic hr.ne];exact hst s t s1 s2 s3);rw [hV];omega
 ·rw [h1];omega
end Go.Proofs.YtofhkmcllihgmaaGreat.Sg
/- A polynomial with a certificate that Check accepts has a positive lower bound on its interval, so Sturm's count says positive. Plain facts. -/
set_option linter.unusedVariables false
namespace Go.Proofs.YtofhkmcllihgmaaGreat
open Go.Num Stab
theorem Bu{p:List Rat}{a b:Rat}(h:psV p a b=true):∃ c,0<c∧∀ x,a≤x→x≤b→c≤evV p x:=by
 have hp:p≠[]:=fun e=>by rw [e] at h;simp [psV] at h
 rw [sT hp] at h;refine ⟨mnL (bcL p a b),of_decide_eq_true h,fun x h1 h2=>?_⟩;have:=(CV hp 0 a b x h1 h2).1;unfold rbn at this;grind
theorem AM{p:List Rat}:∀ {l:List (Rat×Rat)} {at' hi:Rat},l≠[]→ckV p at' l hi=true→∃ c,0<c∧∀ x,at'≤x→x≤hi→c≤evV p x
 | [],_,_,h,_=>absurd rfl h
 | (a,b) :: l,at',hi,_,h=>by
  simp only [ckV,Bool.and_eq_true] at h;obtain ⟨⟨h3,h4⟩,h5⟩:=h;have h3:a=at':=of_decide_eq_true h3;subst h3;obtain ⟨c,hc,k1⟩:=Bu h4;cases l with
  | nil =>
   have:b=hi:=of_decide_eq_true h5;subst this;exact ⟨c,hc,k1⟩
  | cons d l =>
   obtain ⟨e,he,k2⟩:=AM (by simp) h5;by_cases hce:c≤e
   ·refine ⟨c,hc,fun x h1 h2=>?_⟩;by_cases hx:x≤b
    ·exact k1 x h1 hx
    ·have:=k2 x (by grind) h2;grind
   ·refine ⟨e,he,fun x h1 h2=>?_⟩;by_cases hx:x≤b
    ·have:=k1 x h1 hx;grind
    ·exact k2 x (by grind) h2
theorem oO{p:List Rat}{lo hi:Rat}{l:List (Rat×Rat)}(hlh:lo≤hi)(h:ckE p lo hi l=0):Sg.posV p lo hi=true∧∀ x,lo≤x→x≤hi→0<evV p x:=by
 have h1:l≠[]∧ckV p lo l hi=true:=Classical.byContradiction fun hn=>by
  unfold ckE at h;rw [if_neg hn] at h;exact absurd h (by decide)
 obtain ⟨c,hc,k⟩:=AM h1.1 h1.2;exact ⟨Sg.pos_on hc lo hi hlh k,fun x a b=>by have:=k x a b;grind⟩
end Go.Proofs.YtofhkmcllihgmaaGreat
/- The chain of remainders: plain facts for the walk of remainders. -/
set_option linter.unusedVariables false
namespace Go.Proofs.YtofhkmcllihgmaaGreat
open Go.RowKit Go.Front Go.Num Stab
theorem fG{c:Rat}(hc:c≠0)(l:List Rat):tz (l.map (·*c))=(tz l).map (·*c):=by
 induction l using Stab.snoc_ind with
 | h0=>rfl
 | h1 l r ih =>
  by_cases hr:r=0
  ·subst hr;rw [List.map_append,List.map_cons,List.map_nil,Rat.zero_mul,eB,eB,ih]
  ·have h2:r*c≠0:=fun h=>by
    rcases Rat.mul_eq_zero.1 h with h3|h3
    ·exact hr h3
    ·exact hc h3
   rw [List.map_append,List.map_cons,List.map_nil,fF _ h2,fF _ hr,List.map_append,List.map_cons,List.map_nil]
theorem mr{c:Rat}(hc:0<c)(a:Rat):(a*c).abs=a.abs*c:=by
 have hc2:=Rat.le_of_lt hc;unfold Rat.abs;by_cases h:0≤a
 ·rw [if_pos h,if_pos (Rat.mul_nonneg h hc2)]
 ·rw [if_neg h];have h1:0 < -a:=by grind
  have h2:=Rat.mul_pos h1 hc;rw [if_neg (by grind)];grind
theorem jq{c:Rat}(hc:c≠0)(a:Rat){b:Rat}(hb:b≠0):a*c / (b*c)=a / b:=by
 have hbc:b*c≠0:=fun h=>by rcases Rat.mul_eq_zero.1 h with h|h <;> contradiction
 have h1:=dF (a:=a*c) hbc;have h2:=dF (a:=a) hb;have h3:(a*c / (b*c)-a / b)*(b*c)=0:=by grind
 rcases Rat.mul_eq_zero.1 h3 with h|h
 ·grind
 ·contradiction
theorem sX{c:Rat}(hc:0<c)(a b:Rat):mQ (a*c) (b*c)=mQ a b*c:=by
 have hc0:c≠0:=fun h=>by rw [h] at hc;exact absurd hc Rat.lt_irrefl
 have hz:∀ x:Rat,x*c=0↔x=0:=fun x=>⟨fun h=>(Rat.mul_eq_zero.1 h).resolve_right hc0,fun h=>by rw [h,Rat.zero_mul]⟩
 unfold mQ;by_cases ha:a=0
 ·rw [if_pos ((hz a).2 ha),if_pos ha,mr hc]
 ·rw [if_neg (fun h=>ha ((hz a).1 h)),if_neg ha];by_cases hb:b=0
  ·rw [if_pos ((hz b).2 hb),if_pos hb]
  ·rw [if_neg (fun h=>hb ((hz b).1 h)),if_neg hb,jq hc0 a hb,←mr hc]
   congr 1
   rw [Rat.div_def,Rat.div_def];grind
theorem rF{c:Rat}(hc:0<c)(l:List Rat):fo (l.map (·*c))=fo l*c:=by
 induction l using snoc_ind with
 | h0=>show (0:Rat)=0*c;rw [Rat.zero_mul]
 | h1 l r ih =>
  rw [List.map_append,List.map_cons,List.map_nil,fN,fN,ih,sX hc]
theorem eh{p q:List Rat}{c:Rat}(hc:0<c)(h:∀ n,seq p n=seq q n*c):aC p=aC q:=by
 have hc0:c≠0:=fun h=>by rw [h] at hc;exact absurd hc Rat.lt_irrefl
 have h1:tz p=(tz q).map (·*c):=by
  rw [←fG hc0];exact mP fun n=>by rw [aU];exact h n
 by_cases h0:tz q=[]
 ·unfold aC;rw [h1,h0];rfl
 ·have hm:fo (tz q)≠0:=zA h0;unfold aC bO;rw [h1,rF hc,List.map_map];refine List.map_congr_left fun x hx=>?_
  exact jq hc0 x hm
theorem sN{a b s r:List Rat}{f:Rat}(hb:tz b≠[])(hr:r.length<(tz b).length)(he:∀ n,f*seq a n=cv (seq s) (seq b) n+seq r n)(n:Nat):seq r n=f*seq (bA a b) n :=
 (jp (p:=a) (q:=b) hb (s:=seq s) (r:=seq r) (F:=f) (N:=s.length) (Bd.seq s) (fun i hi=>by rw [Bd.seq r i (by omega)]) he).2 n
theorem kQ{a b s r:List Rat}{f:Rat}(hb:tz b≠[])(hf:0<f)(hr:r.length<(tz b).length)(he:∀ n,f*seq a n=cv (seq s) (seq b) n+seq r n):aC (r.map (·*-1))=aC ((bA a b).map (·*-1)):=by
 refine eh hf fun n=>?_
 rw [aU,aU,sN hb hr he n];grind
end Go.Proofs.YtofhkmcllihgmaaGreat
/- Package dspcompilerref06: its chain has the program's signs. Plain facts. -/
set_option linter.unusedVariables false
namespace Go.Proofs.YtofhkmcllihgmaaGreat.Sg
open Go.RowKit Go.Front Go.Num Go.Stab Go.Proofs.YtofhkmcllihgmaaGreat
theorem lM{A B:List Rat}(hA:tz A≠[])(hB:tz B≠[]):aC ((bA (aC A) (aC B)).map (·*-1))=aC ((bA A B).map (·*-1)):=by
 obtain ⟨h1,-,-,h4⟩:=cu A hB;have hb:tz (aC B)≠[]:=by rw [bL];exact fun h=>hB (ct.1 h)
 refine (kQ (a:=aC A) (b:=aC B) (s:=(bB A B).map (·*bO B)) (r:=bA A B) (f:=bO A) hb (br hA) (by rw [bL,aP];exact h1) (fun n=>?_)).symm;rw [←d9 A n,h4 n];have h5:seq ((bB A B).map (·*bO B))=fun i=>bO B*seq (bB A B) i:=by funext i;rw [aU];grind
 have h6:seq B=fun i=>bO B*seq (aC B) i:=by funext i;exact d9 B i
 rw [h5,iw,h6,kq _ (fun i=>bO B*_),iw,kq]
def aZ(p:List Rat):List Rat:=(tz p).map (·*(1 / ((tz p).getLast?.getD 0).abs))
theorem vD{p:List Rat}(h:tz p≠[]):0<1 / ((tz p).getLast?.getD 0).abs:=by
 have h1:((tz p).getLast?.getD 0)≠0:=by
  obtain ⟨n,hn⟩:∃ n,(tz p).length=n+1:=⟨(tz p).length-1,by have:=List.length_pos_iff.2 h;omega⟩;have h2:=gY (l:=tz p) (n:=n) (by rw [bi];exact hn);rw [List.getD_eq_getElem?_getD] at h2;rw [List.getLast?_eq_getElem?,hn];exact h2
 refine vA (by decide) ?_;unfold Rat.abs;split <;> grind
theorem gE(p:List Rat):aC (aZ p)=aC p:=by
 by_cases h:tz p=[]
 ·have:aZ p=[]:=by unfold aZ;rw [h];rfl
  rw [this,ct.2 h];rfl
 ·refine eh (vD h) (fun n=>?_);unfold aZ;rw [aU,bq]
theorem fE{p:List Rat}:aZ p=[]↔tz p=[]:=by unfold aZ;exact List.map_eq_nil_iff
theorem gw(p:List Rat):tz (aZ p)=aZ p:=by
 by_cases h:tz p=[]
 ·rw [fE.2 h];rfl
 ·unfold aZ;rw [fG (fun h0=>by have:=vD h;rw [h0] at this;exact absurd this Rat.lt_irrefl),bi]
def rch:Nat→List Rat→List Rat→List (List Rat)
 | 0,_,_=>[]
 | n+1,a,b=>if a=[] then [] else if b=[] then [a] else a :: rch n b (aZ ((bA a b).map (·*-1)))
theorem n8:∀ (n:Nat) (a b:List Rat),tz a=a→tz b=b→(rch n a b).map aC=chn n (aC a) (aC b)
 | 0,_,_,_,_=>rfl
 | n+1,a,b,ha,hb=>by
  have ka:aC a=[]↔a=[]:=by rw [ct,ha]
  have kb:aC b=[]↔b=[]:=by rw [ct,hb]
  unfold rch chn;by_cases h1:a=[]
  ·rw [if_pos h1,if_pos (ka.2 h1)];rfl
  ·rw [if_neg h1,if_neg (fun h=>h1 (ka.1 h))];by_cases h2:b=[]
   ·rw [if_pos h2,if_pos (kb.2 h2)];rfl
   ·rw [if_neg h2,if_neg (fun h=>h2 (kb.1 h)),List.map_cons,n8 n b _ hb (gw _),gE,lM (by rw [ha];exact h1) (by rw [hb];exact h2)]
theorem zz(p:List Rat)(x:Rat):sg (evV (aC p) x)=sg (evV p x):=by
 by_cases h:tz p=[]
 ·rw [ct.2 h,ev_tznil.1 h x];rfl
 ·rw [dI p x,mD,sg_pos (br h)];omega
theorem zh(l:List (List Rat))(x:Rat):gu (l.map aC) x=gu l x:=by
 unfold gu;rw [List.map_map]
 congr 1
 exact List.map_congr_left fun m _=>zz m x
end Go.Proofs.YtofhkmcllihgmaaGreat.Sg
/- Package dspcompilerref06: Count finds no roots where a polynomial has a positive lower bound. Plain facts. -/
set_option linter.unusedVariables false
namespace Go.Proofs.YtofhkmcllihgmaaGreat.Sg
open Go.RowKit Go.Front Go.Num Go.Stab Go.Proofs.YtofhkmcllihgmaaGreat
def nB(q:List Rat):List (List Rat):=rch (q.length+1) (aZ q) (aZ (aT q))
theorem qD(q:List Rat)(x:Rat):gu (nB q) x=gu (cz q) x:=by
 rw [←zh (nB q)];unfold nB cz;rw [n8 _ _ _ (gw _) (gw _),gE,gE]
def uL(p:List Rat)(lo hi:Rat):Int:=(gu (nB (sqfV p)) lo:Int)-gu (nB (sqfV p)) hi+(if sg (evV (sqfV p) lo)=0 then 1 else 0)
theorem cnt6_on{p:List Rat}{c:Rat}(hc:0<c)(lo hi:Rat)(hlh:lo≤hi)(he:∀ x,lo≤x→x≤hi→c≤evV p x):uL p lo hi=0:=by
 have h0:tz p≠[]:=fun h=>by have h1:=he lo Rat.le_refl hlh;rw [ev_tznil.1 h lo] at h1;grind
 have hr:=pw h0;obtain ⟨l,e,hfit⟩:=DG hr.ne hr.cp;obtain ⟨g,q1,hg,-,-,k1,-⟩:=hr.dv;have hnr:¬ sg (evV (sqfV p) lo)=0:=fun h=>by
  have h1:=pz.1 h;have h2:=he lo Rat.le_refl hlh;rw [k1 lo,h1,Rat.mul_zero] at h2;grind
 unfold uL;rw [if_neg hnr,qD,qD,o8 e,o8 e];rcases Rat.le_iff_lt_or_eq.1 hlh with h1|h1
 ·obtain ⟨M,hM,k2⟩:=hg.on lo hi;have hm:=br hr.ne;have hM1:0<M+1:=by grind
  have hd:0<c / (M+1):=vA hc hM1;have hdc:=div_cancel (a:=c) (b:=M+1) (by grind);have hbig:∀ x,lo≤x→x≤hi→Big (c / (M+1)) (evV (sqfV p) x):=fun x h2 h3=>Classical.byContradiction fun hn=>by
   obtain ⟨b1,b2⟩:=lL hn;generalize c / (M+1)=d at *
   have b0:Bd d (evV (sqfV p) x):=⟨by grind,by grind⟩;have b3:=((k2 x h2 h3).mul b0).2;have h4:=he x h2 h3;rw [k1 x] at h4;grind
  have hst:=pt (Pf.ev (sqfV p)) hd hbig;have hV:=(hfit lo hi).calm Rat.le_refl h1 Rat.le_refl (fun s t s1 s2 s3 _=>by rw [ic hr.ne,ic hr.ne];exact hst s t s1 s2 s3);rw [hV];omega
 ·rw [h1];omega
end Go.Proofs.YtofhkmcllihgmaaGreat.Sg
/- Monic of the reference's polynomials. -/
set_option linter.unusedVariables false
namespace Go.Proofs.YtofhkmcllihgmaaGreat
open Go.RowKit Go.Front Go.Num Stab
attribute [local go_sem] XW.cell XW.frozen
set_option maxRecDepth 8000 in
set_option maxHeartbeats 4000000 in
theorem jm(ao:Option Addr)(n cap:Nat)(l:List Rat)(S:Nat)(w:World)(h:ce w ⟨ao,n,cap⟩ l)(hn:n≤1000000)(hS:S≤8000000)(hz:SzL S l) :
  au 215 [.slice ao n cap] w SH.v (fun x w'=>dA w.heap.size w' x (bu l)):=by
 have HX:=Hi (Ext.refl w);have LP:=Hi h.lin;have HSz:=Hi hz;have Hlen:=Hi h.len;simp only at Hlen;clear h hz;unfold au;go_enter Tryz.func215,Tryz.ntmps215
 go_wp2_with fail
 refine cM (aQ ao n cap l _ (LP.out.can.raw HSz.out (by omega)) (by omega)) fun x4 w4 hE G4=>?_
 refine mV2 hE ?_ HX LP;clear HX LP;intro HX LP
 have hs_w4:=hE.size;clear hE;obtain ⟨pa,P,pc⟩:=x4;have hP:=G4.out.len;simp only at hP;obtain ⟨p,hp⟩:∃ p,p=tz l:=⟨_,rfl⟩;rw [←hp] at G4 hP;have HTZ:=Hi hp;have HSp:Hid (SzL S p):=Hi (by rw [hp];exact SzL.tz HSz.out);have hPn:P≤n:=by rw [←hP,hp,←Hlen.out];exact aj l
 have hHP:=Hi hP;have HG:Hid (LIn w4 ⟨pa,P,pc⟩ p w.heap.size w4.heap.size):=Hi G4.out;clear hp hP Hlen;clear LP;clear G4;simp only [SH.v];by_cases h0:P=0
 case pos =>
  subst h0;have HV:Hid (bu l=[]):=Hi (by unfold bu;rw [if_pos (by rw [←HTZ.out];exact List.length_eq_zero_iff.1 hHP.out)]);go_wp2
  go_ret
  exact ⟨⟨none,0,0⟩,rfl,HX.out,by rw [HV.out];exact dA.nil _ _⟩
 obtain ⟨m,rfl⟩:∃ m,P=m+1:=⟨P-1,by omega⟩;have hz0:((m:Int)+1 == 0)=false:=by rw [beq_eq_false_iff_ne];omega
 have Hne:Hid (tz l≠[]):=Hi (by rw [←HTZ.out];intro h;have:=hHP.out;rw [h] at this;simp at this);have HL:Hid (aS (tz l)=p.getD m 0):=Hi (by unfold aS;rw [←HTZ.out,hHP.out];rfl);have Zc:Hid (Sz S (p.getD m 0)):=Hi (HSp.out.at (by rw [hHP.out];omega));have ZI:Hid (Sz (1+S) (((1:Int):Rat) / p.getD m 0)):=Hi ((Sz.int (by decide)).div Zc.out);have HV:Hid (bu l=bV p (((1:Int):Rat) / p.getD m 0)):=Hi (by unfold bu bV;rw [if_neg Hne.out,HL.out,←HTZ.out]);obtain ⟨b,off,r,hao,hbl,⟨hc1,hc2,hc3⟩,hPc⟩:=HG.out.celx (k:=m) (by omega);obtain ⟨rneg,ra,rn,rc,rb,rm,rd⟩:=r;simp only at hc1 hc2 hc3;have HC:=Hi hPc;clear hPc h0;subst hao
 go_upto_region 4 with fail
 refine wpG 10 (fun opIx=>match opIx with
  | 1=>.spec RH default RH.v (fun s w'=>aw w' s (((1:Int):Rat)))
  | 8=>.spec RH default RH.v (fun s w'=>aw w' s (((1:Int):Rat) / p.getD m 0))
  | 9=>.spec (SH) (default) (SH.v) (fun x w'=>dA w.heap.size w' x (bV p (((1:Int):Rat) / p.getD m 0)))
  | _=>.quiet) (fun|8=>[1]|9=>[8]|_=>[]) fun w0 he0 hz0 hc0 hf0=>?_
 refine wps he0.out rfl rfl (fun w1 hW hG=>?_) fun x20=>?_
 ·exact spc [.int .i64 1] Tryz.func63 (aK 1 _ (by decide) (by decide))
 refine qZ ?_;refine wps he0.out rfl rfl (fun w1 hW hG=>?_) fun x21=>?_
 ·have g20:=(hG 1 (by decide):ay _ _).get fun _ e g=>g.ext e
  exact spc [x20.v,RH.v ⟨rneg,ra,rn,rc,rb,rm,rd⟩] Tryz.func73 (eO x20 _ _ _ _ (g20.raw (Sz.int (by decide)) (by decide)) ((HC.out.ext hW).raw Zc.out (by omega)))
 refine qZ ?_;refine wps he0.out rfl rfl (fun w1 hW hG=>?_) fun x22=>?_
 ·have g21:=(hG 8 (by decide):ay _ _).get fun _ e g=>g.ext e
  exact spc [.slice (some ⟨b,off,none⟩) (m+1:Nat) pc,x21.v] Tryz.func70 ((iI (some ⟨b,off,none⟩) (m+1) pc p x21 (((1:Int):Rat) / p.getD m 0) _ ((HG.out.ext hW).can.raw HSp.out (by omega)) (g21.raw ZI.out (by omega)) (by omega) (HSp.out.mono (by omega)) (ZI.out.mono (by omega))).wk (fun _ _ _ h=>h.mono (by have:=hW.size;omega)))
 refine qZ ?_;refine wpF_nil ?_;intro w5 hI;have hE:=he0.out.trans hI.ext;have G20:=gT (hI.facts 1);have G21:=gT (hI.facts 8);have G22:=gT (hI.facts 9);clear hI he0 hz0 hc0 hf0;refine mV3 hE ?_ HX HG HC;clear HX HG HC;intro HX HG HC;have hs_w5:=hE.size;clear hE;simp only [pD];clear hc1 hc2 hc3;go_wp2
 go_ret
 exact ⟨x22,rfl,HX.out,by rw [HV.out];exact G22.out⟩
end Go.Proofs.YtofhkmcllihgmaaGreat
/- Siegel's lemma: whole numbers, not all 0, that solve one equation less than there are unknowns. Plain facts. -/
set_option linter.unusedVariables false
namespace Go.Proofs.YtofhkmcllihgmaaGreat.Sie
theorem yt:∀ (L K:Nat) (f:Nat→Nat),L<K→(∀ i,i<K→f i<L)→∃ i j,i<j∧j<K∧f i=f j:=by
 intro L;induction L with
 | zero=>intro K f h hf;exact absurd (hf 0 h) (Nat.not_lt_zero _)
 | succ L ih =>
  intro K f h hf;obtain ⟨K',rfl⟩:∃ K',K=K'+1:=⟨K-1,by omega⟩;by_cases h1:∃ i,i<K'∧f i=f K'
  ·obtain ⟨i,hi,he⟩:=h1;exact ⟨i,K',hi,Nat.lt_succ_self _,he⟩
  ·have hn:∀ i,i<K'→f i≠f K':=fun i hi he=>h1 ⟨i,hi,he⟩
   obtain ⟨i,j,h2,h3,h4⟩:=ih K' (fun i=>if f i=L then f K' else f i) (by omega) (fun i hi=>by
    have a1:=hf i (by omega);have a2:=hf K' (by omega);have a3:=hn i hi;split <;> omega)
   refine ⟨i,j,h2,by omega,?_⟩;have b1:=hn i (by omega);have b2:=hn j h3;by_cases e1:f i=L
   ·by_cases e2:f j=L
    ·rw [e1,e2]
    ·rw [if_pos e1,if_neg e2] at h4;exact absurd h4.symm b2
   ·by_cases e2:f j=L
    ·rw [if_neg e1,if_pos e2] at h4;exact absurd h4 b1
    ·rw [if_neg e1,if_neg e2] at h4;exact h4
def dgt(b i t:Nat):Nat:=t / b ^ i % b
theorem uB{b i t:Nat}(hb:0<b):dgt b i t<b:=Nat.mod_lt _ hb
theorem AE{b:Nat}(hb:0<b):∀ (N t u:Nat),t<b ^ N→u<b ^ N→(∀ i,i<N→dgt b i t=dgt b i u)→t=u:=by
 intro N;induction N with
 | zero=>intro t u h1 h2 _;rw [Nat.pow_zero] at h1 h2;omega
 | succ N ih =>
  intro t u h1 h2 h;have e0:=h 0 (Nat.succ_pos _);unfold dgt at e0;rw [Nat.pow_zero,Nat.div_one,Nat.div_one] at e0;have e1:=ih (t / b) (u / b) ((Nat.div_lt_iff_lt_mul hb).2 (by rw [←Nat.pow_succ];exact h1)) ((Nat.div_lt_iff_lt_mul hb).2 (by rw [←Nat.pow_succ];exact h2)) (fun i hi=>by
   have:=h (i+1) (by omega);unfold dgt at this ⊢;rw [Nat.div_div_eq_div_mul,Nat.div_div_eq_div_mul,Nat.mul_comm b,←Nat.pow_succ];exact this)
  rw [←Nat.div_add_mod t b,←Nat.div_add_mod u b,e0,e1]
def cod(R:Nat):Nat→(Nat→Nat)→Nat
 | 0,_=>0
 | M+1,y=>y 0+R*cod R M (fun j=>y (j+1))
theorem Cq{R:Nat}:∀ (M:Nat) (y:Nat→Nat),(∀ j,j<M→y j<R)→cod R M y<R ^ M:=by
 intro M;induction M with
 | zero=>intro y _;exact Nat.one_pos
 | succ M ih =>
  intro y h;have h1:=ih (fun j=>y (j+1)) (fun j hj=>h (j+1) (by omega));have h0:=h 0 (Nat.succ_pos _);have h2:R*(cod R M (fun j=>y (j+1))+1)≤R*R ^ M:=Nat.mul_le_mul_left _ h1;show y 0+R*cod R M (fun j=>y (j+1))<R ^ (M+1);rw [Nat.pow_succ,Nat.mul_comm (R ^ M)];rw [Nat.mul_succ] at h2;omega
theorem AJ{R:Nat}:∀ (M:Nat) (y z:Nat→Nat),(∀ j,j<M→y j<R)→(∀ j,j<M→z j<R)→cod R M y=cod R M z→∀ j,j<M→y j=z j:=by
 intro M;induction M with
 | zero=>intro y z _ _ _ j hj;omega
 | succ M ih =>
  intro y z hy hz h;have y0:=hy 0 (Nat.succ_pos _);have z0:=hz 0 (Nat.succ_pos _);have h':y 0+R*cod R M (fun j=>y (j+1))=z 0+R*cod R M (fun j=>z (j+1)):=h;have e0:y 0=z 0:=by
   have:=congrArg (· % R) h';simp only [Nat.add_mul_mod_self_left] at this
   rwa [Nat.mod_eq_of_lt y0,Nat.mod_eq_of_lt z0] at this
  have e1:cod R M (fun j=>y (j+1))=cod R M (fun j=>z (j+1)):=by
   rw [e0] at h';exact Nat.eq_of_mul_eq_mul_left (by omega) (Nat.add_left_cancel h')
  intro j hj;cases j with
  | zero=>exact e0
  | succ j=>exact ih _ _ (fun k hk=>hy (k+1) (by omega)) (fun k hk=>hz (k+1) (by omega)) e1 j (by omega)
def gS:Nat→(Nat→Int)→Int
 | 0,_=>0
 | n+1,f=>gS n f+f n
theorem tG{n:Nat}{f:Nat→Int}{C:Nat}(h:∀ i,i<n→(f i).natAbs≤C):(gS n f).natAbs≤n*C:=by
 induction n with
 | zero=>simp [gS]
 | succ n ih =>
  have h1:=ih (fun i hi=>h i (by omega));have h2:=h n (Nat.lt_succ_self n);have h3:=Int.natAbs_add_le (gS n f) (f n);show (gS n f+f n).natAbs≤_;rw [Nat.succ_mul];omega
theorem wQ(n:Nat)(f g:Nat→Int):gS n (fun i=>f i-g i)=gS n f-gS n g:=by
 induction n with
 | zero=>rfl
 | succ n ih=>show gS n (fun i=>f i-g i)+(f n-g n)=(gS n f+f n)-(gS n g+g n);rw [ih];omega
theorem rI{n:Nat}{f g:Nat→Int}(h:∀ i,i<n→f i=g i):gS n f=gS n g:=by
 induction n with
 | zero=>rfl
 | succ n ih=>show gS n f+f n=gS n g+g n;rw [ih (fun i hi=>h i (by omega)),h n (Nat.lt_succ_self n)]
theorem mZ(n:Nat)(f:Nat→Int):((gS n f:Int):Rat)=Stab.sm n (fun i=>((f i:Int):Rat)):=by
 induction n with
 | zero=>rfl
 | succ n ih=>show ((gS n f+f n:Int):Rat)=Stab.sm n _+_;rw [Rat.intCast_add,ih]
theorem Bm(M:Nat)(A:Nat→Nat→Int)(a:Nat)(ha:∀ j i,(A j i).natAbs≤a)(h1:1≤a) :
  ∃ x:Nat→Int,(∃ i,i<M+1∧x i≠0)∧(∀ i,(x i).natAbs≤(2*(M+1)*a) ^ M)∧∀ j,j<M→gS (M+1) (fun i=>A j i*x i)=0:=by
 obtain ⟨G,hG⟩:∃ G,G=2*(M+1)*a:=⟨_,rfl⟩;have hG1:1≤G:=by rw [hG];exact Nat.mul_pos (by omega) h1
 obtain ⟨B,hB⟩:∃ B,B=G ^ M:=⟨_,rfl⟩;obtain ⟨C,hC⟩:∃ C,C=(M+1)*(a*B):=⟨_,rfl⟩;have hb:0<B+1:=Nat.succ_pos _;have hsum:∀ j t,(gS (M+1) (fun i=>A j i*(dgt (B+1) i t:Nat))).natAbs≤C:=fun j t=>by
  rw [hC];refine tG fun i _=>?_
  rw [Int.natAbs_mul,Int.natAbs_natCast];exact Nat.mul_le_mul (ha j i) (Nat.le_of_lt_succ (uB hb))
 have hR:(2*C+1)≤G*(B+1):=by
  have e:2*C=G*B:=by
   rw [hC,hG,Nat.mul_assoc 2,Nat.mul_assoc 2,Nat.mul_assoc]
  rw [e,Nat.mul_succ];omega
 have hlt:(2*C+1) ^ M<(B+1) ^ (M+1):=by
  refine Nat.lt_of_le_of_lt (Nat.pow_le_pow_left hR M) ?_;rw [Nat.mul_pow,←hB,Nat.pow_succ,Nat.mul_comm];exact Nat.mul_lt_mul_of_pos_left (Nat.lt_succ_self B) (Nat.pow_pos hb)
 have hy:∀ t j,j<M→(gS (M+1) (fun i=>A j i*(dgt (B+1) i t:Nat))+C).toNat<2*C+1:=fun t j _=>by
  have:=hsum j t;omega
 obtain ⟨t,u,h2,h3,h4⟩:=yt _ _ (fun t=>cod (2*C+1) M (fun j=>(gS (M+1) (fun i=>A j i*(dgt (B+1) i t:Nat))+C).toNat)) hlt (fun t _=>Cq M _ (hy t));have h5:=AJ M _ _ (hy t) (hy u) h4;refine ⟨fun i=>(dgt (B+1) i t:Nat)-((dgt (B+1) i u:Nat):Int),?_,fun i=>?_,fun j hj=>?_⟩
 ·apply Classical.byContradiction;intro hn;have:=AE hb (M+1) t u (by omega) h3 (fun i hi=>by
   have h6:¬ (((dgt (B+1) i t:Nat):Int)-((dgt (B+1) i u:Nat):Int)≠0):=fun h6=>hn ⟨i,hi,h6⟩
   omega)
  omega
 ·have a1:=uB (i:=i) (t:=t) hb;have a2:=uB (i:=i) (t:=u) hb;rw [←hG,←hB];show (((dgt (B+1) i t:Nat):Int)-((dgt (B+1) i u:Nat):Int)).natAbs≤B;omega
 ·have h6:=h5 j hj;have b1:=hsum j t;have b2:=hsum j u;have e:=wQ (M+1) (fun i=>A j i*(dgt (B+1) i t:Nat)) (fun i=>A j i*(dgt (B+1) i u:Nat));rw [rI (g:=fun i=>A j i*(dgt (B+1) i t:Nat)-A j i*(dgt (B+1) i u:Nat)) (fun i _=>Int.mul_sub _ _ _),e];omega
end Go.Proofs.YtofhkmcllihgmaaGreat.Sie
