import Derived.Test.YtkcpmclnocmalaaGreatQMK6
set_option linter.unusedVariables false
namespace Go.Proofs.YtkcpmclnocmalaaGreat.Sg
open Go.RowKit Go.Front Go.Num Go.Stab Go.Proofs.YtkcpmclnocmalaaGreat
def chn:Nat→List Rat→List Rat→List (List Rat)
 | 0,_,_=>[]
 | n+1,a,b=>if a=[] then [] else if b=[] then [a] else a :: chn n b (ay ((bX a b).map (·*-1)))
theorem eQ{n:Nat}{a:List Rat}(h:a≠[]):chn (n+1) a []=[a]:=by simp [chn,h]
theorem ic{n:Nat}{a b:List Rat}(h:a≠[])(k:b≠[]):chn (n+1) a b=a :: chn n b (ay ((bX a b).map (·*-1))):=by simp [chn,h,k]
theorem cr(p:List Rat)(x:Rat):evV p x=aR p*evV (ay p) x:=ji (fh p) x
theorem spl_ne{p:List Rat}:ay p=[]↔tz p=[]:=by rw [←nXj,←nXj,aG]
theorem uN(a b:List Rat)(hb:tz b≠[]):∃ d:Rat,0<d∧∀ x,evV a x+d*evV (ay ((bX a b).map (·*-1))) x=evV (bK a b) x*evV b x:=by
 have h1:=jj a hb;by_cases h0:tz ((bX a b).map (·*-1))=[]
 ·refine ⟨1,dZ,fun x=>?_⟩;have h2:=aD.1 h0 x;rw [ev_map] at h2;rw [spl_ne.2 h0,h1 x];show _+1*(0:Rat)=_;grind
 ·refine ⟨aR ((bX a b).map (·*-1)),bs h0,fun x=>?_⟩;have h2:=cr ((bX a b).map (·*-1)) x;rw [←h2,ev_map,h1 x];grind
theorem pr(a b:List Rat)(hb:tz b≠[]):(ay ((bX a b).map (·*-1))).length<(tz b).length:=by
 have h1:=(dz a hb).1;have h2:=aj ((bX a b).map (·*-1));rw [nXl] at h2;rw [aG];omega
theorem Df{A B d:Rat}{f g h q:Rat→Rat}(hd:0<d)(hq:Pf q)(he:∀ x,f x+d*h x=q x*g x):Row A B f g h:=by
 obtain ⟨Q,hQ,h1⟩:=hq.on A B;exact ⟨1,d,Q,dZ,hd,hQ,q,h1,fun x=>by have:=he x;grind⟩
theorem AV{A B:Rat}{f u:Rat→Rat}(hu:Pf u)(h:∀ x,u x*f x=1):∃ r,0<r∧∀ x,A≤x→x≤B→Big r (f x):=by
 obtain ⟨M,hM,h1⟩:=hu.on A B;refine ⟨1 / (M+1),zy dZ (by grind),fun x ha hb=>?_⟩;have h2:=h x;apply Classical.byContradiction;intro hn;obtain ⟨n1,n2⟩:=kL hn;have h3:=(h1 x ha hb).mul (show Bd (1 / (M+1)) (f x) from ⟨by grind,by grind⟩);rw [h2] at h3;have h4:=h3.2;have h5:=aQ (a:=1) (b:=M+1) (by grind);have h6:=zy (show (0:Rat)<1 by decide) (show 0<M+1 by grind);grind
theorem Eo{A B:Rat}:∀ (n:Nat) (a b:List Rat),b.length≤n→tz b=b→a≠[]→Cp (evV a) (evV b)→∃ l,chn (n+1) a b=a :: l∧Ch A B (evV a) (l.map evV)∧(b≠[]→∃ l',l=b :: l'):=by
 intro n;induction n with
 | zero =>
  intro a b h ht ha hc;obtain rfl:b=[]:=nXj.1 zo;refine ⟨[],eQ ha,?_,fun h=>absurd rfl h⟩;obtain ⟨u,v,hu,hv,h1⟩:=hc;exact AV hu (fun x=>by have:=h1 x;have e:evV [] x=0:=rfl;rw [e] at this;grind)
 | succ n ih =>
  intro a b h ht ha hc;by_cases hb:b=[]
  ·subst hb;refine ⟨[],eQ ha,?_,fun h=>absurd rfl h⟩;obtain ⟨u,v,hu,hv,h1⟩:=hc;exact AV hu (fun x=>by have:=h1 x;have e:evV [] x=0:=rfl;rw [e] at this;grind)
  ·have hbt:tz b≠[]:=by rw [ht];exact hb
   obtain ⟨d,hd,he⟩:=uN a b hbt;have hl:=pr a b hbt;rw [ht] at hl;obtain ⟨c,hcc⟩:∃ c,c=ay ((bX a b).map (·*-1)):=⟨_,rfl⟩;have hct:tz c=c:=by rw [hcc,bq]
   rw [←hcc] at he hl;have hcp:Cp (evV b) (evV c):=by
    obtain ⟨u,v,hu,hv,h1⟩:=hc;refine ⟨_,_,(hu.mul (Pf.ev (bK a b))).add hv,hu.smul (-d),fun x=>?_⟩;have e1:=h1 x;have e2:=he x;have e3:evV a x=evV (bK a b) x*evV b x-d*evV c x:=by grind
    rw [e3] at e1;grind
   obtain ⟨l,h1,h2,h3⟩:=ih b c zo hct hb hcp;refine ⟨b :: l,by rw [ic ha hb,←hcc,h1],?_,fun _=>⟨l,rfl⟩⟩;cases l with
   | nil=>exact h2
   | cons e l =>
    have hce:e=c:=by
     by_cases h0:c=[]
     ·subst h0;rw [eQ hb] at h1;cases h1
     ·obtain ⟨l',h4⟩:=h3 h0;cases h4;rfl
    subst hce;exact ⟨Df hd (Pf.ev (bK a b)) he,h2⟩
theorem rZ:∀ (n:Nat) (a b:List Rat),b.length≤n→tz b=b→tz a=a→a≠[]→∃ e,(chn (n+1) a b).getLast?=some e∧e≠[]∧tz e=e∧IsG (evV e) (evV a) (evV b):=by
 have hbase:∀ p:List Rat,IsG (evV p) (evV p) (evV []):=fun p=>⟨⟨_,Pf.const 1,fun x=>by grind⟩,⟨_,Pf.const 0,fun x=>by show (0:Rat)=_*0;grind⟩,_,_,Pf.const 1,Pf.const 0,fun x=>by show _=1*_+0*(0:Rat);grind⟩
 intro n;induction n with
 | zero =>
  intro a b h ht hta ha;obtain rfl:b=[]:=nXj.1 zo;exact ⟨a,by rw [eQ ha];rfl,ha,hta,hbase a⟩
 | succ n ih =>
  intro a b h ht hta ha;by_cases hb:b=[]
  ·subst hb;exact ⟨a,by rw [eQ ha];rfl,ha,hta,hbase a⟩
  ·have hbt:tz b≠[]:=by rw [ht];exact hb
   obtain ⟨d,hd,he⟩:=uN a b hbt;have hl:=pr a b hbt;rw [ht] at hl;obtain ⟨c,hcc⟩:∃ c,c=ay ((bX a b).map (·*-1)):=⟨_,rfl⟩;have hct:tz c=c:=by rw [hcc,bq]
   rw [←hcc] at he hl;obtain ⟨e,h1,h2,h3,h4,h5,u,v,hu,hv,h6⟩:=ih b c zo hct ht hb;have hne:chn (n+1) b c≠[]:=fun h=>by rw [h] at h1;cases h1
   refine ⟨e,?_,h2,h3,?_,h4,?_⟩
   ·rw [ic ha hb,←hcc];obtain ⟨x,y,hxy⟩:=List.exists_cons_of_ne_nil hne;rw [hxy] at h1 ⊢;rw [List.getLast?_cons_cons];exact h1
   ·obtain ⟨w,hw,k⟩:=(h4.mull (Pf.ev (bK a b))).sub (h5.mull (Pf.const d));exact ⟨w,hw,fun x=>by rw [←k x];have:=he x;grind⟩
   ·have hdi:=nYk d (by grind);have hce:∀ x,evV c x=d⁻¹*(evV (bK a b) x*evV b x-evV a x):=fun x=>by
     have:=he x;have e1:d*evV c x=evV (bK a b) x*evV b x-evV a x:=by grind
     rw [←e1,←nYe,nYd d⁻¹,hdi,Rat.one_mul]
    refine ⟨_,_,hv.smul (-d⁻¹),hu.add ((hv.smul d⁻¹).mul (Pf.ev (bK a b))),fun x=>?_⟩;rw [h6 x,hce x];grind
def aP(p:List Rat):List (List Rat):=chn (p.length+1) (ay p) (ay (derL p))
theorem zz{p:List Rat}(h:tz p≠[])(x:Rat):evD (ay p) x=aR (derL p) / aR p*evV (ay (derL p)) x:=by
 have hm:=bs h;have h1:evD p x=aR p*evD (ay p) x:=by
  rw [←cW,←cW];refine ji (fun i=>?_) x;rw [gM,gM,fh p];grind
 have h2:=cr (derL p) x;rw [cW,h1] at h2;have h3:=aQ (a:=aR (derL p)) (b:=aR p) (by grind);have h4:=nYk (aR p) (by grind);have h5:(aR p)⁻¹*(aR p*evD (ay p) x)=(aR p)⁻¹*(aR (derL p)*evV (ay (derL p)) x):=by rw [h2]
 rw [←nYe,nYd _ (aR p),h4,Rat.one_mul] at h5;rw [h5,Rat.div_def];grind
theorem C6{p:List Rat}(h:tz p≠[])(hc:Cp (evV p) (evD p)):Cp (evV (ay p)) (evV (ay (derL p))):=by
 obtain ⟨u,v,hu,hv,h1⟩:=hc;refine ⟨_,_,hu.smul (aR p),hv.smul (aR (derL p)),fun x=>?_⟩;have e1:=h1 x;rw [cr p x,←cW,cr (derL p) x] at e1;grind
theorem qM{p:List Rat}(h:tz p≠[])(hc:Cp (evV p) (evD p))(A B:Rat):∃ l,aP p=ay p :: l∧Fit A B (evV (ay p)) (l.map evV):=by
 have hlen:(ay (derL p)).length≤p.length:=by
  rw [aG];obtain ⟨n,hn,-⟩:=fV h;have:=fP p n hn;have:=aj p;omega
 obtain ⟨l,h1,h2,h3⟩:=Eo (A:=A) (B:=B) p.length (ay p) (ay (derL p)) hlen (bq _) (fun h0=>h (spl_ne.1 h0)) (C6 h hc);refine ⟨l,h1,h2,rL _ A B,?_,?_⟩
 ·intro g hg;obtain ⟨q,-,rfl⟩:=nYg.1 hg;exact rL q A B
 ·intro g l' hl;by_cases hb:ay (derL p)=[]
  ·exfalso;have h4:aP p=[ay p]:=by unfold aP;rw [hb,eQ (fun h0=>h (spl_ne.1 h0))]
   have h5:aP p=ay p :: l:=h1;rw [h4] at h5;cases h5;cases hl
  ·obtain ⟨l2,hl2⟩:=h3 hb;subst hl2;rw [List.map_cons] at hl;cases hl;obtain ⟨K,hK,h6⟩:=rK (ay p) A B;have hp1:=bs h;have hp2:=bs (p:=derL p) (fun h0=>hb (spl_ne.2 h0));refine ⟨aR (derL p) / aR p,K,zy hp2 hp1,hK,fun s t k1 k2 k3=>?_⟩;have h7:=h6 s t k1 k2 k3;rw [zz h] at h7;exact h7
def sqfV(p:List Rat):List Rat:=cI (bK p (aV p (derL p)))
def aT(p:List Rat):List Rat:=if 2≤((aP p).getLast?.getD []).length then sqfV p else p
structure Rt (p r:List Rat):Prop where
 ne:tz r≠[]
 cp:Cp (evV r) (evD r)
 dv:∃ g q1:Rat→Rat,Pf g∧Pf q1∧IsG g (evV p) (evD p)∧(∀ x,evV p x=g x*evV r x)∧(∀ x,evD p x=g x*q1 x)
theorem i6{p q:List Rat}(hq:tz q≠[])(h:Dv (evV q) (evV p)):∀ x,evV p x=evV q x*evV (bK p q) x:=by
 obtain ⟨c,⟨s,rfl⟩,h1⟩:=h;have h2:=ev_inj (p:=p) (q:=aO s q) (fun x=>by rw [ev_mul5,h1 x];grind);have h3:=jk (p:=p) hq (s:=seq s) (r:=fun _=>0) (F:=1) (N:=s.length) (Bd.seq s) (fun i _=>rfl) (fun n=>by
  rw [Rat.one_mul,h2 n,dY,iJ];grind)
 intro x;rw [h1 x]
 congr 1
 exact (ji (c:=1) (fun i=>h3.1 i) x).trans (Rat.one_mul _)
theorem AE{p g:List Rat}(h:tz p≠[])(hG:IsG (evV g) (evV p) (evD p)):tz g≠[]:=fun h0=>h (aD.2 fun x=>by
 obtain ⟨c,-,h1⟩:=hG.1;rw [h1 x,aD.1 h0 x];grind)
theorem rN{p g:List Rat}(hG:IsG (evV g) (evV p) (evV (derL p))):IsG (evV g) (evV p) (evD p):=by
 rw [show evD p=evV (derL p) from funext fun x=>(cW p x).symm];exact hG
theorem yP{f g:Rat→Rat}(c:Rat)(h:IsD f g)(hf:Pf f)(hg:Pf g):IsD (fun x=>c*f x) (fun x=>c*g x):=by
 have h1:=IsD.mul (IsD.const c) h (Pf.const c) hf (Pf.const 0);have e:(fun x=>0*f x+c*g x)=fun x=>c*g x:=funext fun x=>by grind
 rw [e] at h1;exact h1
theorem tV{p:List Rat}(h:tz p≠[]):Rt p (sqfV p):=by
 have hG:=rN (dE p (derL p));have hg:=AE h hG;have h1:=i6 hg hG.1;obtain ⟨q1,hq1,h2⟩:=hG.2.1;obtain ⟨c,hc,h3⟩:=oL (gv (bK p (aV p (derL p))));have h3':∀ x,evV (sqfV p) x=c*evV (bK p (aV p (derL p))) x:=h3;have hci:=nYk c hc;have hmain:=qD (tz p).length p (nXe _) h _ _ (Pf.ev (aV p (derL p))) (Pf.ev (bK p (aV p (derL p)))) hG h1 _ (Pf.der _) (IsD.ev _);have hd:∀ x,evD (sqfV p) x=c*evD (bK p (aV p (derL p))) x:=fun x=>by
  have e:=yP c (IsD.ev (bK p (aV p (derL p)))) (Pf.ev _) (Pf.der _);rw [←show evV (sqfV p)=fun x=>c*evV (bK p (aV p (derL p))) x from funext h3'] at e;exact (IsD.ev (sqfV p)).uniq e x
 refine ⟨fun h0=>h (aD.2 fun x=>?_),?_,?_⟩
 ·have h4:=aD.1 h0 x;rw [h3' x] at h4;rcases nXr.1 h4 with h5|h5
  ·exact absurd h5 hc
  ·rw [h1 x,h5];grind
 ·obtain ⟨u,v,hu,hv,h4⟩:=hmain;refine ⟨_,_,hu.smul c⁻¹,hv.smul c⁻¹,fun x=>?_⟩;have h5:=h4 x;rw [h3' x,hd x];grind
 ·refine ⟨fun x=>c⁻¹*evV (aV p (derL p)) x,fun x=>c*q1 x,(Pf.ev _).smul _,hq1.smul _,?_,fun x=>?_,fun x=>?_⟩
  ·obtain ⟨⟨a,ha,h4⟩,⟨b,hb,h5⟩,u,v,hu,hv,h6⟩:=hG;refine ⟨⟨_,ha.smul c,fun x=>by rw [h4 x];grind⟩,⟨_,hb.smul c,fun x=>by rw [h5 x];grind⟩,_,_,hu.smul c⁻¹,hv.smul c⁻¹,fun x=>by show c⁻¹*evV (aV p (derL p)) x=_;rw [h6 x];grind⟩
  ·rw [h3' x,h1 x];grind
  ·rw [h2 x];grind
theorem fk{p:List Rat}(h:tz p≠[]):Rt p (aT p):=by
 unfold aT;split
 ·exact tV h
 ·rename_i hl
  have hlen:(ay (derL p)).length≤p.length:=by
   rw [aG];obtain ⟨n,hn,-⟩:=fV h;have:=fP p n hn;have:=aj p;omega
  obtain ⟨e,h1,h2,h3,h4,h5,u,v,hu,hv,h6⟩:=rZ p.length (ay p) (ay (derL p)) hlen (bq _) (bq _) (fun h0=>h (spl_ne.1 h0));have h7:(aP p).getLast?=some e:=h1;rw [h7,Option.getD_some] at hl;have h8:=gy (p:=e) (by rw [h3];omega);have h9:seq e 0≠0:=fun h0=>h2 (by rw [←h3];exact aD.2 fun x=>by rw [h8 x,h0])
  have h10:=nYk _ h9;have hm1:=bs h;have hcp:Cp (evV p) (evD p):=by
   by_cases h0:tz (derL p)=[]
   ·refine ⟨_,_,(hu.smul (aR p)⁻¹).smul (seq e 0)⁻¹,Pf.const 0,fun x=>?_⟩;have k:=h6 x;rw [h8 x,(aD (p:=ay (derL p))).1 (by rw [bq];exact spl_ne.2 h0) x] at k;have k2:=cr p x;have k3:=nYk (aR p) (by grind);have k4:(aR p)⁻¹*evV p x=evV (ay p) x:=by rw [k2,←nYe,nYd _ (aR p),k3,Rat.one_mul]
    have k5:(seq e 0)⁻¹*(u x*evV (ay p) x)=1:=by
     rw [show u x*evV (ay p) x=seq e 0 by grind,nYd];exact h10
    rw [←k4] at k5;grind
   ·have hm2:=bs h0;refine ⟨_,_,(hu.smul (aR p)⁻¹).smul (seq e 0)⁻¹,(hv.smul (aR (derL p))⁻¹).smul (seq e 0)⁻¹,fun x=>?_⟩;have k:=h6 x;rw [h8 x] at k;have k2:=cr p x;have k3:=nYk (aR p) (by grind);have k4:(aR p)⁻¹*evV p x=evV (ay p) x:=by rw [k2,←nYe,nYd _ (aR p),k3,Rat.one_mul]
    have j2:=cr (derL p) x;rw [cW] at j2;have j3:=nYk (aR (derL p)) (by grind);have j4:(aR (derL p))⁻¹*evD p x=evV (ay (derL p)) x:=by rw [j2,←nYe,nYd _ (aR (derL p)),j3,Rat.one_mul]
    have k5:(seq e 0)⁻¹*(u x*evV (ay p) x+v x*evV (ay (derL p)) x)=1:=by
     rw [←k,nYd];exact h10
    rw [←k4,←j4] at k5;grind
  refine ⟨h,hcp,fun _=>1,evD p,Pf.const 1,Pf.der p,?_,fun x=>by grind,fun x=>by grind⟩;obtain ⟨a,b,ha,hb,h11⟩:=hcp;exact ⟨⟨_,Pf.ev p,fun x=>by grind⟩,⟨_,Pf.der p,fun x=>by grind⟩,a,b,ha,hb,fun x=>(h11 x).symm⟩
end Go.Proofs.YtkcpmclnocmalaaGreat.Sg
/- The chain of remainders: plain facts for the walk of remainders. -/
namespace Go.Proofs.YtkcpmclnocmalaaGreat
open Go.RowKit Go.Front Go.Num Stab
theorem nO{c:Rat}(hc:c≠0)(l:List Rat):tz (l.map (·*c))=(tz l).map (·*c):=by
 induction l using Stab.snoc_ind with
 | h0=>rfl
 | h1 l r ih =>
  by_cases hr:r=0
  ·subst hr;rw [List.map_append,List.map_cons,List.map_nil,nYb,eU,eU,ih]
  ·have h2:r*c≠0:=fun h=>by
    rcases nXr.1 h with h3|h3
    ·exact hr h3
    ·exact hc h3
   rw [List.map_append,List.map_cons,List.map_nil,fZ _ h2,fZ _ hr,List.map_append,List.map_cons,List.map_nil]
theorem sk{c:Rat}(hc:0<c)(a:Rat):(a*c).abs=a.abs*c:=by
 have hc2:=Rat.le_of_lt hc;unfold Rat.abs;by_cases h:0≤a
 ·rw [if_pos h,if_pos (Rat.mul_nonneg h hc2)]
 ·rw [if_neg h];have h1:0 < -a:=by grind
  have h2:=Rat.mul_pos h1 hc;rw [if_neg (by grind)];grind
theorem nl{c:Rat}(hc:c≠0)(a:Rat){b:Rat}(hb:b≠0):a*c / (b*c)=a / b:=by
 have hbc:b*c≠0:=fun h=>by rcases nXr.1 h with h|h <;> contradiction
 have h1:=cQ (a:=a*c) hbc;have h2:=cQ (a:=a) hb;have h3:(a*c / (b*c)-a / b)*(b*c)=0:=by grind
 rcases nXr.1 h3 with h|h
 ·grind
 ·contradiction
theorem uF{c:Rat}(hc:0<c)(a b:Rat):iB (a*c) (b*c)=iB a b*c:=by
 have hc0:c≠0:=fun h=>by rw [h] at hc;exact absurd hc Rat.lt_irrefl
 have hz:∀ x:Rat,x*c=0↔x=0:=fun x=>⟨fun h=>(nXr.1 h).resolve_right hc0,fun h=>by rw [h,nYb]⟩
 unfold iB;by_cases ha:a=0
 ·rw [if_pos ((hz a).2 ha),if_pos ha,sk hc]
 ·rw [if_neg (fun h=>ha ((hz a).1 h)),if_neg ha];by_cases hb:b=0
  ·rw [if_pos ((hz b).2 hb),if_pos hb]
  ·rw [if_neg (fun h=>hb ((hz b).1 h)),if_neg hb,nl hc0 a hb,←sk hc]
   congr 1
   rw [Rat.div_def,Rat.div_def];grind
theorem sS{c:Rat}(hc:0<c)(l:List Rat):bj (l.map (·*c))=bj l*c:=by
 induction l using snoc_ind with
 | h0=>show (0:Rat)=0*c;rw [nYb]
 | h1 l r ih =>
  rw [List.map_append,List.map_cons,List.map_nil,eN,eN,ih,uF hc]
theorem fu{p q:List Rat}{c:Rat}(hc:0<c)(h:∀ n,seq p n=seq q n*c):ay p=ay q:=by
 have hc0:c≠0:=fun h=>by rw [h] at hc;exact absurd hc Rat.lt_irrefl
 have h1:tz p=(tz q).map (·*c):=by
  rw [←nO hc0];exact lZ fun n=>by rw [bB];exact h n
 by_cases h0:tz q=[]
 ·unfold ay;rw [h1,h0];rfl
 ·have hm:bj (tz q)≠0:=o8 h0;unfold ay aR;rw [h1,sS hc,List.map_map];refine List.map_congr_left fun x hx=>?_
  exact nl hc0 x hm
theorem ux{a b s r:List Rat}{f:Rat}(hb:tz b≠[])(hr:r.length<(tz b).length)(he:∀ n,f*seq a n=cv (seq s) (seq b) n+seq r n)(n:Nat):seq r n=f*seq (bX a b) n :=
 (jk (p:=a) (q:=b) hb (s:=seq s) (r:=seq r) (F:=f) (N:=s.length) (Bd.seq s) (fun i hi=>by rw [Bd.seq r i zo]) he).2 n
theorem sP{a b s r:List Rat}{f:Rat}(hb:tz b≠[])(hf:0<f)(hr:r.length<(tz b).length)(he:∀ n,f*seq a n=cv (seq s) (seq b) n+seq r n):ay (r.map (·*-1))=ay ((bX a b).map (·*-1)):=by
 refine fu hf fun n=>?_
 rw [bB,bB,ux hb hr he n];grind
end Go.Proofs.YtkcpmclnocmalaaGreat
/- Roots of a polynomial and of that with each root once; what a count says of two halves. Plain facts. -/
namespace Go.Proofs.YtkcpmclnocmalaaGreat.Sg
open Go.RowKit Go.Front Go.Num Go.Stab Go.Proofs.YtkcpmclnocmalaaGreat
theorem rC(a x:Rat):evV [-a,1] x=x-a:=by
 show (0*x+1)*x+-a=x-a;grind
theorem Pf.lin(a:Rat):Pf (fun x=>x-a):=⟨[-a,1],funext fun x=>(rC a x).symm⟩
theorem Az(a:Rat):tz [-a,1]≠[]:=fun h=>by
 have h1:=aD.1 h (a+1);rw [rC] at h1;grind
theorem IsD.lin(a:Rat):IsD (fun x=>x-a) (fun _=>1):=fun A B=>⟨0,Rat.le_refl,fun s t _ _ _=>⟨by grind,by grind⟩⟩
theorem AJ{f:Rat→Rat}(hf:Pf f){a:Rat}(h0:f a=0):∃ g,Pf g∧∀ x,f x=(x-a)*g x:=by
 obtain ⟨p,rfl⟩:=hf;have h1:=jj p (Az a);have h2:=(dz p (Az a)).1;have h3:(tz (bX p [-a,1])).length≤1:=by
  have k1:=aj (bX p [-a,1]);have k2:=aj [-a,1];simp only [List.length_cons,List.length_nil] at k2;omega
 have h4:=gy h3;have h5:seq (bX p [-a,1]) 0=0:=by
  have k:=h1 a;rw [h0,h4 a,rC] at k;grind
 exact ⟨_,Pf.ev (bK p [-a,1]),fun x=>by rw [h1 x,h4 x,h5,rC];grind⟩
theorem ve{p q:List Rat}{a:Rat}(h:∀ x,evV p x=(x-a)*evV q x)(i:Nat):seq p i=sh (seq q) i-a*seq q i:=by
 have h1:=ev_inj (p:=p) (q:=cY (0 :: q) (q.map (·*(-a)))) (fun x=>by
  rw [ev_add5,ev_map,h x];show _=(evV q x*x+0)+_;grind) i
 rw [h1,fJ,kv,bB];grind
theorem ov{p:List Rat}{i:Nat}(h:seq p i≠0):i<(tz p).length:=by
 apply Classical.byContradiction;intro hn;apply h;rw [←bA];exact bu zo
theorem pH{p q:List Rat}{a:Rat}(h:∀ x,evV p x=(x-a)*evV q x)(hq:tz q≠[]):(tz q).length<(tz p).length:=by
 obtain ⟨m,hm,h0⟩:=fV hq;have h1:=ve h (m+1);have h2:seq q (m+1)=0:=by rw [←bA];exact bu zo
 have h3:sh (seq q) (m+1)=seq q m:=rfl;rw [h2,h3] at h1;have:=ov (p:=p) (i:=m+1) (by rw [h1];grind);omega
theorem jb{p:List Rat}(h:tz p≠[]):∃ x,evV p x≠0:=Classical.byContradiction fun hn=>h (aD.2 fun x=>Classical.byContradiction fun h2=>hn ⟨x,h2⟩)
theorem Ds(a:Rat):∀ (n:Nat) (p:List Rat),(tz p).length≤n→tz p≠[]→∃ (k:Nat) (g:Rat→Rat),Pf g∧g a≠0∧∀ x,evV p x=(x-a) ^ k*g x:=by
 intro n;induction n with
 | zero=>intro p h h0;exact absurd (nXj.1 zo) h0
 | succ n ih =>
  intro p hn h0;by_cases h1:evV p a=0
  ·obtain ⟨g,⟨q,rfl⟩,h2⟩:=AJ (Pf.ev p) h1;have hq:tz q≠[]:=fun h=>by
    obtain ⟨y,hy⟩:=jb h0;exact hy (by rw [h2,aD.1 h y];grind)
   have hl:=pH h2 hq;obtain ⟨k,g,hg,hga,h3⟩:=ih q zo hq;exact ⟨k+1,g,hg,hga,fun x=>by rw [h2,h3,Rat.pow_succ];grind⟩
  ·exact ⟨0,evV p,Pf.ev p,h1,fun x=>by rw [Rat.pow_zero];grind⟩
theorem Pf.pow{f:Rat→Rat}(h:Pf f)(k:Nat):Pf (fun x=>f x ^ k):=by
 induction k with
 | zero =>
  have e:(fun x=>f x ^ 0)=fun _=>(1:Rat):=funext fun x=>Rat.pow_zero _
  rw [e];exact Pf.const 1
 | succ k ih =>
  have e:(fun x=>f x ^ (k+1))=fun x=>f x ^ k*f x:=funext fun x=>Rat.pow_succ _ _
  rw [e];exact ih.mul h
theorem IsD.pow(a:Rat)(k:Nat):IsD (fun x=>(x-a) ^ (k+1)) (fun x=>((k+1:Nat):Rat)*(x-a) ^ k):=by
 induction k with
 | zero =>
  have e:(fun x=>(x-a) ^ (0+1))=fun x:Rat=>x-a:=funext fun x=>by rw [Rat.pow_succ,Rat.pow_zero];grind
  have e2:(fun x=>((0+1:Nat):Rat)*(x-a) ^ 0)=fun _=>(1:Rat):=funext fun x=>by rw [Rat.pow_zero,Rat.mul_one];rfl
  rw [e,e2];exact IsD.lin a
 | succ k ih =>
  have h1:=IsD.mul (IsD.lin a) ih (Pf.lin a) ((Pf.lin a).pow (k+1)) (Pf.const 1);have e:(fun x=>(x-a) ^ (k+1+1))=fun x:Rat=>(x-a)*(x-a) ^ (k+1):=funext fun x=>by rw [Rat.pow_succ];grind
  have e2:(fun x=>((k+1+1:Nat):Rat)*(x-a) ^ (k+1))=fun x:Rat=>1*(x-a) ^ (k+1)+(x-a)*(((k+1:Nat):Rat)*(x-a) ^ k):=funext fun x=>by
   rw [Rat.pow_succ,show ((k+1+1:Nat):Rat)=((k+1:Nat):Rat)+1 by rw [Rat.natCast_add];rfl];grind
  rw [e,e2];exact h1
theorem Rt.root{p r:List Rat}(h:Rt p r)(hp:tz p≠[])(a:Rat):evV r a=0↔evV p a=0:=by
 obtain ⟨hne,hcp,g,q1,hg,hq1,hG,h1,h2⟩:=h;refine ⟨fun h0=>by rw [h1,h0];grind,fun h0=>Classical.byContradiction fun hr=>?_⟩;obtain ⟨gl,rfl⟩:=hg;have hgl:tz gl≠[]:=fun hh=>by
  obtain ⟨y,hy⟩:=jb hp;exact hy (by rw [h1,aD.1 hh y];grind)
 obtain ⟨k,g1,hg1,hga,h3⟩:=Ds a _ gl (nXe _) hgl;have h4:evV gl a=0:=by
  have e:=h1 a;rw [h0] at e;rcases nXr.1 e.symm with h5|h5
  ·exact h5
  ·exact absurd h5 hr
 cases k with
 | zero =>
  rw [h3,Rat.pow_zero] at h4;exact hga (by grind)
 | succ k =>
  obtain ⟨g1',hg1',hd1⟩:=kD hg1;have hgd:=(IsD.mul (IsD.pow a k) hd1 ((Pf.lin a).pow (k+1)) hg1 (((Pf.lin a).pow k).smul _)).uniq (by
   have e:=IsD.ev gl;rw [show evV gl=fun x=>(x-a) ^ (k+1)*g1 x from funext h3] at e;exact e)
  have hsl:∀ x,evD gl x*evV r x+evV gl x*evD r x=evV gl x*q1 x:=fun x=>by
   have e:=(IsD.mul (IsD.ev gl) (IsD.ev r) (Pf.ev gl) (Pf.ev r) (Pf.der gl)).uniq (by
    have:=IsD.ev p;rw [show evV p=fun x=>evV gl x*evV r x from funext h1] at this;exact this) x
   rw [h2 x] at e;exact e
  have key:=eJ (f:=fun x=>(x-a) ^ k) (g:=fun x=>(((k+1:Nat):Rat)*g1 x+(x-a)*g1' x)*evV r x) (h:=fun x=>(x-a)*(g1 x*(q1 x-evD r x)))
   ((Pf.lin a).pow k) ((((hg1.smul _).add ((Pf.lin a).mul hg1'))).mul (Pf.ev r)) ((Pf.lin a).mul (hg1.mul (hq1.sub (Pf.der r)))) (fun x=>by
    have e1:=hsl x;have e2:=hgd x;rw [←e2,h3 x,Rat.pow_succ] at e1;have e3:(((k+1:Nat):Rat)*(x-a) ^ k*g1 x+(x-a) ^ k*(x-a)*g1' x)*evV r x+(x-a) ^ k*(x-a)*g1 x*evD r x=(x-a) ^ k*(x-a)*g1 x*q1 x:=e1;grind) ⟨a+1,by
    show (a+1-a) ^ k≠0;have e:a+1-a=1:=by grind
    rw [e];have:∀ k:Nat,(1:Rat) ^ k=1:=fun k=>by
     induction k with
     | zero=>exact Rat.pow_zero _
     | succ k ih=>rw [Rat.pow_succ,ih,Rat.mul_one]
    rw [this];decide⟩ a
  have key2:(((k+1:Nat):Rat)*g1 a+(a-a)*g1' a)*evV r a=(a-a)*(g1 a*(q1 a-evD r a)):=key;have key3:((k+1:Nat):Rat)*g1 a*evV r a=0:=by grind
  rcases nXr.1 key3 with h5|h5
  ·rcases nXr.1 h5 with h6|h6
   ·exact Au h6
   ·exact hga h6
  ·exact hr h5
def jQ(l:List (List Rat))(x:Rat):Nat:=vr 0 (l.map fun m=>sg (evV m x))
def rtV(l:List (List Rat))(x:Rat):Bool:=decide (sg (evV (l.getD 0 []) x)=0)
def zG(p:List Rat)(lo hi:Rat):Int:=(jQ (aP (aT p)) lo:Int)-jQ (aP (aT p)) hi+(if rtV (aP (aT p)) lo=true then 1 else 0)
theorem nX{p:List Rat}(h:tz p≠[]):∃ l,aP p=ay p :: l:=by
 have h1:ay p≠[]:=fun h0=>h (spl_ne.1 h0)
 unfold aP;by_cases h2:ay (derL p)=[]
 ·rw [h2,eQ h1];exact ⟨_,rfl⟩
 ·rw [ic h1 h2];exact ⟨_,rfl⟩
theorem iY{p:List Rat}(h:tz p≠[])(x:Rat):evV (ay p) x=0↔evV p x=0:=by
 have h1:=cr p x;have h2:=bs h;constructor
 ·intro h0;rw [h1,h0];grind
 ·intro h0;rw [h0] at h1;rcases nXr.1 h1.symm with h3|h3
  ·rw [h3] at h2;exact absurd h2 Rat.lt_irrefl
  ·exact h3
theorem pp{p:List Rat}(h:tz p≠[])(x:Rat):rtV (aP (aT p)) x=true↔evV p x=0:=by
 have hr:=fk h;obtain ⟨l,e⟩:=nX hr.ne;rw [←hr.root h x,←iY hr.ne x,e];unfold rtV;rw [decide_eq_true_iff];exact eV
open Sie
abbrev ln(p:List Rat):Nat:=(tz p).length
theorem BV{p:List Rat}{m:Nat}(h:∀ i,m≤i→seq p i=0):ln p≤m:=by
 by_cases h0:tz p=[]
 ·show (tz p).length≤m;rw [h0];exact Nat.zero_le _
 ·obtain ⟨n,hn,hn0⟩:=fV h0;rcases Nat.lt_or_ge n m with h1|h1
  ·show (tz p).length≤m;omega
  ·exact absurd (h n h1) hn0
theorem CU{p:List Rat}{i:Nat}(h:ln p≤i):seq p i=0:=by rw [←bA];exact bu h
theorem im{p:List Rat}(h:tz p≠[]):1≤ln p:=nYh.2 h
theorem fD(p q:List Rat):ln (aO p q)≤ln p+ln q-1:=by
 refine nXf (aj _) ?_;unfold aO;refine nXf (aj _) ?_;simp
theorem oq{p q:List Rat}(hp:tz p≠[])(hq:tz q≠[]):ln (aO p q)+1=ln p+ln q:=by
 obtain ⟨a,ha,ha0⟩:=fV hp;obtain ⟨b,hb,hb0⟩:=fV hq;have b1:Go.Proofs.YtkcpmclnocmalaaGreat.Bd (a+1) (seq p):=by rw [←bA,←ha];exact Bd.seq _
 have b2:Go.Proofs.YtkcpmclnocmalaaGreat.Bd (b+1) (seq q):=by rw [←bA,←hb];exact Bd.seq _
 have h1:seq (aO p q) (a+b)≠0:=by
  rw [dY,iJ,oP b1 b2];intro h;rcases nXr.1 h with h|h
  ·exact ha0 h
  ·exact hb0 h
 have h2:=ov h1;have h3:=fD p q;have e1:ln p=a+1:=ha;have e2:ln q=b+1:=hb;have e3:a+b<ln (aO p q):=h2;omega
theorem ou(p q:List Rat):ln (cY p q)≤max (ln p) (ln q):=BV fun i hi=>by
 rw [fJ,CU zo,CU zo];exact Rat.add_zero 0
theorem dN{p:List Rat}{c:Rat}:ln (p.map (·*c))≤ln p:=BV fun i hi=>by rw [bB,CU hi,nYb]
def fY(p q:List Rat):List Rat:=cY p (q.map (·*-1))
theorem fE(p q:List Rat)(x:Rat):evV (fY p q) x=evV p x-evV q x:=by unfold fY;rw [ev_add5,ev_map];grind
theorem uj(p q:List Rat)(n:Nat):seq (fY p q) n=seq p n-seq q n:=by unfold fY;rw [fJ,bB];grind
theorem jd(p q:List Rat):ln (fY p q)≤max (ln p) (ln q):=by
 have h1:=ou p (q.map (·*-1));have h2:=dN (p:=q) (c:=-1);unfold fY;omega
theorem dT{p q:List Rat}(h:∀ x,evV p x=evV q x):ln p=ln q:=by
 show (tz p).length=(tz q).length;rw [lZ (fun n=>ev_inj h n)]
theorem kR{p q:List Rat}(h:ln q<ln p):ln (fY p q)=ln p:=by
 have h1:=jd p q;obtain ⟨n,hn,h0⟩:=fV (p:=p) (fun h0=>by have:ln p=0:=(by show (tz p).length=0;rw [h0];rfl);omega);have e:ln p=n+1:=hn;have h2:seq (fY p q) n≠0:=by rw [uj,CU (p:=q) zo];grind
 have h3:n<ln (fY p q):=ov h2;omega
theorem EQ{p:List Rat}{x:Rat}(h:evV p x≠0):tz p≠[]:=fun h0=>h (aD.1 h0 x)
structure Eu (a b c e u v u' v':List Rat) (k:Rat):Prop where
 hc:∀ x,evV c x=evV u x*evV a x+evV v x*evV b x
 he:∀ x,evV e x=evV u' x*evV a x+evV v' x*evV b x
 det:∀ x,evV u x*evV v' x-evV v x*evV u' x=k
 k0:k≠0
 lv:ln v'+ln c=ln a+1
 lu:ln u'+ln c≤ln b+1
 lv0:ln v≤ln v'
 lu0:ln u+ln e≤ln b+1
 le:ln e<ln c
 lc:ln c≤ln b
 la:ln c≤ln a
theorem Am{c e:List Rat}(he:tz e≠[])(hl:ln e≤ln c):ln (bK c e)+ln e=ln c+1:=by
 have h1:=jj c he;have h2:ln (bX c e)<ln e:=nYl (aj _) (dz c he).1;have hq:tz (bK c e)≠[]:=fun h0=>by
  have h3:ln c=ln (bX c e):=dT fun x=>by rw [h1 x,aD.1 h0 x];grind
  omega
 have h3:=oq hq he;have h4:ln c=ln (fY (aO (bK c e) e) ((bX c e).map (·*-1))):=dT fun x=>by rw [fE,ev_mul5,ev_map,h1 x];grind
 have h5:=dN (p:=bX c e) (c:=-1);have h6:=im hq;rw [kR zo] at h4;omega
theorem Eu.next{a b c e u v u' v' r:List Rat}{k:Rat}(E:Eu a b c e u v u' v' k)(h0:tz e≠[])(hr:Pr r (bX c e)):∃ u'' v'' k',Eu a b e r u' v' u'' v'' k':=by
 obtain ⟨c0,hc0,hr⟩:=oL hr;have hq:=Am h0 (nYm E.le);have h1:=jj c h0;have hlr:ln r<ln e:=by
  have h2:ln (bX c e)<ln e:=nYl (aj _) (dz c h0).1;have h3:ln r=ln ((bX c e).map (·*c0)):=dT fun x=>by rw [hr x,ev_map]
  have:=dN (p:=bX c e) (c:=c0);omega
 have hv':tz v'≠[]:=fun h=>by
  have h2:=E.lv;have h3:ln v'=0:=by show (tz v').length=0;rw [h];rfl
  have h4:=E.la;omega
 have hqn:tz (bK c e)≠[]:=fun h=>by
  have h3:ln (bK c e)=0:=by show (tz (bK c e)).length=0;rw [h];rfl
  have:=E.le;omega
 have hm:=oq hqn hv';have hle:=E.le;have hlv:=E.lv;have hlu:=E.lu;have hlv0:=E.lv0;have hlu0:=E.lu0;have hmu:=fD (bK c e) u';have s1:=jd u (aO (bK c e) u');have s2:ln (fY v (aO (bK c e) v'))=ln (aO (bK c e) v'):=by
  have e1:ln (fY v (aO (bK c e) v'))=ln (fY ((aO (bK c e) v').map (·*-1)) (v.map (·*-1))):=dT fun x=>by rw [fE,fE,ev_map,ev_map];grind
  have e2:ln ((aO (bK c e) v').map (·*-1))=ln (aO (bK c e) v'):=by
   have a1:=dN (p:=aO (bK c e) v') (c:=-1);have a2:=dN (p:=(aO (bK c e) v').map (·*-1)) (c:=-1);have a3:ln (aO (bK c e) v')=ln (((aO (bK c e) v').map (·*-1)).map (·*-1)):=dT fun x=>by rw [ev_map,ev_map];grind
   omega
  have e3:=dN (p:=v) (c:=-1);rw [e1,kR zo,e2]
 have t1:=dN (p:=fY u (aO (bK c e) u')) (c:=c0);have t2:ln ((fY v (aO (bK c e) v')).map (·*c0))=ln (fY v (aO (bK c e) v')):=by
  have a1:=dN (p:=fY v (aO (bK c e) v')) (c:=c0);have a2:=dN (p:=(fY v (aO (bK c e) v')).map (·*c0)) (c:=c0⁻¹);have a3:ln (fY v (aO (bK c e) v'))=ln (((fY v (aO (bK c e) v')).map (·*c0)).map (·*c0⁻¹)):=dT fun x=>by
   rw [ev_map,ev_map,←nYe,nYd c0⁻¹,nYk c0 hc0,Rat.one_mul]
  omega
 have hpe:=im h0;refine ⟨(fY u (aO (bK c e) u')).map (·*c0),(fY v (aO (bK c e) v')).map (·*c0),-(c0*k),E.he,fun x=>?_,fun x=>?_,?_,zo,zo,zo,zo,hlr,by have:=E.lc;omega,by have:=E.la;omega⟩
 ·rw [ev_map,ev_map,fE,fE,ev_mul5,ev_mul5,hr x];have h2:=h1 x;rw [E.hc x,E.he x] at h2;have h3:evV (bX c e) x=(evV u x*evV a x+evV v x*evV b x)-evV (bK c e) x*(evV u' x*evV a x+evV v' x*evV b x):=by grind
  rw [h3];grind
 ·rw [ev_map,ev_map,fE,fE,ev_mul5,ev_mul5,←E.det x];grind
 ·intro h;have:c0*k=0:=by grind
  rcases nXr.1 this with h|h
  ·exact hc0 h
  ·exact E.k0 h
inductive Es (a b:List Rat):List Rat→List Rat→Prop
 | start {c e:List Rat} (hc:Pr c a) (he:Pr e b):Es a b c e
 | next {c e r:List Rat} (h:Es a b c e) (h0:tz e≠[]) (hr:Pr r (bX c e)):Es a b e r
theorem Es.shift{a b r c e:List Rat}(hb:tz b≠[])(hr:Pr r (bX a b))(h:Es b r c e):Es a b c e:=by
 induction h with
 | start hc he =>
  refine Es.next (Es.start (Pr.refl a) hc) (fun h=>hb (hc.nil.1 h)) ?_;exact (he.trans hr).trans (mO (Pr.refl a) hc.symm (fun h=>hb (hc.nil.1 h)))
 | next h h0 hr ih=>exact Es.next ih h0 hr
theorem Es.eu{a b c e:List Rat}(hb:tz b≠[])(hl:ln b≤ln a)(h:Es a b c e):(Pr c a∧Pr e b)∨tz e=[]∨∃ u v u' v' k,Eu a b c e u v u' v' k:=by
 induction h with
 | start hc he=>exact Or.inl ⟨hc,he⟩
 | @next c e r h h0 hr ih =>
  rcases ih with ⟨hc,he⟩|h1|⟨u,v,u',v',k,E⟩
  ·right
   by_cases hrn:tz r=[]
   ·exact Or.inl hrn
   ·right
    have e1:ln c=ln a:=hc.len;have e2:ln e=ln b:=he.len;obtain ⟨c1,hc1,hc⟩:=oL hc;obtain ⟨c2,hc2,he⟩:=oL he;obtain ⟨c0,hc0,hr'⟩:=oL hr;have h1:=jj c h0;have hq:=Am (c:=c) h0 zo;have hrl:ln r<ln e:=by rw [show ln r=ln (bX c e) from hr.len];exact nYl (aj _) (dz c h0).1
    have one:∀ t:Rat,∀ x,evV [t] x=t:=fun t x=>by show 0*x+t=t;grind
    have lone:∀ t:Rat,t≠0→ln [t]=1:=fun t ht=>by
     have h2:=EQ (p:=[t]) (x:=0) (by rw [one];exact ht);have h3:=im h2;have h4:ln [t]≤1:=aj [t];omega
    have lnil:ln []=0:=rfl;have hc0c1:c0*c1≠0:=fun h=>by rcases nXr.1 h with h|h <;> contradiction
    have hcc:c0*c2≠0:=fun h=>by rcases nXr.1 h with h|h <;> contradiction
    have lq:ln ((bK c e).map (·*-(c0*c2)))=ln (bK c e):=by
     have a1:=dN (p:=bK c e) (c:=-(c0*c2));have a2:=dN (p:=(bK c e).map (·*-(c0*c2))) (c:=(-(c0*c2))⁻¹);have a3:ln (bK c e)=ln (((bK c e).map (·*-(c0*c2))).map (·*(-(c0*c2))⁻¹)):=dT fun x=>by
      rw [ev_map,ev_map,←nYe,nYd (-(c0*c2))⁻¹,nYk _ (by grind),Rat.one_mul]
     omega
    have hpe:=im h0;refine ⟨[],[c2],[c0*c1],(bK c e).map (·*-(c0*c2)),-(c2*(c0*c1)),fun x=>?_,fun x=>?_,fun x=>?_,?_,?_,?_,?_,?_,hrl,zo,zo⟩
    ·rw [one,he x];show _=0*_+_;grind
    ·rw [hr' x,one,ev_map];have h2:=h1 x;rw [hc x,he x] at h2;have h3:evV (bX c e) x=c1*evV a x-evV (bK c e) x*(c2*evV b x):=by grind
     rw [h3];grind
    ·rw [one,one];show 0*_-_=_;grind
    ·intro h;have:c2*(c0*c1)=0:=by grind
     rcases nXr.1 this with h|h
     ·exact hc2 h
     ·exact hc0c1 h
    ·rw [lq];omega
    ·rw [lone _ hc0c1];omega
    ·rw [lone _ hc2,lq];omega
    ·rw [lnil];omega
  ·exact absurd h1 h0
  ·obtain ⟨u'',v'',k',E'⟩:=E.next h0 hr;exact Or.inr (Or.inr ⟨_,_,_,_,_,E'⟩)
theorem uf{n m:Nat}{f:Nat→Rat}(h:∀ i,n≤i→f i=0):sm n f=sm (n+m) f:=by
 rw [sm_split,sm_congr (n:=m) (g:=fun _=>0) (fun i _=>h (n+i) zo),sm_zero,Rat.add_zero]
theorem rS{P:Nat}{f g:Nat→Rat}(hf:∀ i,P≤i→f i=0)(n:Nat):cv f g n=sm P (fun i=>if i≤n then f i*g (n-i) else 0):=by
 have h1:cv f g n=sm (n+1) (fun i=>if i≤n then f i*g (n-i) else 0):=sm_congr fun i hi=>by rw [if_pos zo]
 rw [h1,uf (m:=P) (fun i hi=>if_neg zo),nYj (n+1) P,←uf (fun i hi=>by
  rw [hf i hi];split
  ·exact nYb _
  ·rfl)]
def syl(P:Nat)(a b:Nat→Int)(n i:Nat):Int:=if i<P then (if i≤n then a (n-i) else 0) else (if i-P≤n then b (n-(i-P)) else 0)
theorem A6{P Q:Nat}{a b:List Rat}{az bz x:Nat→Int}(ha:∀ i,seq a i=((az i:Int):Rat))(hb:∀ i,seq b i=((bz i:Int):Rat))(n:Nat) :
  seq (cY (aO ((List.range P).map fun i=>((x i:Int):Rat)) a) (aO ((List.range Q).map fun i=>((x (P+i):Int):Rat)) b)) n=((iO (P+Q) (fun i=>syl P az bz n i*x i):Int):Rat):=by
 rw [fJ,dY,dY,iJ,iJ,oz,sm_split]
 congr 1
 ·rw [rS (P:=P) (fun i hi=>by unfold seq;rw [dB,if_neg zo])];refine sm_congr fun i hi=>?_
  unfold syl;rw [if_pos hi];by_cases h:i≤n
  ·rw [if_pos h,if_pos h,ha,Rat.intCast_mul,nYd];unfold seq;rw [dB,if_pos hi]
  ·rw [if_neg h,if_neg h,Int.zero_mul];rfl
 ·rw [rS (P:=Q) (fun i hi=>by unfold seq;rw [dB,if_neg zo])];refine sm_congr fun i hi=>?_
  unfold syl;rw [if_neg (show ¬ P+i<P by omega),show P+i-P=i by omega];by_cases h:i≤n
  ·rw [if_pos h,if_pos h,hb,Rat.intCast_mul,nYd];unfold seq;rw [dB,if_pos hi]
  ·rw [if_neg h,if_neg h,Int.zero_mul];rfl
theorem iR{S:Nat}{a:List Rat}(ha:∀ x ∈ a,Wz S x)(i:Nat):seq a i=(((seq a i).num:Int):Rat)∧(seq a i).num.natAbs<W32 ^ S:=by
 have h:Wz S (seq a i):=by
  rcases Nat.lt_or_ge i a.length with h|h
  ·exact ha _ (bH h)
  ·rw [show seq a i=0 from bu h];exact Wz.zero S
 exact ⟨h.1.eq,h.2⟩
theorem xO{a b:List Rat}{S d P Q:Nat}(ha:∀ x ∈ a,Wz S x)(hb:∀ x ∈ b,Wz S x)(hP:P+d=ln b)(hQ:Q+d=ln a)(hPQ:1≤P+Q)(hN:2*(P+Q)≤W32) :
  ∃ U V W:List Rat,ln U≤P∧ln V≤Q∧ln W≤d∧(∀ x,evV W x=evV U x*evV a x+evV V x*evV b x)∧(tz U≠[]∨tz V≠[])∧(∀ i,Wz ((S+1)*(P+Q)) (seq U i))∧(∀ i,Wz ((S+1)*(P+Q)) (seq V i))∧∀ i,Wz ((S+1)*(P+Q)) (seq W i):=by
 obtain ⟨M,hM⟩:∃ M,P+Q=M+1:=⟨P+Q-1,zo⟩;have hA1:1≤W32 ^ S:=nYn aI;obtain ⟨x,⟨i0,hi0,hx0⟩,hxb,hxe⟩:=C9 M (fun j i=>syl P (fun i=>(seq a i).num) (fun i=>(seq b i).num) (d+j) i) (W32 ^ S) (fun j i=>by
  unfold syl;split
  ·split
   ·exact nYm (iR ha _).2
   ·exact Nat.zero_le _
  ·split
   ·exact nYm (iR hb _).2
   ·exact Nat.zero_le _) hA1
 have hseq:=A6 (P:=P) (Q:=Q) (a:=a) (b:=b) (x:=x) (fun i=>(iR ha i).1) (fun i=>(iR hb i).1);have hG:2*(M+1)*W32 ^ S≤W32 ^ (S+1):=by
  rw [nXu,nYf];exact nXg _ zo
 have hGM:(2*(M+1)*W32 ^ S) ^ (M+1)≤W32 ^ ((S+1)*(P+Q)):=by
  rw [hM,Nat.pow_mul];exact Nat.pow_le_pow_left hG _
 have hG1:1≤2*(M+1)*W32 ^ S:=Nat.mul_pos zo hA1;have hG2:1<2*(M+1)*W32 ^ S:=by
  have:2*(M+1)*1≤2*(M+1)*W32 ^ S:=nXg _ hA1;omega
 have hxw:∀ i,Wz ((S+1)*(P+Q)) ((x i:Int):Rat):=fun i=>Wz.int (nXn (nYl (hxb i) (Nat.pow_lt_pow_right hG2 (Nat.lt_succ_self M))) hGM)
 refine ⟨(List.range P).map fun i=>((x i:Int):Rat),(List.range Q).map fun i=>((x (P+i):Int):Rat),cY (aO ((List.range P).map fun i=>((x i:Int):Rat)) a) (aO ((List.range Q).map fun i=>((x (P+i):Int):Rat)) b),?_,?_,?_,fun y=>(by rw [ev_add5,ev_mul5,ev_mul5]),?_,?_,?_,?_⟩
 ·exact nXf (aj _) (by simp)
 ·exact nXf (aj _) (by simp)
 ·refine BV fun n hn=>?_
  by_cases h1:n<d+M
  ·obtain ⟨j,rfl⟩:∃ j,n=d+j:=⟨n-d,zo⟩;rw [hseq,hM,hxe j zo];rfl
  ·refine CU (nXf (ou _ _) ?_);have l1:=fD ((List.range P).map fun i=>((x i:Int):Rat)) a;have l2:=fD ((List.range Q).map fun i=>((x (P+i):Int):Rat)) b;have l3:ln ((List.range P).map fun i=>((x i:Int):Rat))≤P:=nXf (aj _) (by simp);have l4:ln ((List.range Q).map fun i=>((x (P+i):Int):Rat))≤Q:=nXf (aj _) (by simp);omega
 ·rcases Nat.lt_or_ge i0 P with h|h
  ·left
   refine nYh.1 (nYl (Nat.zero_le i0) (ov ?_));unfold seq;rw [dB,if_pos h];exact fun h=>hx0 (Rat.intCast_eq_zero_iff.1 h)
  ·right
   refine nYh.1 (nYl (Nat.zero_le (i0-P)) (ov ?_));unfold seq;rw [dB,if_pos zo,show P+(i0-P)=i0 by omega];exact fun h=>hx0 (Rat.intCast_eq_zero_iff.1 h)
 ·intro i;unfold seq;rw [dB];split
  ·exact hxw i
  ·exact Wz.zero _
 ·intro i;unfold seq;rw [dB];split
  ·exact hxw _
  ·exact Wz.zero _
 ·intro n;rw [hseq,hM];refine Wz.int (nXn (nYl (vw (C:=W32 ^ S*(2*(M+1)*W32 ^ S) ^ M) (fun i _=>?_)) ?_) (by rw [←hM];exact hGM))
  ·rw [Int.natAbs_mul];refine nXy ?_ (hxb i);unfold syl;split
   ·split
    ·exact nYm (iR ha _).2
    ·exact Nat.zero_le _
   ·split
    ·exact nYm (iR hb _).2
    ·exact Nat.zero_le _
  ·rw [nXu,←Nat.mul_assoc,nYf ((2*(M+1)*W32 ^ S) ^ M)];refine Nat.mul_lt_mul_of_pos_right ?_ (nYn hG1);have h2:0<(M+1)*W32 ^ S:=Nat.mul_pos (Nat.succ_pos _) hA1;rw [Nat.mul_assoc 2];omega
theorem tZ{p q:List Rat}{c:Rat}(hc:c<0)(h:∀ n,seq p n=seq q n*c):ay p=ay (q.map (·*-1)) :=
 fu (c:=-c) (by grind) (fun n=>by rw [h,bB];grind)
theorem zj{a b c e u v u' v':List Rat}{k:Rat}{S:Nat}(E:Eu a b c e u v u' v' k)(he:tz e≠[])(ha:∀ x ∈ a,Wz S x)(hb:∀ x ∈ b,Wz S x)(hN:2*(ln a+ln b)≤W32):∀ x ∈ ay e,Wz ((S+1)*(ln a+ln b)) x:=by
 have hle:=E.le;have hlc:=E.lc;have hla:=E.la;have hlv:=E.lv;have hpe:=im he;obtain ⟨d,hd⟩:∃ d,ln c=d+1:=⟨ln c-1,zo⟩;obtain ⟨U,V,W,hU,hV,hW,hev,hne,-,-,hWz⟩:=xO (S:=S) (d:=d) (P:=ln b-d) (Q:=ln a-d) ha hb zo zo zo zo;have c1:∀ x,evV u' x*evV V x=evV U x*evV v' x:=by
  by_cases hT:tz (fY (aO u' V) (aO U v'))=[]
  ·intro x;have:=aD.1 hT x;rw [fE,ev_mul5,ev_mul5] at this;grind
  ·exfalso;have hta:tz a≠[]:=fun h=>by
    have:ln a=0:=by show (tz a).length=0;rw [h];rfl
    omega
   have h1:=oq hta hT;have h2:=im hT;have h3:ln (aO a (fY (aO u' V) (aO U v')))=ln (fY (aO e V) (aO W v')):=dT fun x=>by
    rw [ev_mul5,fE,fE,ev_mul5,ev_mul5,ev_mul5,ev_mul5,hev,E.he];grind
   have h4:=jd (aO e V) (aO W v');have h5:=fD e V;have h6:=fD W v';omega
 obtain ⟨m,hm⟩:∃ m,m=fY (aO u V) (aO v U):=⟨_,rfl⟩;have hmx:∀ x,evV m x=evV u x*evV V x-evV v x*evV U x:=fun x=>by rw [hm,fE,ev_mul5,ev_mul5]
 have kV:∀ x,k*evV V x=evV m x*evV v' x:=fun x=>by rw [←E.det x,hmx];have:=c1 x;grind
 have kU:∀ x,k*evV U x=evV m x*evV u' x:=fun x=>by rw [←E.det x,hmx];have:=c1 x;grind
 have kW:∀ x,k*evV W x=evV m x*evV e x:=fun x=>by
  have h1:=kV x;have h2:=kU x;rw [hev,E.he];grind
 have hk:=E.k0;have hmn:tz m≠[]:=fun h=>by
  have z:∀ {f:List Rat} {g:List Rat},(∀ x,k*evV f x=evV m x*evV g x)→tz f=[]:=fun {f g} h1=>aD.2 fun x=>by
   have h2:=h1 x;rw [aD.1 h x,nYb] at h2;rcases nXr.1 h2 with h3|h3
   ·exact absurd h3 hk
   ·exact h3
  rcases hne with h1|h1
  ·exact h1 (z kU)
  ·exact h1 (z kV)
 have hv':tz v'≠[]:=fun h=>by
  have:ln v'=0:=by show (tz v').length=0;rw [h];rfl
  omega
 have h1:=oq hmn hv';have h2:ln (aO m v')=ln (V.map (·*k)):=dT fun x=>by rw [ev_mul5,ev_map,kV]
 have h3:=dN (p:=V) (c:=k);have h4:=gy (p:=m) (by show ln m≤1;omega);have h5:seq m 0≠0:=fun h=>hmn (aD.2 fun x=>by rw [h4 x,h])
 have h6:∀ n,seq e n=seq W n*(k / seq m 0):=fun n=>by
  have h7:=ev_inj (p:=W.map (·*k)) (q:=e.map (·*seq m 0)) (fun x=>by rw [ev_map,ev_map,kW,h4]) n;rw [bB,bB] at h7;have h8:=aQ (a:=k) h5;have h9:(seq e n-seq W n*(k / seq m 0))*seq m 0=0:=by grind
  rcases nXr.1 h9 with h|h
  ·grind
  ·contradiction
 have hx:k / seq m 0≠0:=fun h=>by
  have h8:=aQ (a:=k) h5;rw [h,nYb] at h8;exact hk h8.symm
 have hl:(S+1)*(ln b-d+(ln a-d))≤(S+1)*(ln a+ln b):=nXg _ zo;have hall:∀ {l:List Rat},(∀ i,Wz ((S+1)*(ln b-d+(ln a-d))) (seq l i))→∀ x ∈ ay l,Wz ((S+1)*(ln a+ln b)) x:=fun {l} h x hx=>(d9 (D:=1) (fun y hy=>by
  obtain ⟨i,hi,rfl⟩:=ep hy;rw [bC];exact Fr.one (h i)) dZ x hx).mono hl
 rcases tri (k / seq m 0) 0 with h|h|h
 ·rw [tZ h h6];exact hall fun i=>by rw [bB,show seq W i*-1=-seq W i by grind];exact (hWz i).neg
 ·exact absurd h hx
 ·rw [fu h h6];exact hall hWz
theorem pu{a b:List Rat}{L:Nat}(h:Pr a b)(hb:∀ x ∈ b,Wz L x):∀ x ∈ ay a,Wz L x:=by
 obtain ⟨c,hc,h⟩:=h;have hall:∀ {l:List Rat},(∀ i,Wz L (seq l i))→∀ x ∈ ay l,Wz L x:=fun {l} h x hx=>d9 (D:=1) (fun y hy=>by
  obtain ⟨i,hi,rfl⟩:=ep hy;rw [bC];exact Fr.one (h i)) dZ x hx
 have hw:∀ i,Wz L (seq b i):=fun i=>⟨by rw [(iR hb i).1];exact Wh.int _,(iR hb i).2⟩
 rcases tri c 0 with h0|h0|h0
 ·rw [tZ (q:=b) h0 (fun n=>by rw [h n];grind)];exact hall fun i=>by rw [bB,show seq b i*-1=-seq b i by grind];exact (hw i).neg
 ·exact absurd h0 hc
 ·rw [fu (q:=b) h0 (fun n=>by rw [h n];grind)];exact hall hw
def Eg(L:Nat)(a b:List Rat):Prop:=∀ c e,Es a b c e→∀ x ∈ ay e,Wz L x
theorem AK{a b:List Rat}{S:Nat}(ha:∀ x ∈ a,Wz S x)(hb:∀ x ∈ b,Wz S x)(hbn:tz b≠[])(hl:ln b≤ln a)(hN:2*(ln a+ln b)≤W32):Eg ((S+1)*(ln a+ln b)) a b:=by
 intro c e h;have hp:=im hbn;have hS:S≤(S+1)*(ln a+ln b):=by
  have:(S+1)*1≤(S+1)*(ln a+ln b):=nXg _ zo;omega
 rcases h.eu hbn hl with ⟨-,he⟩|he|⟨u,v,u',v',k,E⟩
 ·intro x hx;exact (pu he hb x hx).mono hS
 ·rw [show ay e=[] from spl_ne.2 he];intro x hx;simp at hx
 ·by_cases he:tz e=[]
  ·rw [show ay e=[] from spl_ne.2 he];intro x hx;simp at hx
  ·exact zj E he ha hb hN
theorem Eg.next{L:Nat}{a b r:List Rat}(h:Eg L a b)(hb:tz b≠[])(hr:Pr r (bX a b)):Eg L b r:=fun c e hs=>h c e (hs.shift hb hr)
theorem Eg.snd{L:Nat}{a b:List Rat}(h:Eg L a b):∀ x ∈ ay b,Wz L x:=h a b (Es.start (Pr.refl a) (Pr.refl b))
end Go.Proofs.YtkcpmclnocmalaaGreat.Sg
