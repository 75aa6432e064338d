import Derived.Test.YtafgmcimcbhhjaaGreatQAK18
set_option linter.unusedVariables false
set_option maxHeartbeats 16000000
namespace Go.Proofs.YtafgmcimcbhhjaaGreat
open Go.RowKit Go.Front Go.Num Stab
def elA(t e:Rat):List Rat:=subV (scP (cw miQ 1) ((t+((1:Int):Rat))*bC e)) (cw plQ 1)
def elB(t e:Rat):List Rat:=bh (scP (cw miQ 1) ((t-((1:Int):Rat))*bC e)) (cw plQ 1)
def elW(s:Rat):Rat:=(((2:Int):Rat)*s) / (((1:Int):Rat)+s*s)
def elT(n:Nat)(s:Rat):Rat:=if n=4 then s*s else s
def elE(n:Nat)(e s:Rat):List Rat:=if n=4 then bh (scP (aq (elA (elT n s) e) (elA (elT n s) e)) (elW s-((1:Int):Rat))) (aq (elB (elT n s) e) (elB (elT n s) e)) else elB (elT n s) e
def elO(n:Nat)(e s:Rat):List Rat:=if n=4 then subV (scP (aq (elA (elT n s) e) (elA (elT n s) e)) (elW s+((1:Int):Rat))) (aq (elB (elT n s) e) (elB (elT n s) e)) else elA (elT n s) e
def elD(n:Nat)(e r s:Rat):List Rat:=bh (aq (elE n e s) (elE n e s)) (scP (aq (elO n e s) (elO n e s)) r)
end Go.Proofs.YtafgmcimcbhhjaaGreat
namespace Go.Proofs.YtafgmcimcbhhjaaGreat.Sg
open Go.RowKit Go.Front Go.Num Go.Stab Go.Proofs.YtafgmcimcbhhjaaGreat
theorem wJ(p q:List Rat)(x:Rat):evV (Go.Proofs.YtafgmcimcbhhjaaGreat.subV p q) x=evV p x-evV q x:=Cg p q x
theorem kq(l:List Rat)(x:Rat):evD (tz l) x=evD l x:=(IsD.ev (tz l)).uniq (by rw [show evV (tz l)=evV l from funext (dH l)];exact IsD.ev l) x
theorem em(p q:List Rat)(x:Rat):evD (aq p q) x=evD p x*evV q x+evV p x*evD q x:=(IsD.ev (aq p q)).uniq (h:=fun x=>evD p x*evV q x+evV p x*evD q x) (by
 rw [show evV (aq p q)=fun x=>evV p x*evV q x from funext (aC p q)];exact IsD.mul (IsD.ev p) (IsD.ev q) (Pf.ev p) (Pf.ev q) (Pf.der p)) x
theorem j6(p q:List Rat)(x:Rat):evD (bh p q) x=evD p x+evD q x:=by
 have h:∀ i,seq (derL (bh p q)) i=1*seq (derL p) i+seq (derL q) i:=fun i=>by rw [seq_derL,seq_derL,seq_derL,eX];grind
 have:=sC h x;rw [bM,bM,bM] at this;grind
theorem l0(p:List Rat)(c x:Rat):evD (p.map (·*c)) x=c*evD p x:=by
 have h:∀ i,seq (derL (p.map (·*c))) i=c*seq (derL p) i:=fun i=>by rw [seq_derL,seq_derL,aS];grind
 have:=fN h x;rw [bM,bM] at this;exact this
theorem lZ(l:List Rat)(c x:Rat):evD (scP l c) x=c*evD l x:=by unfold scP;rw [kq,l0]
theorem sF(p q:List Rat)(x:Rat):evD (Go.Proofs.YtafgmcimcbhhjaaGreat.subV p q) x=evD p x-evD q x:=by
 have e:Go.Proofs.YtafgmcimcbhhjaaGreat.subV p q=bh p (q.map (·*-1)):=by
  unfold Go.Proofs.YtafgmcimcbhhjaaGreat.subV
  congr 1
  exact List.map_congr_left fun y _=>by grind
 rw [e,j6,l0];grind
theorem sE(x:Rat):evD plQ x=1:=by show (0*x+0)*x+(0*x+((1:Int):Rat))=1;have:((1:Int):Rat)=1:=rfl;grind
theorem sG(x:Rat):evD miQ x=-1:=by show (0*x+0)*x+(0*x+((-1:Int):Rat))=-1;have:((-1:Int):Rat)=-1:=rfl;grind
theorem hH(p:List Rat)(k:Nat)(x:Rat):evD (cw p (k+1)) x=((k+1:Nat):Rat)*evV p x ^ k*evD p x:=by
 induction k with
 | zero =>
  show evD (aq [((1:Int):Rat)] p) x=_;rw [em,mY,Bv];show (0*x+0)*_+_=_;have:((0+1:Nat):Rat)=1:=rfl;rw [this];grind
 | succ k ih =>
  show evD (aq (cw p (k+1)) p) x=_;rw [em,ih,cY,Rat.pow_succ,Rat.natCast_add (k+1) 1];have:((1:Nat):Rat)=1:=rfl;rw [this];grind
theorem sH{n:Nat}{s:Rat}(h0:0<s)(h1:s<1):0<elT n s∧elT n s<1:=by
 unfold elT;split
 ·exact ⟨jM h0 h0,by have:=eM h1 h0;grind⟩
 ·exact ⟨h0,h1⟩
theorem pv{s:Rat}(h0:0<s):0<elW s∧elW s*(1+s*s)=2*s:=by
 have e1:((1:Int):Rat)=1:=rfl;have e2:((2:Int):Rat)=2:=rfl;have h2:=jM h0 h0;unfold elW;rw [e1,e2];exact ⟨tZ (by grind) (by grind),aF (by grind)⟩
theorem El{s:Rat}(h0:0<s):elW s≤1:=by
 obtain ⟨h1,h2⟩:=pv h0;refine Classical.byContradiction fun hn=>?_
 have h3:=eM (show 1<elW s by grind) (show 0<1+s*s by have:=jM h0 h0;grind);have h4:=tg (s-1);grind
theorem m6(t e x:Rat):evV (elA t e) x=(t+1)*(bC e*(1-x))-(1+x):=by
 unfold elA;rw [wJ,jG,cY,cY,lX,kp,EZ,EZ];have:((1:Int):Rat)=1:=rfl;rw [this];grind
theorem pu(t e x:Rat):evV (elB t e) x=(t-1)*(bC e*(1-x))+(1+x):=by
 unfold elB;rw [ev_add5,jG,cY,cY,lX,kp,EZ,EZ];have:((1:Int):Rat)=1:=rfl;rw [this];grind
theorem wN(t e x:Rat):evD (elA t e) x=-((t+1)*bC e)-1:=by
 unfold elA;rw [sF,lZ,hH,hH,sG,sE,Bv,Bv];have:((1:Int):Rat)=1:=rfl;have e2:((0+1:Nat):Rat)=1:=rfl;rw [this,e2];grind
theorem wM(t e x:Rat):evD (elB t e) x=-((t-1)*bC e)+1:=by
 unfold elB;rw [j6,lZ,hH,hH,sG,sE,Bv,Bv];have:((1:Int):Rat)=1:=rfl;have e2:((0+1:Nat):Rat)=1:=rfl;rw [this,e2];grind
theorem wL{n:Nat}(hn:n=2∨n=4)(e s x:Rat):evV (elE n e s) x=if n=4 then (elW s-1)*(evV (elA (elT n s) e) x*evV (elA (elT n s) e) x)+evV (elB (elT n s) e) x*evV (elB (elT n s) e) x else evV (elB (elT n s) e) x:=by
 have:((1:Int):Rat)=1:=rfl;unfold elE;rcases hn with rfl|rfl
 ·rfl
 ·rw [if_pos rfl,if_pos rfl,ev_add5,jG,aC,aC,this]
theorem wK{n:Nat}(hn:n=2∨n=4)(e s x:Rat):evV (elO n e s) x=if n=4 then (elW s+1)*(evV (elA (elT n s) e) x*evV (elA (elT n s) e) x)-evV (elB (elT n s) e) x*evV (elB (elT n s) e) x else evV (elA (elT n s) e) x:=by
 have:((1:Int):Rat)=1:=rfl;unfold elO;rcases hn with rfl|rfl
 ·rfl
 ·rw [if_pos rfl,if_pos rfl,wJ,jG,aC,aC,this]
theorem pt(n:Nat)(e r s x:Rat):evV (elD n e r s) x=evV (elE n e s) x*evV (elE n e s) x+r*(evV (elO n e s) x*evV (elO n e s) x):=by
 unfold elD;rw [ev_add5,jG,aC,aC]
theorem zM(t e:Rat):(elA t e).length≤2∧(elB t e).length≤2:=by
 have h1:=el (cw miQ 1) ((t+((1:Int):Rat))*bC e) (kj 1);have h2:=el (cw miQ 1) ((t-((1:Int):Rat))*bC e) (kj 1);exact ⟨Go.Proofs.YtafgmcimcbhhjaaGreat.sub_len h1 (iL 1),eC h2 (iL 1)⟩
theorem sJ{n:Nat}(e s:Rat):(elE n e s).length≤3∧(elO n e s).length≤3:=by
 obtain ⟨h1,h2⟩:=zM (elT n s) e;have h3:(aq (elA (elT n s) e) (elA (elT n s) e)).length≤3:=bF h1 h1;have h4:(aq (elB (elT n s) e) (elB (elT n s) e)).length≤3:=bF h2 h2;constructor
 ·unfold elE;split
  ·exact eC (el _ _ h3) h4
  ·omega
 ·unfold elO;split
  ·exact Go.Proofs.YtafgmcimcbhhjaaGreat.sub_len (el _ _ h3) h4
  ·omega
theorem Cl{n:Nat}(e r s:Rat):(elD n e r s).length≤5:=by
 obtain ⟨h1,h2⟩:=sJ (n:=n) e s;have h3:(aq (elE n e s) (elE n e s)).length≤5:=bF h1 h1;have h4:(aq (elO n e s) (elO n e s)).length≤5:=bF h2 h2;exact eC h3 (el _ _ h4)
theorem wO{n:Nat}(hn:n=2∨n=4)(e s x:Rat):evV (elE n e s) x-evV (elO n e s) x=(if n=4 then 8*elT n s*(bC e*(1-x)) else 2)*((1+x)-bC e*(1-x)) ∧
  evV (elE n e s) x+evV (elO n e s) x=if n=4 then 2*elW s*(evV (elA (elT n s) e) x*evV (elA (elT n s) e) x) else 2*elT n s*(bC e*(1-x)):=by
 rw [wL hn,wK hn];rcases hn with rfl|rfl
 ·rw [if_neg dZ,if_neg dZ,if_neg dZ,if_neg dZ,m6,pu];exact ⟨by grind,by grind⟩
 ·rw [if_pos rfl,if_pos rfl,if_pos rfl,if_pos rfl,m6,pu];exact ⟨by grind,by grind⟩
theorem qO{n:Nat}(hn:n=2∨n=4){e0 s:Rat}(he:-1<e0∧e0<1)(h0:0<s)(h1:s<1):evV (elE n e0 s) e0=evV (elO n e0 s) e0∧evV (elE n e0 s) e0=(if n=4 then elW s*(elT n s*(1+e0)*(elT n s*(1+e0))) else elT n s*(1+e0))∧0<evV (elE n e0 s) e0:=by
 obtain ⟨hc,hce⟩:=ig he.1 he.2;obtain ⟨t0,t1⟩:=sH (n:=n) h0 h1;obtain ⟨w0,-⟩:=pv h0;obtain ⟨d1,d2⟩:=wO hn e0 s e0;rw [hce] at d1;have e1:evV (elE n e0 s) e0=evV (elO n e0 s) e0:=by grind
 have hA:evV (elA (elT n s) e0) e0=elT n s*(1+e0):=by rw [m6,hce];grind
 have e2:evV (elE n e0 s) e0=(if n=4 then elW s*(elT n s*(1+e0)*(elT n s*(1+e0))) else elT n s*(1+e0)):=by
  rw [hA,hce] at d2;rcases hn with rfl|rfl
  ·rw [if_neg dZ] at d2 ⊢;grind
  ·rw [if_pos rfl] at d2 ⊢;grind
 refine ⟨e1,e2,?_⟩;have hz:=jM t0 (show 0<1+e0 by grind);rw [e2];split
 ·exact jM w0 (jM hz hz)
 ·exact hz
theorem FB{n:Nat}(hn:n=2∨n=4){e0 s:Rat}(he:-1<e0∧e0<1)(h0:0<s)(h1:s<1):Cp (evV (elE n e0 s)) (evV (elO n e0 s)):=by
 obtain ⟨hc,hce⟩:=ig he.1 he.2;obtain ⟨t0,t1⟩:=sH (n:=n) h0 h1;obtain ⟨w0,-⟩:=pv h0;have hc0:bC e0≠0:=fun h=>by rw [h] at hc;exact absurd hc Rat.lt_irrefl
 have ht:=aF (a:=1) (b:=2*elT n s) (by grind);have hAB:Cp (evV (elA (elT n s) e0)) (evV (elB (elT n s) e0)):=(uK hc0).change (p:=(elT n s+1)*(1 / (2*elT n s))-1) (q:=(elT n s+1)*(1 / (2*elT n s))) (r:=1 / (2*elT n s)) (s:=1 / (2*elT n s))
  (fun x=>by rw [m6,pu];generalize 1 / (2*elT n s)=k at *;generalize bC e0*(1-x)=u;grind)
  (fun x=>by rw [m6,pu];generalize 1 / (2*elT n s)=k at *;generalize bC e0*(1-x)=u;grind)
 rcases hn with rfl|rfl
 ·rw [show evV (elE 2 e0 s)=evV (elB (elT 2 s) e0) from rfl,show evV (elO 2 e0 s)=evV (elA (elT 2 s) e0) from rfl];exact Cp.symm hAB
 ·have pA:=Pf.ev (elA (elT 4 s) e0);have pB:=Pf.ev (elB (elT 4 s) e0);have h2:=Cp.symm ((Cp.symm (hAB.mulr hAB pA pB pB)).mulr (Cp.symm (hAB.mulr hAB pA pB pB)) (pB.mul pB) pA pA);have hw:=aF (a:=1) (b:=2*elW s) (by grind);refine h2.change (p:=1 / (2*elW s)) (q:=1 / (2*elW s)) (r:=1-(elW s-1)*(1 / (2*elW s))) (s:=-((elW s-1)*(1 / (2*elW s)))) (fun x=>?_) (fun x=>?_)
  ·rw [wL (Or.inr rfl),wK (Or.inr rfl),if_pos rfl,if_pos rfl];generalize 1 / (2*elW s)=k at *
   generalize evV (elA (elT 4 s) e0) x*evV (elA (elT 4 s) e0) x=u;generalize evV (elB (elT 4 s) e0) x*evV (elB (elT 4 s) e0) x=v;grind
  ·rw [wL (Or.inr rfl),wK (Or.inr rfl),if_pos rfl,if_pos rfl];generalize 1 / (2*elW s)=k at *
   generalize evV (elA (elT 4 s) e0) x*evV (elA (elT 4 s) e0) x=u;generalize evV (elB (elT 4 s) e0) x*evV (elB (elT 4 s) e0) x=v;grind
theorem Fy{n:Nat}(hn:n=2∨n=4){e0 r s:Rat}(he:-1<e0∧e0<1)(hr:0<r)(h0:0<s)(h1:s<1):Prf false e0 r ((1:Int):Rat) (elE n e0 s) 0 (elD n e0 r s):=by
 obtain ⟨hc,hce⟩:=ig he.1 he.2;obtain ⟨t0,t1⟩:=sH (n:=n) h0 h1;obtain ⟨w0,-⟩:=pv h0;obtain ⟨k1,k2,k3⟩:=qO hn he h0 h1;have hcp:=FB hn he h0 h1;have pE:=Pf.ev (elE n e0 s);have pO:=Pf.ev (elO n e0 s);have hEO:=(hcp.mulr hcp pE pO pO).smulr (k:=r) (by grind);have hEO2:=Cp.symm ((Cp.symm hEO).mulr (Cp.symm hEO) ((pO.mul pO).smul r) pE pE);obtain ⟨k,hk,hl⟩:=uu hEO2 (fun x _ _=>tg _) (fun x _ _=>gU (Rat.le_of_lt hr) (tg _));have hl2:∀ x,-1≤x→x≤1→k≤evV (elD n e0 r s) x:=fun x h2 h3=>by rw [pt];exact hl x h2 h3
 have hA:∀ x,((1:Int):Rat)*(evV (elE n e0 s) x*evV (elE n e0 s) x*(1+x) ^ (0:Int).toNat)=evV (elE n e0 s) x*evV (elE n e0 s) x:=fun x=>by
  rw [show (0:Int).toNat=0 from rfl,Bv];have:((1:Int):Rat)=1:=rfl;grind
 obtain ⟨l1,l2⟩:=sJ (n:=n) e0 s;refine ⟨Af dZ dZ dZ (fun h=>?_) (nXf (ae _) zo) (nXf (ae _) (by have:=Cl (n:=n) e0 r s;omega)) hk hl2,⟨k,hk,hl2⟩,fun x h2 h3=>?_,fun x h2 h3=>?_,?_,fun _ x h2 h3=>?_,fun h=>absurd h dZ⟩
 ·rw [ev_tznil.1 h e0] at k3;exact absurd k3 Rat.lt_irrefl
 ·rw [hA];exact tg _
 ·rw [hA,pt];have:=gU (Rat.le_of_lt hr) (tg (evV (elO n e0 s) x));grind
 ·rw [hA,pt,←k1,if_neg dZ];grind
 ·rw [hA,pt];obtain ⟨d1,d2⟩:=wO hn e0 s x;have hu:0≤bC e0*(1-x):=gU (Rat.le_of_lt hc) (by grind);have hz:=EB hc hce h2;have a1:0≤evV (elE n e0 s) x-evV (elO n e0 s) x:=by
   rw [d1];refine gU ?_ (by grind);split
   ·exact gU (by grind) hu
   ·decide
  have a2:0≤evV (elE n e0 s) x+evV (elO n e0 s) x:=by
   rw [d2];split
   ·exact gU (by grind) (tg _)
   ·exact gU (by grind) hu
  have a3:=gU (Rat.le_of_lt hr) (gU a1 a2);grind
def slV(p q:List Rat)(x:Rat):Rat:=(evD p x*evV q x-evV p x*evD q x) / (evV q x*evV q x)
def nuP(g:Rat)(e:List Rat)(p:Int):List Rat:=tz ((aq (aq e e) (cw plQ p.toNat)).map (·*g))
theorem Eh(g:Rat)(e:List Rat)(p:Int)(x:Rat):evV (nuP g e p) x=g*(evV e x*evV e x*(1+x) ^ p.toNat):=by
 unfold nuP;rw [dH,bJ,aC,aC,cY,kp]
theorem Gc{e0 r s:Rat}(he:-1<e0∧e0<1)(hr:0<r)(h0:0<s)(h1:s<1) :
  slV (nuP ((1:Int):Rat) (elE 2 e0 (s*s)) 0) (tz (elD 2 e0 r (s*s))) e0<slV (nuP ((1:Int):Rat) (elE 4 e0 s) 0) (tz (elD 4 e0 r s)) e0:=by
 obtain ⟨hc,hce⟩:=ig he.1 he.2;obtain ⟨w0,-⟩:=pv h0;have w1:=El h0;have hs0:=jM h0 h0;have hs1:s*s<1:=by have:=eM h1 h0;grind
 have one:((1:Int):Rat)=1:=rfl;have key:∀ (n:Nat) (q:Rat),evV (elE n e0 q) e0=evV (elO n e0 q) e0→0<evV (elE n e0 q) e0→slV (nuP ((1:Int):Rat) (elE n e0 q) 0) (tz (elD n e0 r q)) e0=2*r*(evD (elE n e0 q) e0-evD (elO n e0 q) e0) / (evV (elE n e0 q) e0*((1+r)*(1+r))):=fun n q k1 k2=>by
  unfold slV nuP;rw [kq,kq,dH,dH,bJ,l0,aC,em,pt,cY,aC,em];unfold elD;rw [j6,em,lZ,em,←k1,show (0:Int).toNat=0 from rfl,Bv,one];have hp:evD (cw plQ 0) e0=0:=by show 0*e0+0=(0:Rat);grind
  rw [hp];generalize evV (elE n e0 q) e0=E at *
  generalize evD (elE n e0 q) e0=E';generalize evD (elO n e0 q) e0=O';have hden:(0:Rat)<(E*E+r*(E*E))*(E*E+r*(E*E)):=by
   have a:=jM k2 k2;have b:=jM hr a;exact jM (by grind) (by grind)
  have x1:=aF (a:=1*((E'*E+E*E')*1+E*E*0)*(E*E+r*(E*E))-1*(E*E*1)*(E'*E+E*E'+r*(O'*E+E*O'))) (b:=(E*E+r*(E*E))*(E*E+r*(E*E))) (by grind);have x2:=aF (a:=2*r*(E' - O')) (b:=E*((1+r)*(1+r))) (by grind);generalize (1*((E'*E+E*E')*1+E*E*0)*(E*E+r*(E*E))-1*(E*E*1)*(E'*E+E*E'+r*(O'*E+E*O'))) / ((E*E+r*(E*E))*(E*E+r*(E*E)))=X at *
  generalize 2*r*(E' - O') / (E*((1+r)*(1+r)))=Y at *
  have x3:(X-Y)*((E*E+r*(E*E))*(E*E+r*(E*E)))=0:=by
   have e1:Y*((E*E+r*(E*E))*(E*E+r*(E*E)))=(Y*(E*((1+r)*(1+r))))*(E*E*E):=by grind
   have e2:(X-Y)*((E*E+r*(E*E))*(E*E+r*(E*E)))=X*((E*E+r*(E*E))*(E*E+r*(E*E)))-Y*((E*E+r*(E*E))*(E*E+r*(E*E))):=by grind
   rw [e2,x1,e1,x2];grind
  rcases nXr.1 x3 with x4|x4
  ·grind
  ·rw [x4] at hden;exact absurd hden Rat.lt_irrefl
 obtain ⟨a1,a2,a3⟩:=qO (Or.inl rfl) he hs0 hs1;obtain ⟨b1,b2,b3⟩:=qO (Or.inr rfl) he h0 h1;rw [key 2 (s*s) a1 a3,key 4 s b1 b3];have tt:elT 2 (s*s)=elT 4 s:=rfl;obtain ⟨t0,t1⟩:=sH (n:=4) h0 h1;have hz:0<1+e0:=by grind
 have d2:evD (elE 2 e0 (s*s)) e0-evD (elO 2 e0 (s*s)) e0=2*(1+bC e0):=by
  rw [show elE 2 e0 (s*s)=elB (elT 2 (s*s)) e0 from rfl,show elO 2 e0 (s*s)=elA (elT 2 (s*s)) e0 from rfl,wN,wM];grind
 have d4:evD (elE 4 e0 s) e0-evD (elO 4 e0 s) e0=8*elT 4 s*(1+e0)*(1+bC e0):=by
  have hA:evV (elA (elT 4 s) e0) e0=elT 4 s*(1+e0):=by rw [m6,hce];grind
  have hB:evV (elB (elT 4 s) e0) e0=elT 4 s*(1+e0):=by rw [pu,hce];grind
  unfold elE elO;rw [if_pos rfl,if_pos rfl,j6,sF,lZ,lZ,em,em,wN,wM,hA,hB,one];generalize elT 4 s=t;generalize elW s=w;generalize bC e0=c;grind
 rw [if_neg dZ,tt] at a2;rw [if_pos rfl] at b2;rw [d2,d4,a2,b2];generalize elT 4 s=t at *
 generalize elW s=w at *
 generalize bC e0=c at *
 generalize hzz:1+e0=z at *
 have hk:0<(1+r)*(1+r):=jM (by grind) (by grind);generalize (1+r)*(1+r)=q at *
 have htz:=jM t0 hz;have hp1:0<t*z*q:=jM htz hk;have hp2:0<w*(t*z*(t*z))*q:=jM (jM w0 (jM htz htz)) hk;have y1:=aF (a:=2*r*(2*(1+c))) (b:=t*z*q) (by grind);have y2:=aF (a:=2*r*(8*t*z*(1+c))) (b:=w*(t*z*(t*z))*q) (by grind);generalize 2*r*(2*(1+c)) / (t*z*q)=X at *
 generalize 2*r*(8*t*z*(1+c)) / (w*(t*z*(t*z))*q)=Y at *
 refine Classical.byContradiction fun hn=>?_
 have y3:=cx (show Y≤X by grind) (Rat.le_of_lt hp2);have e1:X*(w*(t*z*(t*z))*q)=w*(t*z)*(X*(t*z*q)):=by grind
 rw [y2,e1,y1] at y3;have hrc:=jM hr (show 0<1+c by grind);have y4:=jM htz hrc;have y5:=cx w1 (Rat.le_of_lt y4);grind
theorem Fu{n:Nat}{e0 r:Rat}(h1:1≤n)(he:-1<e0∧e0<1)(hr:0<r)(x:Rat)(h2:-1≤x)(h3:x≤1) :
  0≤evD (nuP ((1:Int):Rat) [((1:Int):Rat)] (n:Int)) x*evV (tz (buD n e0 r)) x-evV (nuP ((1:Int):Rat) [((1:Int):Rat)] (n:Int)) x*evD (tz (buD n e0 r)) x:=by
 obtain ⟨hc,hce⟩:=ig he.1 he.2;obtain ⟨m,rfl⟩:∃ m,n=m+1:=⟨n-1,zo⟩;have one:((1:Int):Rat)=1:=rfl;have hD1:evD (aq [((1:Int):Rat)] [((1:Int):Rat)]) x=0:=by
  rw [em];have:evD [((1:Int):Rat)] x=0:=by show 0*x+0=(0:Rat);grind
  rw [this];grind
 rw [Eh,mY];unfold nuP buD;rw [kq,l0,em,hD1,aC,mY,kq,dH,ev_add5,j6,lZ,jG,Int.toNat_natCast,cY,cY,hH,hH,sE,sG,kp,lX,one];have hk:=jM hr (Rat.pow_pos (n:=m+1) hc);have hz:=mN (show 0≤1+x by grind) m;have hy:=mN (show 0≤1-x by grind) m;have hn:(0:Rat)≤((m+1:Nat):Rat):=by exact_mod_cast Nat.zero_le _
 rw [Rat.pow_succ (1+x),Rat.pow_succ (1-x)];have h4:=gU (gU hn (Rat.le_of_lt hk)) (gU hz hy);generalize (1+x) ^ m=Z at *
 generalize (1-x) ^ m=Y at *
 generalize r*bC e0 ^ (m+1)=k at *
 generalize ((m+1:Nat):Rat)=q at *
 grind
end Go.Proofs.YtafgmcimcbhhjaaGreat.Sg
/- Sizes of the elliptic prototypes. Plain facts. -/
namespace Go.Proofs.YtafgmcimcbhhjaaGreat
open Go.RowKit Go.Front Go.Num Stab
theorem FrB.scP{S T:Nat}{l:List Rat}{c:Rat}(h:FrB S l)(hc:Sz T c)(hT:1≤T):FrB (S+T) (scP l c):=by
 obtain ⟨h0,D,h1,h2,h3⟩:=h;have hf:FrL (S+T) (D*c.den) (l.map (·*c)):=fun x hx=>by
  obtain ⟨y,hy,rfl⟩:=nYg.1 hx;exact (h3 y hy).mul (wF hc)
 refine ⟨zo,D*c.den,Nat.mul_pos h1 c.den_pos,?_,FrL.tz hf⟩;rw [Nat.pow_add];exact Nat.mul_lt_mul'' h2 hc.2
attribute [local go_sem] XW.cell XW.frozen
set_option maxRecDepth 8000 in
theorem oO(x y:PH)(q:Rat)(u d:List Rat)(p:Int)(w:World)(hx:tY w x q u p d)(hy:tY w y q u p d):ak 108 [x.v,y.v] w (fun _:Unit=>.bool true) (fun _ _=>True):=by
 obtain ⟨⟨xn,xa,xl,xc,xb,xm,xd⟩,⟨xea,xen,xec⟩,xp,⟨xda,xdn,xdc⟩⟩:=x;obtain ⟨⟨yn,ya,yl,yc,yb,ym,yd⟩,⟨yea,yen,yec⟩,yp,⟨yda,ydn,ydc⟩⟩:=y;have HX:=Hi (Ext.refl w);have G1:=Hi hx.1;have G2:=Hi hy.1;have L1:=Hi hx.2.1;have L2:=Hi hx.2.2.2;have L3:=Hi hy.2.1;have L4:=Hi hy.2.2.2;have e1:=hx.2.2.1;have e2:=hy.2.2.1;simp only at G1 G2 L1 L2 L3 L4 e1 e2;subst e1;subst e2;clear hx hy;unfold ak;go_enter Tryz.func108,Tryz.ntmps108
 go_upto_region 1 with fail
 refine ki ?_;intro w1 hE B2 B3 hz_w1 hr_w1;refine mV7 hE ?_ HX G1 G2 L1 L2 L3 L4;clear HX G1 G2 L1 L2 L3 L4;intro HX G1 G2 L1 L2 L3 L4;replace b_B2:=bX3 B2;replace b_B3:=bX3 B3
 go_wp2_with fail
 refine cM ((by have h:=mI ⟨xn,xa,xl,xc,xb,xm,xd⟩ ⟨yn,ya,yl,yc,yb,ym,yd⟩ _ _ _ G1.out G2.out;rw [decide_eq_true rfl] at h;exact h)) fun x2 w2 hE _=>?_
 refine mV7 hE ?_ B2 B3 HX L1 L2 L3 L4;clear B2 B3 HX L1 L2 L3 L4;intro B2 B3 HX L1 L2 L3 L4;replace b_B2:=bX3 B2;replace b_B3:=bX3 B3
 go_wp2_with fail
 refine cM ((by have h:=hZ ⟨xea,xen,xec⟩ ⟨yea,yen,yec⟩ u u _ L1.out L3.out;rw [decide_eq_true rfl] at h;exact h)) fun x3 w3 hE _=>?_
 refine mV5 hE ?_ B2 B3 HX L2 L4;clear B2 B3 HX L2 L4;intro B2 B3 HX L2 L4;replace b_B2:=bX3 B2;replace b_B3:=bX3 B3
 go_wp2_with fail
 refine cM ((by have h:=hZ ⟨xda,xdn,xdc⟩ ⟨yda,ydn,ydc⟩ d d _ L2.out L4.out;rw [decide_eq_true rfl] at h;exact h)) fun x4 w4 hE _=>?_
 replace HX:=hE.tr HX;go_wp2
 go_ret
 exact ⟨(),rfl,HX.out,trivial⟩
set_option maxRecDepth 100000
def z0:Rat:=((0:Int):Rat)
def o1:Rat:=((1:Int):Rat)
def t2:List Rat:=[((2:Int):Rat)]
theorem CI:eo 1 z0 o1=0:=by decide +kernel
theorem FL:buD 1 z0 o1=t2:=by decide +kernel
theorem FK:chD 1 z0 o1=t2:=by decide +kernel
theorem CJ:inQ 1 z0 o1=o1∧inE 1 z0=[o1]∧inD 1 z0 o1=t2:=by decide +kernel
theorem FI:dr o1 [o1] 1 t2=true:=by decide +kernel
theorem Dg:SzL 1 t2:=fun x hx=>by rw [nXv.1 hx];exact Sz.int (z:=2) dZ
theorem Dh:FrB 3 t2:=FrB.of (k:=1) (n:=1) Dg dZ
theorem Az{K S n:Nat}{d:List Rat}(h:FrB S d)(hl:d.length≤n)(hn:n≤1000)(hK:KN K S n):FrK K d∧FrK K (Sg.sqfV d):=by
 obtain ⟨h0,D,h1,h2,h3⟩:=h;refine ⟨sx h0 h1 h2 h3 hl hK,?_⟩;by_cases hz:tz d=[]
 ·have e:Sg.sqfV d=[]:=by
   rw [←Ah,hz];decide +kernel
  rw [e];exact ⟨1,1,nXe _,dZ,dZ,fun x hx=>by simp at hx,(hK.self (Nat.zero_le _):KZ K S 0).imp (fun h=>nXf (nXh _ zo) h) (fun h=>nXf (by simp;omega) h)⟩
 ·exact wD h1 h3 hz hl hn hK
theorem F5{K S n:Nat}{d:List Rat}(h:FrB S d)(hl:d.length≤n)(hn:n≤1000)(hK:KN K S n)(h1:K≤3900000)(h2:(d.length+1)*(K / 3)≤25000000):DnK K d.length d:=⟨(Az h hl hn hK).1,(Az h hl hn hK).2,h1,h2⟩
def CW(x:PH×Int)(_:World):Prop:=x.2=12∧x.1=PH0
theorem CW.ext{x:PH×Int}{w w':World}(h:CW x w)(_:Ext w w'):CW x w':=h
instance {x:PH×Int} {w w':World}:Go.Front.Mv w w' (CW x w) (CW x w'):=⟨fun e h=>CW.ext h e⟩

theorem q9(w:World):ak 45 [] w (fun _:Unit=>.bool true) (fun _ _=>True):=by
 have HX:=Hi (Ext.refl w);have Z0:Hid (Sz 1 z0):=Hi (Sz.int (z:=0) dZ);have Z1:Hid (Sz 1 o1):=Hi (Sz.int (z:=1) dZ);unfold ak;go_enter Tryz.func45,Tryz.ntmps45
 go_wp2_with fail
 refine cM (ce 0 _ dZ dZ) fun x1 w1 hE G1=>?_
 replace HX:=hE.tr HX;have hs_w1:=hE.size
 go_wp2_with fail
 refine cM (ce 1 _ dZ dZ) fun x2 w2 hE G2=>?_
 refine mV2 hE ?_ G1 HX;clear G1 HX;intro G1 HX;have hs_w2:=hE.size
 go_upto_region 2 with fail
 refine ki ?_;intro w3 hE B1 B2 hz_w3 hr_w3;refine mV3 hE ?_ G2 G1 HX;clear G2 G1 HX;intro G2 G1 HX;replace b_B1:=bX3 B1;replace b_B2:=bX3 B2;have R0:Hid (aP w3 x1 z0):=Hi (G1.out.raw Z0.out dZ);have R1:Hid (aP w3 x2 o1):=Hi (G2.out.raw Z1.out dZ);have C1:Hid (aB w3 x2 o1):=Hi G2.out;clear G1;clear G2;obtain ⟨yn,ya,yl,yc,yb,ym,yd⟩:=x1;obtain ⟨xn,xa,xl,xc,xb,xm,xd⟩:=x2
 go_wp2_with fail
 refine cM (lI 1 ⟨yn,ya,yl,yc,yb,ym,yd⟩ ⟨xn,xa,xl,xc,xb,xm,xd⟩ z0 o1 1 _ R0.out R1.out Z0.out Z1.out dZ dZ) fun x4 w4 hE G4=>?_
 refine mV6 hE ?_ B1 B2 HX R0 R1 C1;clear B1 B2 HX R0 R1 C1;intro B1 B2 HX R0 R1 C1;have hs_w4:=hE.size;obtain ⟨⟨⟨a1,a2,a3,a4,a5,a6,a7⟩,⟨a8,a9,a10⟩,ap,⟨a11,a12,a13⟩⟩,e4⟩:=x4;obtain ⟨he,-,hp⟩:=G4.out;rw [CI] at he hp;have PA:Hid (tY w4 ⟨⟨a1,a2,a3,a4,a5,a6,a7⟩,⟨a8,a9,a10⟩,ap,⟨a11,a12,a13⟩⟩ o1 [o1] 1 t2):=Hi (by have h:=hp rfl;rw [show (1:Int).toNat=1 from rfl,FL] at h;exact h);simp only at he;subst he;obtain rfl:ap=1:=PA.out.2.2.1;clear hp G4
 go_upto_region 3 with fail
 refine nmA ?_;intro w5 hE B3 hz_w5 hr_w5;refine mV7 hE ?_ B1 B2 HX R0 R1 C1 PA;clear B1 B2 HX R0 R1 C1 PA;intro B1 B2 HX R0 R1 C1 PA;replace b_B1:=bX3 B1;replace b_B2:=bX3 B2
 go_wp2_with fail
 refine cM (vt 1 ⟨yn,ya,yl,yc,yb,ym,yd⟩ ⟨xn,xa,xl,xc,xb,xm,xd⟩ z0 o1 1 _ R0.out R1.out Z0.out Z1.out dZ dZ) fun x6 w6 hE G6=>?_
 refine mV8 hE ?_ B3 B1 B2 HX R0 R1 C1 PA;clear B3 B1 B2 HX R0 R1 C1 PA;intro B3 B1 B2 HX R0 R1 C1 PA;have hs_w6:=hE.size;obtain ⟨⟨⟨b1,b2,b3,b4,b5,b6,b7⟩,⟨b8,b9,b10⟩,bp,⟨b11,b12,b13⟩⟩,e6⟩:=x6;obtain ⟨he,-,hp⟩:=G6.out;rw [CI] at he hp;have PB:Hid (tY w6 ⟨⟨b1,b2,b3,b4,b5,b6,b7⟩,⟨b8,b9,b10⟩,bp,⟨b11,b12,b13⟩⟩ o1 [o1] 1 t2):=Hi (by have h:=hp rfl;rw [show (1:Int).toNat=1 from rfl,FK] at h;exact h);simp only at he;subst he;obtain rfl:bp=1:=PB.out.2.2.1;clear hp G6
 go_upto_region 4 with fail
 refine nmA ?_;intro w7 hE B5 hz_w7 hr_w7;refine mV8 hE ?_ B3 B1 B2 HX R0 R1 C1 PA;clear B3 B1 B2 HX R0 R1 C1 PA;intro B3 B1 B2 HX R0 R1 C1 PA;replace PB:=mV hE PB;replace b_B1:=bX3 B1;replace b_B2:=bX3 B2
 go_wp2_with fail
 refine cM (yP 1 ⟨yn,ya,yl,yc,yb,ym,yd⟩ ⟨xn,xa,xl,xc,xb,xm,xd⟩ z0 o1 1 _ R0.out R1.out Z0.out Z1.out dZ dZ) fun x8 w8 hE G8=>?_
 refine mV8 hE ?_ B5 B3 B1 B2 HX C1 PA PB;clear B5 B3 B1 B2 HX C1 PA PB;intro B5 B3 B1 B2 HX C1 PA PB;have hs_w8:=hE.size;obtain ⟨⟨⟨c1,c2,c3,c4,c5,c6,c7⟩,⟨c8,c9,c10⟩,cp,⟨c11,c12,c13⟩⟩,e8⟩:=x8;obtain ⟨he,-,hp⟩:=G8.out;rw [CI] at he hp;have PC:Hid (tY w8 ⟨⟨c1,c2,c3,c4,c5,c6,c7⟩,⟨c8,c9,c10⟩,cp,⟨c11,c12,c13⟩⟩ o1 [o1] 1 t2):=Hi (by have h:=hp rfl;rw [show (1:Int).toNat=1 from rfl,CJ.1,CJ.2.1,CJ.2.2] at h;exact h);simp only at he;subst he;obtain rfl:cp=1:=PC.out.2.2.1;clear hp G8
 go_upto_region 5 with fail
 refine nmA ?_;intro w9 hE B7 hz_w9 hr_w9;refine mV8 hE ?_ B5 B3 B1 B2 HX C1 PA PB;clear B5 B3 B1 B2 HX C1 PA PB;intro B5 B3 B1 B2 HX C1 PA PB;replace PC:=mV hE PC;replace b_B1:=bX3 B1;replace b_B2:=bX3 B2;have HX9:=Hi (Ext.refl w9);have PA9:=PA;have PB9:=PB;have PC9:=PC;have C19:=C1;clear PA;clear PB;clear PC;clear C1;clear R0;clear R1;refine aX [(8,6)] _ (by simp only [i9,mg,List.push_toArray,List.cons_append,List.nil_append];exact rfl) (by intro c a d v w h;cases d <;> exact h) 8 (fun opIx=>match opIx with
  | 2=>sR (((1:Int):Rat) / ((2:Int):Rat))
  | 3=>.spec (PH×Int) ((PH0,0)) (PE) (fun x w'=>CW x w')
  | 7=>.alloc 64 #[.bool false,.slice none 0 0,.slice none 0 0,.slice none 0 0,.int .i64 0,.slice none 0 0]
  | _=>.quiet) (fun|3=>[2]|_=>[]) kZ kZ kZ (fun w0 he0 hz0 hc0 hf0=>?_)
 replace he0:=Hi he0;simp only [pT];refine qQ ?_;refine wps he0 (fun w1 hW hG=>?_) fun x30=>?_
 ·exact spc [.int .i64 1,.int .i64 2] Tryz.func54 (iq 1 2 _ dZ dZ dZ dZ)
 refine qZ ?_;refine wps he0 (fun w1 hW hG=>?_) fun x31=>?_
 ·obtain ⟨wa30,hwa30,g30⟩:mf _ _:=hG 2 dZ;exact spc [.int .i64 3,RH.v ⟨yn,ya,yl,yc,yb,ym,yd⟩,RH.v ⟨xn,xa,xl,xc,xb,xm,xd⟩,x30.v] Tryz.func55 (tF 3 ⟨yn,ya,yl,yc,yb,ym,yd⟩ ⟨xn,xa,xl,xc,xb,xm,xd⟩ x30 _ dZ dZ)
 refine qZ ?_;refine aQ rfl rfl (fun w=>by simp [execOp,go_sem,ptr]) (fun b32 hb32 hl32=>?_);refine qZ ?_;refine aj ?_;intro w10 hI;have hE:=he0.out.trans hI.ext;have G31:=gT (hI.facts 3);have A32:Hid (w10.heap[b32]?=some (.cells #[.bool false,.slice none 0 0,.slice none 0 0,.slice none 0 0,.int .i64 0,.slice none 0 0] 64 (0,0))):=hI.facts 7;rw [hz0] at hl32;clear hI he0 hz0 hc0 hf0;refine mV6 hE ?_ B7 B5 B3 B2 HX HX9;clear B7 B5 B3 B2 HX HX9;intro B7 B5 B3 B2 HX HX9;replace b_A32:=bX3 A32;simp only [pD,ptr];obtain ⟨x31,e31⟩:=x31;obtain ⟨he,hp⟩:=G31.out;simp only at he hp;subst he;subst hp;clear G31;simp only [PH0,PE]
 go_upto_region 6 with fail
 refine bL A32.out rfl ?_;intro w11 T;replace HX:=Hi (T.ext HX.out zo);replace B2:=Hi (T.rest _ _ zo B2.out);replace B3:=Hi (T.rest _ _ zo B3.out);replace B5:=Hi (T.rest _ _ zo B5.out);replace B7:=Hi (T.rest _ _ zo B7.out);replace HX9:=Hi (T.ext HX9.out zo);clear T
 (try clear b_A32);(try clear A32)
 go_wp2_with fail
 refine cM (ce 2 _ dZ dZ) fun x12 w12 hE G12=>?_
 refine mV6 hE ?_ HX B2 B3 B5 B7 HX9;clear HX B2 B3 B5 B7 HX9;intro HX B2 B3 B5 B7 HX9
 go_upto_region 7 with fail
 refine nmA ?_;intro w13 hE B40 hz_w13 hr_w13;refine mV7 hE ?_ G12 HX B2 B3 B5 B7 HX9;clear G12 HX B2 B3 B5 B7 HX9;intro G12 HX B2 B3 B5 B7 HX9;replace b_B3:=bX3 B3;have LT:=Hi (pK B40.out G12.out)
 (try clear c_B40 f_B40 l_B40);(try clear B40)
 clear G12;have PA:=Hi (PA9.out.ext HX9.out);have PB:=Hi (PB9.out.ext HX9.out);have PC:=Hi (PC9.out.ext HX9.out);have C1:=Hi (C19.out.ext HX9.out);clear PA9 PB9 PC9 C19;clear HX9;obtain ⟨bl,hbl⟩:∃ b,b=w12.heap.size:=⟨_,rfl⟩;rw [←hbl] at LT ⊢;clear hbl
 go_wp2_with fail
 refine cM ((by have h:=hZ ⟨a11,a12,a13⟩ ⟨some ⟨bl,0,none⟩,1,1⟩ t2 t2 _ PA.out.2.2.2 LT.out;rw [decide_eq_true rfl] at h;exact h)) fun x14 w14 hE _=>?_
 refine mV8 hE ?_ HX B2 B3 B5 B7 LT PA PB;clear HX B2 B3 B5 B7 LT PA PB;intro HX B2 B3 B5 B7 LT PA PB;refine mV2 hE ?_ PC C1;clear PC C1;intro PC C1;replace b_B3:=bX3 B3;replace b_B5:=bX3 B5
 go_wp2_with fail
 refine cM (oO ⟨⟨a1,a2,a3,a4,a5,a6,a7⟩,⟨a8,a9,a10⟩,1,⟨a11,a12,a13⟩⟩ ⟨⟨b1,b2,b3,b4,b5,b6,b7⟩,⟨b8,b9,b10⟩,1,⟨b11,b12,b13⟩⟩ o1 [o1] t2 1 _ PA.out PB.out) fun x15 w15 hE _=>?_
 refine mV8 hE ?_ HX B2 B3 B7 LT PA PC C1;clear HX B2 B3 B7 LT PA PC C1;intro HX B2 B3 B7 LT PA PC C1;replace b_B7:=bX3 B7
 go_wp2_with fail
 refine cM ((by have h:=hZ ⟨c11,c12,c13⟩ ⟨some ⟨bl,0,none⟩,1,1⟩ t2 t2 _ PC.out.2.2.2 LT.out;rw [decide_eq_true rfl] at h;exact h)) fun x16 w16 hE _=>?_
 refine mV7 hE ?_ HX B2 B3 B7 PA PC C1;clear HX B2 B3 B7 PA PC C1;intro HX B2 B3 B7 PA PC C1;replace b_B2:=bX3 B2;replace b_B7:=bX3 B7
 go_wp2_with fail
 refine nmA (F:=fun W=>Calls _ _ _ W _) ?_;intro w17 hE B41 hz_w17 hr_w17;refine mV5 hE ?_ HX B3 PA PC C1;clear HX B3 PA PC C1;intro HX B3 PA PC C1
 change Calls _ _ _ _ _
 have LO:=Hi (pK (x:=⟨xn,xa,xl,xc,xb,xm,xd⟩) B41.out C1.out)
 (try clear c_B41 f_B41 l_B41);(try clear B41)
 refine cM ((by have h:=hZ ⟨c8,c9,c10⟩ ⟨some ⟨w16.heap.size,0,none⟩,1,1⟩ [o1] [o1] _ PC.out.2.1 LO.out;rw [decide_eq_true rfl] at h;exact h)) fun x18 w18 hE _=>?_
 refine mV3 hE ?_ HX B3 PA;clear HX B3 PA;intro HX B3 PA;replace b_B3:=bX3 B3;have LD:=PA.out.2.2.2.len;have LE:=PA.out.2.1.len;simp only at LD LE;obtain rfl:a12=1:=LD.symm;obtain rfl:a9=1:=LE.symm;clear LD LE;have RP:Hid (mu w18 ⟨⟨a1,a2,a3,a4,a5,a6,a7⟩,⟨a8,1,a10⟩,1,⟨a11,1,a13⟩⟩ o1 [o1] t2):=Hi ⟨PA.out.1.raw Z1.out dZ,PA.out.2.1.raw (k:=1) (fun x hx=>by rw [nXv.1 hx];exact Z1.out) dZ,PA.out.2.2.2.raw Dg dZ⟩
 go_wp2_with fail
 refine cM ((by have h:=mL ⟨⟨a1,a2,a3,a4,a5,a6,a7⟩,⟨a8,1,a10⟩,1,⟨a11,1,a13⟩⟩ o1 [o1] t2 10000 _ RP.out (by show 1≤49;decide) (F5 Dh (n:=1) dZ dZ (by unfold KN;decide) dZ dZ);rw [show (PH.p ⟨⟨a1,a2,a3,a4,a5,a6,a7⟩,⟨a8,1,a10⟩,1,⟨a11,1,a13⟩⟩)=1 from rfl,FI] at h;exact h)) fun x20 w20 hE _=>?_
 replace HX:=hE.tr HX;go_wp2
 go_ret
 exact ⟨(),rfl,HX.out,trivial⟩
open Sg
def edQ(e:Int):Rat:=((e % 19-9:Int):Rat) / ((10:Int):Rat)
def riQ(r:Int):Rat:=((1+r % 30:Int):Rat) / ((10:Int):Rat)
def seQ(s:Int):Rat:=((1+s % 9:Int):Rat) / ((10:Int):Rat)
def yU(n:Int):Nat:=(1+n % 5).toNat
theorem Ep:∀ m:Nat,m<19→-1<(((m:Int)-9:Int):Rat) / ((10:Int):Rat)∧(((m:Int)-9:Int):Rat) / ((10:Int):Rat)<1∧((((m:Int)-9:Int):Rat) / ((10:Int):Rat)).num.natAbs<W32∧((((m:Int)-9:Int):Rat) / ((10:Int):Rat)).den<W32 ∧
  (bC ((((m:Int)-9:Int):Rat) / ((10:Int):Rat))).num.natAbs<W32∧(bC ((((m:Int)-9:Int):Rat) / ((10:Int):Rat))).den<W32∧(bkV ((((m:Int)-9:Int):Rat) / ((10:Int):Rat))).num.natAbs<W32∧(bkV ((((m:Int)-9:Int):Rat) / ((10:Int):Rat))).den<W32:=by decide +kernel
theorem DI:∀ m:Nat,m<30→0<((1+(m:Int):Int):Rat) / ((10:Int):Rat)∧(((1+(m:Int):Int):Rat) / ((10:Int):Rat)).num.natAbs<W32∧(((1+(m:Int):Int):Rat) / ((10:Int):Rat)).den<W32:=by decide +kernel
theorem Dx:∀ m:Nat,m<9→0<((1+(m:Int):Int):Rat) / ((10:Int):Rat)∧((1+(m:Int):Int):Rat) / ((10:Int):Rat)<1∧(((1+(m:Int):Int):Rat) / ((10:Int):Rat)).num.natAbs<W32∧(((1+(m:Int):Int):Rat) / ((10:Int):Rat)).den<W32:=by decide +kernel
theorem sz1{q:Rat}(h:q.num.natAbs<W32∧q.den<W32):Sz 1 q:=⟨by rw [Nat.pow_one];exact h.1,by rw [Nat.pow_one];exact h.2⟩
theorem f7(z m:Int)(hm:0<m):∃ n:Nat,z % m=(n:Int)∧(n:Int)<m:=by
 have h1:=Int.emod_nonneg z (show m≠0 by omega);have h2:=Int.emod_lt_of_pos z hm;exact ⟨(z % m).toNat,zo,zo⟩
structure EdF (e:Rat):Prop where
 lo:-1<e
 hi:e<1
 z:Sz 1 e
 w:Sz 1 (bC e)
 b:Sz 1 (bkV e)
theorem Er(e:Int):EdF (edQ e):=by
 obtain ⟨m,h1,h2⟩:=f7 e 19 dZ;unfold edQ;rw [h1];obtain ⟨a,b,c,d,f,g,i,j⟩:=Ep m zo;exact ⟨a,b,sz1 ⟨c,d⟩,sz1 ⟨f,g⟩,sz1 ⟨i,j⟩⟩
theorem DJ(r:Int):0<riQ r∧Sz 1 (riQ r):=by
 obtain ⟨m,h1,h2⟩:=f7 r 30 dZ;unfold riQ;rw [h1];obtain ⟨a,b⟩:=DI m zo;exact ⟨a,sz1 b⟩
theorem Ga(s:Int):0<seQ s∧seQ s<1∧Sz 1 (seQ s):=by
 obtain ⟨m,h1,h2⟩:=f7 s 9 dZ;unfold seQ;rw [h1];obtain ⟨a,b,c⟩:=Dx m zo;exact ⟨a,b,sz1 c⟩
theorem vw(n:Int):1≤yU n∧yU n≤5∧((yU n:Nat):Int)=1+n % 5:=by
 have h1:=Int.emod_nonneg n (show (5:Int)≠0 by decide);unfold yU;omega
theorem xY{n:Nat}{e r:Rat}(h1:1≤n)(h5:n≤8)(he:EdF e)(hr:0<r):eo (n:Nat) e r=0:=by
 have e1:((1:Int):Rat)=1:=rfl;have e2:((-1:Int):Rat)=-1:=rfl;have a1:=he.lo;have a2:=he.hi;unfold eo;rw [if_neg zo,if_neg (fun h=>by rw [jJ,sT,e1,e2] at h;grind),if_neg (fun h=>by rw [jJ] at h;grind)]
def elN(n:Nat):Nat:=2+2*(n % 2)
def alG(k n:Nat)(e r:Rat):Rat:=if k=2 then inQ n e r else ((1:Int):Rat)
def alE(k n:Nat)(e q:Rat):List Rat:=if k=2 then inE n e else if k=3 then elE (elN n) e q else [((1:Int):Rat)]
def alP(k n:Nat):Int:=if k=2 then ((n % 2:Nat):Int) else if k=3 then 0 else (n:Int)
def alD(k n:Nat)(e r q:Rat):List Rat:=if k=0 then buD n e r else if k=1 then chD n e r else if k=2 then inD n e r else elD (elN n) e r q
def alI(k:Nat):Bool:=decide (k=2)
section
variable {A B:List Rat} (hA:C6 A) (hB:C6 B)
include hA hB
end
theorem qw{n:Nat}(hn:n≤5):FrB 13 (cw plQ n):=(dz (gV 1 dZ) dZ n zo).mono zo
theorem vM{n:Nat}(hn:n≤5):FrB 13 (cw miQ n):=(dz (gV (-1) dZ) dZ n zo).mono zo
theorem vg{c:Rat}{n:Nat}(h:Sz 1 c)(hn:n≤5):Sz 6 (c ^ n):=(h.pow n).mono zo
theorem FD{n:Nat}{e:Rat}(h5:n≤5):(chW n e).length≤6:=nXf (jC cH cG _ _ n _ (p9 zo)) zo
structure AlZ (g:Rat) (e d:List Rat) (p:Int):Prop where
 zg:Sz 3 g
 fe:FrB 115 e
 le:e.length≤3
 fd:FrB 450 d
 ld:d.length≤6
 p0:0≤p
 p5:p≤5
 lp:2*e.length+p.toNat≤7
theorem FF{n:Nat}{e r:Rat}(h5:n≤5)(he:EdF e)(zr:Sz 1 r):FrB 450 (buD n e r)∧(buD n e r).length≤6:=by
 have h1:=(qw h5).add ((vM h5).scP (zr.mul (vg he.w h5)) zo);exact ⟨h1.mono zo,nXf (eC (n:=n+1) (iL n) (el _ _ (kj n))) zo⟩
end Go.Proofs.YtafgmcimcbhhjaaGreat
/- Package prototype: Elliptic of order 2 and 4. -/
namespace Go.Proofs.YtafgmcimcbhhjaaGreat
open Go.RowKit Go.Front Go.Num Stab
attribute [local go_sem] XW.cell XW.frozen
theorem aI.apz3{w:World}{s:SH}{qs:List Rat}{B:Nat}{T:TypeId}(h:aI w s qs)(hB:w.heap[B]?=some (.cells #[.bool false,.slice none 0 0,.slice none 0 0] T (0,0))):ApB s B:=by
 rcases Nat.eq_zero_or_pos s.n with h0|h0
 ·exact Or.inl h0
 right
 intro o ho;obtain ⟨sa,sn,sc⟩:=s;simp only at ho h0;obtain ⟨b,off,r,e,⟨c1,c2,c3⟩,hc⟩:=h.at (k:=0) h0;rw [ho] at e;simp only [Option.some.injEq,Addr.mk.injEq] at e;obtain ⟨rfl,rfl,-⟩:=e;rw [Nat.zero_mul,Nat.add_zero,ab hB] at c1 c3;rcases o with _|_|_|o <;> simp at c1 c3
 obtain ⟨rneg,ra,rn,rc,rb,rm,rd⟩:=r;simp only at c3;have h1:=hc.2.2.len;simp only at h1;rw [←c3.2.1] at h1;exact absurd (bN.1 (nXj.1 h1)) (Rat.den_nz _)
theorem Fl{w1:World}{b b' b'':Nat}{T T' T'':TypeId}{a0 a1 a2 a3 a4 a5 u0 u1 u2 u3 u4 u5 c0 c1 c2 v0 v1 v2 d0 d1 d2 x0 x1 x2:Value}{F:World→Prop}(hb:w1.heap[b]?=some (.cells #[a0,a1,a2,a3,a4,a5] T (0,0)))(hn:#[a0,a1,a2,a3,a4,a5].toList.all gu=true)
 (hb':w1.heap[b']?=some (.cells #[c0,c1,c2] T' (0,0)))(hn':#[c0,c1,c2].toList.all gu=true)(hb'':w1.heap[b'']?=some (.cells #[d0,d1,d2] T'' (0,0)))(hn'':#[d0,d1,d2].toList.all gu=true)(h1:b'≠b)(h2:b''≠b)(h3:b''≠b')
 (H:∀ w2 w3 w4 w5,fP w1 b T #[u0,u1,u2,u3,u4,u5] w2→fP w2 b' T' #[v0,v1,v2] w3→fP w3 b'' T'' #[x0,x1,x2] w4→Ext w4 w5→F w5) :
  F ((((((((((((w1.setCell ⟨b,0,none⟩ u0).setCell ⟨b,1,none⟩ u1).setCell ⟨b,2,none⟩ u2).setCell ⟨b,3,none⟩ u3).setCell ⟨b,4,none⟩ u4).setCell ⟨b,5,none⟩ u5).setCell ⟨b',0,none⟩ v0).setCell ⟨b',1,none⟩ v1).setCell ⟨b',2,none⟩ v2).setCell ⟨b'',0,none⟩ x0).setCell ⟨b'',1,none⟩ x1).setCell ⟨b'',2,none⟩ x2).drew :=
 bL (v0:=u0) (v1:=u1) (v2:=u2) (v3:=u3) (v4:=u4) (v5:=u5) (F:=fun W=>F (((((((W.setCell ⟨b',0,none⟩ v0).setCell ⟨b',1,none⟩ v1).setCell ⟨b',2,none⟩ v2).setCell ⟨b'',0,none⟩ x0).setCell ⟨b'',1,none⟩ x1).setCell ⟨b'',2,none⟩ x2).drew)) hb hn fun w2 T2 =>
  aU (v0:=v0) (v1:=v1) (v2:=v2) (F:=fun W=>F ((((W.setCell ⟨b'',0,none⟩ x0).setCell ⟨b'',1,none⟩ x1).setCell ⟨b'',2,none⟩ x2).drew)) (T2.rest _ _ h1 hb') hn' fun w3 T3 =>
   aU (v0:=x0) (v1:=x1) (v2:=x2) (F:=fun W=>F W.drew) (T3.rest _ _ h3 (T2.rest _ _ h2 hb'')) hn'' fun w4 T4=>H w2 w3 w4 _ T2 T3 T4 (Ext.drew _)
set_option maxRecDepth 8000 in
theorem uo(w:World):ak 43 [] w IvV (fun x w'=>aB w' x.1 (-1)∧aB w' x.2 1):=by
 have HX:=Hi (Ext.refl w);unfold ak;go_enter Tryz.func43,Tryz.ntmps43
 go_upto_region 1 with fail
 refine nmA ?_;intro w0 hE B0 hz_w0 hr_w0;replace HX:=hE.tr HX
 go_wp2_with fail
 refine cM (ce (-1) _ dZ dZ) fun x1 w1 hE G1=>?_
 refine mV2 hE ?_ B0 HX;clear B0 HX;intro B0 HX
 go_wp2_with fail
 refine cM (ce 1 _ dZ dZ) fun x2 w2 hE G2=>?_
 refine mV3 hE ?_ G1 B0 HX;clear G1 B0 HX;intro G1 B0 HX
 go_wp2_with fail
 refine cM (qH x1 x2 _ _ _ (G1.out.raw (Sz.int dZ) dZ) (G2.out.raw (Sz.int dZ) dZ)) fun x3 w3 hE G3=>?_
 refine mV2 hE ?_ B0 HX;clear B0 HX;intro B0 HX;replace b_B0:=bX3 B0;have e1:loV ((-1:Int):Rat) ((1:Int):Rat)=-1:=by decide +kernel
 have e2:hiV ((-1:Int):Rat) ((1:Int):Rat)=1:=by decide +kernel
 rw [e1,e2] at G3;obtain ⟨⟨ln,la,ll,lc,lb,lm,ld⟩,⟨hn,ha,hl,hc,hb,hm,hd⟩⟩:=x3;have HL:=Hi G3.out.1;have HH:=Hi G3.out.2;clear G3 e1 e2;go_wp2;refine bL (F:=fun W=>bodyPost Tryz.prog Tryz.f43 (AZ IvV (fun x w'=>aB w' x.fst (-1)∧aB w' x.snd 1) w) Exit.ret _ W) B0.out rfl ?_;intro w10 T;replace HX:=Hi (T.ext HX.out zo);replace B0:=Hi (T.bx);replace HL:=Hi (HL.out.keep T.keep);replace HH:=Hi (HH.out.keep T.keep);clear T;replace b_B0:=bX3 B0;exact nXa (v:=IvV (⟨ln,la,ll,lc,lb,lm,ld⟩,⟨hn,ha,hl,hc,hb,hm,hd⟩)) (by simp [results,Tryz.results43,go_sem,b_B0.1]) rfl ⟨(⟨ln,la,ll,lc,lb,lm,ld⟩,⟨hn,ha,hl,hc,hb,hm,hd⟩),rfl,HX.out,HL.out,HH.out⟩
abbrev AlV(x:PH×RH×RH):Value:=.tuple #[x.1.v,x.2.1.v,x.2.2.v,.bool true]
def AlP(k n:Nat)(e r q:Rat)(x:PH×RH×RH)(w:World):Prop:=tY w x.1 (alG k n e r) (alE k n e q) (alP k n) (alD k n e r q)∧aB w x.2.1 e∧aB w x.2.2 r
open Sg
theorem CM{n:Nat}{e r q:Rat}(h1:1≤n)(h5:n≤5)(he:EdF e)(hr:0<r):Prf (alI 0) e r (alG 0 n e r) (alE 0 n e q) (alP 0 n) (alD 0 n e r q):=tU h1 h5 ⟨he.lo,he.hi⟩ hr
theorem FR{n:Nat}{e r q:Rat}(h1:1≤n)(h5:n≤5)(he:EdF e)(zr:Sz 1 r):AlZ (alG 0 n e r) (alE 0 n e q) (alD 0 n e r q) (alP 0 n):=by
 have Z1:Sz 3 ((1:Int):Rat):=(Sz.int dZ:Sz 1 ((1:Int):Rat)).mono dZ;have F1:FrB 115 [((1:Int):Rat)]:=iz.mono dZ;obtain ⟨a,b⟩:=FF h5 he zr;exact ⟨Z1,F1,show [((1:Int):Rat)].length≤3 by decide,a,b,Int.natCast_nonneg n,by show (n:Int)≤5;omega,by show 2*1+((n:Nat):Int).toNat≤7;omega⟩
set_option maxRecDepth 8000 in
theorem CL(z1 z2 z3 z4:Int)(w:World)(h1:-9223372036854775808≤z1)(k1:z1≤9223372036854775807)(h2:-9223372036854775808≤z2)(k2:z2≤9223372036854775807)(h3:-9223372036854775808≤z3)(k3:z3≤9223372036854775807)(h4:-9223372036854775808≤z4)(k4:z4≤9223372036854775807) :
  ak 40 [.int .i64 0,.int .i64 z1,.int .i64 z2,.int .i64 z3,.int .i64 z4] w AlV (AlP 0 (yU z1) (edQ z2) (riQ z3) (seQ z4)):=by
 have HX:=Hi (Ext.refl w);obtain ⟨m1,e1,l1⟩:=f7 z1 5 dZ;obtain ⟨m2,e2,l2⟩:=f7 z2 19 dZ;obtain ⟨m3,e3,l3⟩:=f7 z3 30 dZ;obtain ⟨m4,e4,l4⟩:=f7 z4 9 dZ;have C0:=Hi (lP 0 4 · dZ dZ dZ dZ);have C1:=Hi (lP z1 5 · h1 k1 dZ dZ);have C2:=Hi (lP z2 19 · h2 k2 dZ dZ);have C3:=Hi (lP z3 30 · h3 k3 dZ dZ);have C4:=Hi (lP z4 9 · h4 k4 dZ dZ);rw [show (0:Int) % 4=0 from rfl] at C0;rw [e1] at C1;rw [e2] at C2;rw [e3] at C3;rw [e4] at C4;obtain ⟨n1,n5,-⟩:=vw z1;have hnz:yU z1=1+m1:=by unfold yU;omega
 obtain ⟨n,hn⟩:∃ n,n=yU z1:=⟨_,rfl⟩;obtain ⟨e,he⟩:∃ e,e=edQ z2:=⟨_,rfl⟩;obtain ⟨r,hr⟩:∃ r,r=riQ z3:=⟨_,rfl⟩;obtain ⟨q,hq⟩:∃ q,q=seQ z4:=⟨_,rfl⟩;have EF:Hid (EdF e):=Hi (by rw [he];exact Er z2);have HR:Hid (0<r∧Sz 1 r):=Hi (by rw [hr];exact DJ z3);have HEE:Hid (e=(((m2:Int)-9:Int):Rat) / ((10:Int):Rat)):=Hi (by rw [he];unfold edQ;rw [e2]);have HRR:Hid (r=((1+(m3:Int):Int):Rat) / ((10:Int):Rat)):=Hi (by rw [hr];unfold riQ;rw [e3]);rw [←hn] at n1 n5 hnz;rw [←hn,←he,←hr,←hq];have HNZ:Hid ((1:Int)+(m1:Int)=(n:Int)):=Hi zo;have HWR:Hid (eo (n:Nat) e r=0):=Hi (xY n1 zo EF.out HR.out.1);clear e1 e2 e3 e4 hn he hr hq hnz h1 k1 h2 k2 h3 k3 h4 k4;unfold ak;go_enter Tryz.func40,Tryz.ntmps40
 go_upto_region 1 with fail
 refine pN ?_;intro w1 hE B10 B11 B12 hz_w1 hr_w1;replace HX:=hE.tr HX
 go_wp2_with fail
 refine cM (C1.out _) fun x20 w20 hE _=>?_
 refine mV4 hE ?_ B10 B11 B12 HX;clear B10 B11 B12 HX;intro B10 B11 B12 HX;have hs_w20:=hE.size
 go_wp2_with fail
 refine cM (C2.out _) fun x23 w23 hE _=>?_
 refine mV4 hE ?_ B10 B11 B12 HX;clear B10 B11 B12 HX;intro B10 B11 B12 HX;have hs_w23:=hE.size;rw [HNZ.out]
 go_wp2_with fail
 refine cM (iq ((m2:Int)-9) 10 _ zo zo dZ dZ) fun x25 w25 hE G25=>?_
 refine mV4 hE ?_ B10 B11 B12 HX;clear B10 B11 B12 HX;intro B10 B11 B12 HX;have hs_w25:=hE.size;rw [←HEE.out] at G25;have GE:=Hi G25.out;clear G25
 go_wp2_with fail
 refine cM (C3.out _) fun x27 w27 hE _=>?_
 refine mV5 hE ?_ B10 B11 B12 HX GE;clear B10 B11 B12 HX GE;intro B10 B11 B12 HX GE;have hs_w27:=hE.size
 go_wp2_with fail
 refine cM (iq (1+(m3:Int)) 10 _ zo zo dZ dZ) fun x29 w29 hE G29=>?_
 refine mV5 hE ?_ B10 B11 B12 HX GE;clear B10 B11 B12 HX GE;intro B10 B11 B12 HX GE;have hs_w29:=hE.size;rw [←HRR.out] at G29;have GR:=Hi G29.out;clear G29;obtain ⟨sn,sa,sl,sc,sb,sm,sd⟩:=x25;obtain ⟨tn,ta,tl,tc,tb,tm,td⟩:=x29
 go_upto_region 5 with fail
 refine pN ?_;intro w30 hE B15 B16 B17 hz_w30 hr_w30;refine mV6 hE ?_ B10 B11 B12 HX GE GR;clear B10 B11 B12 HX GE GR;intro B10 B11 B12 HX GE GR
 go_wp2_with fail
 refine cM (C0.out _) fun x31 w31 hE _=>?_
 refine mV8 hE ?_ B15 B16 B17 B10 B11 B12 HX GE;clear B15 B16 B17 B10 B11 B12 HX GE;intro B15 B16 B17 B10 B11 B12 HX GE;replace GR:=mV hE GR;replace b_B15:=bX3 B15;replace b_B16:=bX3 B16;have HS:Hid (aP w31 ⟨sn,sa,sl,sc,sb,sm,sd⟩ e):=Hi (GE.out.raw EF.out.z dZ);have HT:Hid (aP w31 ⟨tn,ta,tl,tc,tb,tm,td⟩ r):=Hi (GR.out.raw HR.out.2 dZ)
 go_wp2_with fail
 refine cM (lI (n:Nat) ⟨sn,sa,sl,sc,sb,sm,sd⟩ ⟨tn,ta,tl,tc,tb,tm,td⟩ e r 1 _ HS.out HT.out EF.out.z HR.out.2 dZ dZ) fun x52 w52 hE G52=>?_
 refine mV8 hE ?_ B15 B16 B17 B10 B11 B12 HX GE;clear B15 B16 B17 B10 B11 B12 HX GE;intro B15 B16 B17 B10 B11 B12 HX GE;replace GR:=mV hE GR;replace b_B17:=bX3 B17;rw [HWR.out,Int.toNat_natCast] at G52;obtain ⟨⟨⟨gn,ga,gl,gc,gb,gm,gd⟩,⟨ea,en,ec⟩,gp,⟨da,dn,dc⟩⟩,ge⟩:=x52;obtain ⟨he,-,hp⟩:=G52.out;simp only at he;subst he;obtain ⟨pg,pe,pp,pd⟩:=hp rfl;simp only at pg pe pp pd;have PG:=Hi pg;have PE':=Hi pe;have PP:=Hi pp;have PD:=Hi pd;clear pg pe pp pd hp G52;have A1:=Hi (PE'.out.apz B17.out);have A2:=Hi (PD.out.apz B17.out);have A3:=Hi (PE'.out.apz B10.out);have A4:=Hi (PD.out.apz B10.out);have A5:=Hi (PE'.out.apz3 B11.out);have A6:=Hi (PD.out.apz3 B11.out);have A7:=Hi (PE'.out.apz3 B12.out);have A8:=Hi (PD.out.apz3 B12.out);clear HS HT;simp only [PE]
 go_upto_region 13 with fail
 refine bL B17.out rfl ?_;intro w80 T;have P1:=Hi (PE'.out.puta A1.out T);have D1:=Hi (PD.out.puta A2.out T);clear PE' PD;replace HX:=Hi (T.ext HX.out zo);replace B10:=Hi (T.rest _ _ zo B10.out);replace B11:=Hi (T.rest _ _ zo B11.out);replace B12:=Hi (T.rest _ _ zo B12.out);replace GE:=Hi (GE.out.keep T.keep);replace GR:=Hi (GR.out.keep T.keep);replace B15:=Hi (T.rest _ _ zo B15.out);replace B16:=Hi (T.rest _ _ zo B16.out);replace B17:=Hi (T.bx);replace PG:=Hi (PG.out.keep T.keep);clear T;replace b_B10:=bX3 B10;replace b_B11:=bX3 B11;replace b_B12:=bX3 B12;replace b_B15:=bX3 B15;replace b_B16:=bX3 B16;replace b_B17:=bX3 B17
 go_region
 refine Fl B10.out rfl B11.out rfl B12.out rfl zo zo zo ?_;intro y2 y3 y4 y5 T2 T3 T4 hE5;have P2:=Hi (((((P1.out.puta A3.out T2).puta A5.out T3).puta A7.out T4)).ext hE5);have D2:=Hi (((((D1.out.puta A4.out T2).puta A6.out T3).puta A8.out T4)).ext hE5);have HX5:Hid (Ext w y5):=Hi ((T4.ext (T3.ext (T2.ext HX.out zo) zo) zo).trans hE5);have PG5:=Hi ((((PG.out.keep T2.keep).keep T3.keep).keep T4.keep).ext hE5);have GE5:=Hi ((((GE.out.keep T2.keep).keep T3.keep).keep T4.keep).ext hE5);have GR5:=Hi ((((GR.out.keep T2.keep).keep T3.keep).keep T4.keep).ext hE5);have Z10:=Hi (hE5.block (T4.rest _ _ zo (T3.rest _ _ zo T2.bx)));have Z11:=Hi (hE5.block (T4.rest _ _ zo T3.bx));have Z12:=Hi (hE5.block T4.bx);have c_Z10:=ab Z10.out;have c_Z11:=ab Z11.out;have c_Z12:=ab Z12.out;clear T2 T3 T4 hE5 b_B10 b_B11 b_B12 b_B15 b_B16 b_B17;go_wp2;exact nXa (v:=AlV (⟨⟨gn,ga,gl,gc,gb,gm,gd⟩,⟨ea,en,ec⟩,gp,⟨da,dn,dc⟩⟩,⟨sn,sa,sl,sc,sb,sm,sd⟩,⟨tn,ta,tl,tc,tb,tm,td⟩)) (by simp [results,Tryz.results40,go_sem,c_Z10,c_Z11,c_Z12]) rfl
  ⟨(⟨⟨gn,ga,gl,gc,gb,gm,gd⟩,⟨ea,en,ec⟩,gp,⟨da,dn,dc⟩⟩,⟨sn,sa,sl,sc,sb,sm,sd⟩,⟨tn,ta,tl,tc,tb,tm,td⟩),rfl,HX5.out,⟨PG5.out,P2.out,PP.out,D2.out⟩,GE5.out,GR5.out⟩
end Go.Proofs.YtafgmcimcbhhjaaGreat
