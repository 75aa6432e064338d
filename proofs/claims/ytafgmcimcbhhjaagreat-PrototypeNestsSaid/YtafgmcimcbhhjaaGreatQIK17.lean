/- Elliptic prototypes of order 2 and 4; slopes. Plain facts. -/
import Derived.Test.YtafgmcimcbhhjaaGreatQIK16
import Derived.Test.YtafgmcimcbhhjaaGreatQIK15
set_option linter.unusedVariables false
set_option maxHeartbeats 16000000
namespace Go.Proofs.YtafgmcimcbhhjaaGreat
open Go.RowKit Go.Front Go.Num Stab
def elA(t e:Rat):List Rat:=subV (scP (bE miQ 1) ((t+((1:Int):Rat))*aM e)) (bE plQ 1)
def elB(t e:Rat):List Rat:=bf (scP (bE miQ 1) ((t-((1:Int):Rat))*aM e)) (bE plQ 1)
def elW(s:Rat):Rat:=(((2:Int):Rat)*s) / (((1:Int):Rat)+s*s)
def elT(n:Nat)(s:Rat):Rat:=if n=4 then s*s else s
def elE(n:Nat)(e s:Rat):List Rat:=if n=4 then bf (scP (ar (elA (elT n s) e) (elA (elT n s) e)) (elW s-((1:Int):Rat))) (ar (elB (elT n s) e) (elB (elT n s) e)) else elB (elT n s) e
def elO(n:Nat)(e s:Rat):List Rat:=if n=4 then subV (scP (ar (elA (elT n s) e) (elA (elT n s) e)) (elW s+((1:Int):Rat))) (ar (elB (elT n s) e) (elB (elT n s) e)) else elA (elT n s) e
def elD(n:Nat)(e r s:Rat):List Rat:=bf (ar (elE n e s) (elE n e s)) (scP (ar (elO n e s) (elO n e s)) r)
end Go.Proofs.YtafgmcimcbhhjaaGreat
namespace Go.Proofs.YtafgmcimcbhhjaaGreat.Sg
open Go.RowKit Go.Front Go.Num Go.Stab Go.Proofs.YtafgmcimcbhhjaaGreat
theorem tB(p q:List Rat)(x:Rat):evV (Go.Proofs.YtafgmcimcbhhjaaGreat.subV p q) x=evV p x-evV q x:=yV p q x
theorem pG(l:List Rat)(x:Rat):evD (tz l) x=evD l x:=(IsD.ev (tz l)).uniq (by rw [show evV (tz l)=evV l from funext (m0 l)];exact IsD.ev l) x
theorem fQ(p q:List Rat)(x:Rat):evD (ar p q) x=evD p x*evV q x+evV p x*evD q x:=(IsD.ev (ar p q)).uniq (h:=fun x=>evD p x*evV q x+evV p x*evD q x) (by
 rw [show evV (ar p q)=fun x=>evV p x*evV q x from funext (aJ p q)];exact IsD.mul (IsD.ev p) (IsD.ev q) (Pf.ev p) (Pf.ev q) (Pf.der p)) x
theorem l6(p q:List Rat)(x:Rat):evD (bf p q) x=evD p x+evD q x:=by
 have h:∀ i,seq (derL (bf p q)) i=1*seq (derL p) i+seq (derL q) i:=fun i=>by rw [seq_derL,seq_derL,seq_derL,ey];grind
 have:=pF h x;rw [cf,cf,cf] at this;grind
theorem ov(p:List Rat)(c x:Rat):evD (p.map (·*c)) x=c*evD p x:=by
 have h:∀ i,seq (derL (p.map (·*c))) i=c*seq (derL p) i:=fun i=>by rw [seq_derL,seq_derL,aU];grind
 have:=fP h x;rw [cf,cf] at this;exact this
theorem nh(l:List Rat)(c x:Rat):evD (scP l c) x=c*evD l x:=by unfold scP;rw [pG,ov]
theorem pH(p q:List Rat)(x:Rat):evD (Go.Proofs.YtafgmcimcbhhjaaGreat.subV p q) x=evD p x-evD q x:=by
 have e:Go.Proofs.YtafgmcimcbhhjaaGreat.subV p q=bf p (q.map (·*-1)):=by
  unfold Go.Proofs.YtafgmcimcbhhjaaGreat.subV
  congr 1
  exact List.map_congr_left fun y _=>by grind
 rw [e,l6,ov];grind
theorem xx(x:Rat):evD plQ x=1:=by show (0*x+0)*x+(0*x+((1:Int):Rat))=1;have:((1:Int):Rat)=1:=rfl;grind
theorem xy(x:Rat):evD miQ x=-1:=by show (0*x+0)*x+(0*x+((-1:Int):Rat))=-1;have:((-1:Int):Rat)=-1:=rfl;grind
theorem l0(p:List Rat)(k:Nat)(x:Rat):evD (bE p (k+1)) x=((k+1:Nat):Rat)*evV p x ^ k*evD p x:=by
 induction k with
 | zero =>
  show evD (ar [((1:Int):Rat)] p) x=_;rw [fQ,AM,xZ];show (0*x+0)*_+_=_;have:((0+1:Nat):Rat)=1:=rfl;rw [this];grind
 | succ k ih =>
  show evD (ar (bE p (k+1)) p) x=_;rw [fQ,ih,iX,Rat.pow_succ,Rat.natCast_add (k+1) 1];have:((1:Nat):Rat)=1:=rfl;rw [this];grind
theorem pI{n:Nat}{s:Rat}(h0:0<s)(h1:s<1):0<elT n s∧elT n s<1:=by
 unfold elT;split
 ·exact ⟨gH h0 h0,by have:=mul_lt h1 h0;grind⟩
 ·exact ⟨h0,h1⟩
theorem ni{s:Rat}(h0:0<s):0<elW s∧elW s*(1+s*s)=2*s:=by
 have e1:((1:Int):Rat)=1:=rfl;have e2:((2:Int):Rat)=2:=rfl;have h2:=gH h0 h0;unfold elW;rw [e1,e2];exact ⟨q9 (by grind) (by grind),aE (by grind)⟩
theorem AR{s:Rat}(h0:0<s):elW s≤1:=by
 obtain ⟨h1,h2⟩:=ni h0;refine Classical.byContradiction fun hn=>?_
 have h3:=mul_lt (show 1<elW s by grind) (show 0<1+s*s by have:=gH h0 h0;grind);have h4:=qp (s-1);grind
theorem kR(t e x:Rat):evV (elA t e) x=(t+1)*(aM e*(1-x))-(1+x):=by
 unfold elA;rw [tB,m7,iX,iX,xv,xu,By,By];have:((1:Int):Rat)=1:=rfl;rw [this];grind
theorem nd(t e x:Rat):evV (elB t e) x=(t-1)*(aM e*(1-x))+(1+x):=by
 unfold elB;rw [ev_add5,m7,iX,iX,xv,xu,By,By];have:((1:Int):Rat)=1:=rfl;rw [this];grind
theorem tF(t e x:Rat):evD (elA t e) x=-((t+1)*aM e)-1:=by
 unfold elA;rw [pH,nh,l0,l0,xy,xx,xZ,xZ];have:((1:Int):Rat)=1:=rfl;have e2:((0+1:Nat):Rat)=1:=rfl;rw [this,e2];grind
theorem tE(t e x:Rat):evD (elB t e) x=-((t-1)*aM e)+1:=by
 unfold elB;rw [l6,nh,l0,l0,xy,xx,xZ,xZ];have:((1:Int):Rat)=1:=rfl;have e2:((0+1:Nat):Rat)=1:=rfl;rw [this,e2];grind
theorem tD{n:Nat}(hn:n=2∨n=4)(e s x:Rat):evV (elE n e s) x=if n=4 then (elW s-1)*(evV (elA (elT n s) e) x*evV (elA (elT n s) e) x)+evV (elB (elT n s) e) x*evV (elB (elT n s) e) x else evV (elB (elT n s) e) x:=by
 have:((1:Int):Rat)=1:=rfl;unfold elE;rcases hn with rfl|rfl
 ·rfl
 ·rw [if_pos rfl,if_pos rfl,ev_add5,m7,aJ,aJ,this]
theorem tC{n:Nat}(hn:n=2∨n=4)(e s x:Rat):evV (elO n e s) x=if n=4 then (elW s+1)*(evV (elA (elT n s) e) x*evV (elA (elT n s) e) x)-evV (elB (elT n s) e) x*evV (elB (elT n s) e) x else evV (elA (elT n s) e) x:=by
 have:((1:Int):Rat)=1:=rfl;unfold elO;rcases hn with rfl|rfl
 ·rfl
 ·rw [if_pos rfl,if_pos rfl,tB,m7,aJ,aJ,this]
theorem m9(n:Nat)(e r s x:Rat):evV (elD n e r s) x=evV (elE n e s) x*evV (elE n e s) x+r*(evV (elO n e s) x*evV (elO n e s) x):=by
 unfold elD;rw [ev_add5,m7,aJ,aJ]
theorem elAB_len(t e:Rat):(elA t e).length≤2∧(elB t e).length≤2:=by
 have h1:=cN (bE miQ 1) ((t+((1:Int):Rat))*aM e) (i9 1);have h2:=cN (bE miQ 1) ((t-((1:Int):Rat))*aM e) (i9 1);exact ⟨Go.Proofs.YtafgmcimcbhhjaaGreat.sub_len h1 (i8 1),fg h2 (i8 1)⟩
theorem elEO_len{n:Nat}(e s:Rat):(elE n e s).length≤3∧(elO n e s).length≤3:=by
 obtain ⟨h1,h2⟩:=elAB_len (elT n s) e;have h3:(ar (elA (elT n s) e) (elA (elT n s) e)).length≤3:=aS h1 h1;have h4:(ar (elB (elT n s) e) (elB (elT n s) e)).length≤3:=aS h2 h2;constructor
 ·unfold elE;split
  ·exact fg (cN _ _ h3) h4
  ·omega
 ·unfold elO;split
  ·exact Go.Proofs.YtafgmcimcbhhjaaGreat.sub_len (cN _ _ h3) h4
  ·omega
theorem elD_len{n:Nat}(e r s:Rat):(elD n e r s).length≤5:=by
 obtain ⟨h1,h2⟩:=elEO_len (n:=n) e s;have h3:(ar (elE n e s) (elE n e s)).length≤5:=aS h1 h1;have h4:(ar (elO n e s) (elO n e s)).length≤5:=aS h2 h2;exact fg h3 (cN _ _ h4)
theorem tH{n:Nat}(hn:n=2∨n=4)(e s x:Rat):evV (elE n e s) x-evV (elO n e s) x=(if n=4 then 8*elT n s*(aM e*(1-x)) else 2)*((1+x)-aM e*(1-x)) ∧
  evV (elE n e s) x+evV (elO n e s) x=if n=4 then 2*elW s*(evV (elA (elT n s) e) x*evV (elA (elT n s) e) x) else 2*elT n s*(aM e*(1-x)):=by
 rw [tD hn,tC hn];rcases hn with rfl|rfl
 ·rw [if_neg (by decide),if_neg (by decide),if_neg (by decide),if_neg (by decide),kR,nd];exact ⟨by grind,by grind⟩
 ·rw [if_pos rfl,if_pos rfl,if_pos rfl,if_pos rfl,kR,nd];exact ⟨by grind,by grind⟩
theorem ow{n:Nat}(hn:n=2∨n=4){e0 s:Rat}(he:-1<e0∧e0<1)(h0:0<s)(h1:s<1):evV (elE n e0 s) e0=evV (elO n e0 s) e0∧evV (elE n e0 s) e0=(if n=4 then elW s*(elT n s*(1+e0)*(elT n s*(1+e0))) else elT n s*(1+e0))∧0<evV (elE n e0 s) e0:=by
 obtain ⟨hc,hce⟩:=je he.1 he.2;obtain ⟨t0,t1⟩:=pI (n:=n) h0 h1;obtain ⟨w0,-⟩:=ni h0;obtain ⟨d1,d2⟩:=tH hn e0 s e0;rw [hce] at d1;have e1:evV (elE n e0 s) e0=evV (elO n e0 s) e0:=by grind
 have hA:evV (elA (elT n s) e0) e0=elT n s*(1+e0):=by rw [kR,hce];grind
 have e2:evV (elE n e0 s) e0=(if n=4 then elW s*(elT n s*(1+e0)*(elT n s*(1+e0))) else elT n s*(1+e0)):=by
  rw [hA,hce] at d2;rcases hn with rfl|rfl
  ·rw [if_neg (by decide)] at d2 ⊢;grind
  ·rw [if_pos rfl] at d2 ⊢;grind
 refine ⟨e1,e2,?_⟩;have hz:=gH t0 (show 0<1+e0 by grind);rw [e2];split
 ·exact gH w0 (gH hz hz)
 ·exact hz
theorem BY{n:Nat}(hn:n=2∨n=4){e0 s:Rat}(he:-1<e0∧e0<1)(h0:0<s)(h1:s<1):Cp (evV (elE n e0 s)) (evV (elO n e0 s)):=by
 obtain ⟨hc,hce⟩:=je he.1 he.2;obtain ⟨t0,t1⟩:=pI (n:=n) h0 h1;obtain ⟨w0,-⟩:=ni h0;have hc0:aM e0≠0:=fun h=>by rw [h] at hc;exact absurd hc Rat.lt_irrefl
 have ht:=aE (a:=1) (b:=2*elT n s) (by grind);have hAB:Cp (evV (elA (elT n s) e0)) (evV (elB (elT n s) e0)):=(xV hc0).change (p:=(elT n s+1)*(1 / (2*elT n s))-1) (q:=(elT n s+1)*(1 / (2*elT n s))) (r:=1 / (2*elT n s)) (s:=1 / (2*elT n s))
  (fun x=>by rw [kR,nd];generalize 1 / (2*elT n s)=k at *;generalize aM e0*(1-x)=u;grind)
  (fun x=>by rw [kR,nd];generalize 1 / (2*elT n s)=k at *;generalize aM e0*(1-x)=u;grind)
 rcases hn with rfl|rfl
 ·rw [show evV (elE 2 e0 s)=evV (elB (elT 2 s) e0) from rfl,show evV (elO 2 e0 s)=evV (elA (elT 2 s) e0) from rfl];exact Cp.symm hAB
 ·have pA:=Pf.ev (elA (elT 4 s) e0);have pB:=Pf.ev (elB (elT 4 s) e0);have h2:=Cp.symm ((Cp.symm (hAB.mulr hAB pA pB pB)).mulr (Cp.symm (hAB.mulr hAB pA pB pB)) (pB.mul pB) pA pA);have hw:=aE (a:=1) (b:=2*elW s) (by grind);refine h2.change (p:=1 / (2*elW s)) (q:=1 / (2*elW s)) (r:=1-(elW s-1)*(1 / (2*elW s))) (s:=-((elW s-1)*(1 / (2*elW s)))) (fun x=>?_) (fun x=>?_)
  ·rw [tD (Or.inr rfl),tC (Or.inr rfl),if_pos rfl,if_pos rfl];generalize 1 / (2*elW s)=k at *
   generalize evV (elA (elT 4 s) e0) x*evV (elA (elT 4 s) e0) x=u;generalize evV (elB (elT 4 s) e0) x*evV (elB (elT 4 s) e0) x=v;grind
  ·rw [tD (Or.inr rfl),tC (Or.inr rfl),if_pos rfl,if_pos rfl];generalize 1 / (2*elW s)=k at *
   generalize evV (elA (elT 4 s) e0) x*evV (elA (elT 4 s) e0) x=u;generalize evV (elB (elT 4 s) e0) x*evV (elB (elT 4 s) e0) x=v;grind
theorem tG{n:Nat}(hn:n=2∨n=4){e0 r s:Rat}(he:-1<e0∧e0<1)(hr:0<r)(h0:0<s)(h1:s<1):Prf false e0 r ((1:Int):Rat) (elE n e0 s) 0 (elD n e0 r s):=by
 obtain ⟨hc,hce⟩:=je he.1 he.2;obtain ⟨t0,t1⟩:=pI (n:=n) h0 h1;obtain ⟨w0,-⟩:=ni h0;obtain ⟨k1,k2,k3⟩:=ow hn he h0 h1;have hcp:=BY hn he h0 h1;have pE:=Pf.ev (elE n e0 s);have pO:=Pf.ev (elO n e0 s);have hEO:=(hcp.mulr hcp pE pO pO).smulr (k:=r) (by grind);have hEO2:=Cp.symm ((Cp.symm hEO).mulr (Cp.symm hEO) ((pO.mul pO).smul r) pE pE);obtain ⟨k,hk,hl⟩:=xR hEO2 (fun x _ _=>qp _) (fun x _ _=>mi (Rat.le_of_lt hr) (qp _));have hl2:∀ x,-1≤x→x≤1→k≤evV (elD n e0 r s) x:=fun x h2 h3=>by rw [m9];exact hl x h2 h3
 have hA:∀ x,((1:Int):Rat)*(evV (elE n e0 s) x*evV (elE n e0 s) x*(1+x) ^ (0:Int).toNat)=evV (elE n e0 s) x*evV (elE n e0 s) x:=fun x=>by
  rw [show (0:Int).toNat=0 from rfl,xZ];have:((1:Int):Rat)=1:=rfl;grind
 obtain ⟨l1,l2⟩:=elEO_len (n:=n) e0 s;refine ⟨z8 (by decide) (by decide) (by decide) (fun h=>?_) (nXe (ai _) (by omega)) (nXe (ai _) (by have:=elD_len (n:=n) e0 r s;omega)) hk hl2,⟨k,hk,hl2⟩,fun x h2 h3=>?_,fun x h2 h3=>?_,?_,fun _ x h2 h3=>?_,fun h=>absurd h (by decide)⟩
 ·rw [ev_tznil.1 h e0] at k3;exact absurd k3 Rat.lt_irrefl
 ·rw [hA];exact qp _
 ·rw [hA,m9];have:=mi (Rat.le_of_lt hr) (qp (evV (elO n e0 s) x));grind
 ·rw [hA,m9,←k1,if_neg (by decide)];grind
 ·rw [hA,m9];obtain ⟨d1,d2⟩:=tH hn e0 s x;have hu:0≤aM e0*(1-x):=mi (Rat.le_of_lt hc) (by grind);have hz:=BV hc hce h2;have a1:0≤evV (elE n e0 s) x-evV (elO n e0 s) x:=by
   rw [d1];refine mi ?_ (by grind);split
   ·exact mi (by grind) hu
   ·decide
  have a2:0≤evV (elE n e0 s) x+evV (elO n e0 s) x:=by
   rw [d2];split
   ·exact mi (by grind) (qp _)
   ·exact mi (by grind) hu
  have a3:=mi (Rat.le_of_lt hr) (mi a1 a2);grind
def slV(p q:List Rat)(x:Rat):Rat:=(evD p x*evV q x-evV p x*evD q x) / (evV q x*evV q x)
def nuP(g:Rat)(e:List Rat)(p:Int):List Rat:=tz ((ar (ar e e) (bE plQ p.toNat)).map (·*g))
theorem BI{e0 r s:Rat}(he:-1<e0∧e0<1)(hr:0<r)(h0:0<s)(h1:s<1) :
  slV (nuP ((1:Int):Rat) (elE 2 e0 (s*s)) 0) (tz (elD 2 e0 r (s*s))) e0<slV (nuP ((1:Int):Rat) (elE 4 e0 s) 0) (tz (elD 4 e0 r s)) e0:=by
 obtain ⟨hc,hce⟩:=je he.1 he.2;obtain ⟨w0,-⟩:=ni h0;have w1:=AR h0;have hs0:=gH h0 h0;have hs1:s*s<1:=by have:=mul_lt h1 h0;grind
 have one:((1:Int):Rat)=1:=rfl;have key:∀ (n:Nat) (q:Rat),evV (elE n e0 q) e0=evV (elO n e0 q) e0→0<evV (elE n e0 q) e0→slV (nuP ((1:Int):Rat) (elE n e0 q) 0) (tz (elD n e0 r q)) e0=2*r*(evD (elE n e0 q) e0-evD (elO n e0 q) e0) / (evV (elE n e0 q) e0*((1+r)*(1+r))):=fun n q k1 k2=>by
  unfold slV nuP;rw [pG,pG,m0,m0,bJ,ov,aJ,fQ,m9,iX,aJ,fQ];unfold elD;rw [l6,fQ,nh,fQ,←k1,show (0:Int).toNat=0 from rfl,xZ,one];have hp:evD (bE plQ 0) e0=0:=by show 0*e0+0=(0:Rat);grind
  rw [hp];generalize evV (elE n e0 q) e0=E at *
  generalize evD (elE n e0 q) e0=E';generalize evD (elO n e0 q) e0=O';have hE3:=gH (gH k2 k2) k2;have hden:(0:Rat)<(E*E+r*(E*E))*(E*E+r*(E*E)):=by
   have a:=gH k2 k2;have b:=gH hr a;exact gH (by grind) (by grind)
  have hd2:(0:Rat)<E*((1+r)*(1+r)):=gH k2 (gH (by grind) (by grind));have x1:=aE (a:=1*((E'*E+E*E')*1+E*E*0)*(E*E+r*(E*E))-1*(E*E*1)*(E'*E+E*E'+r*(O'*E+E*O'))) (b:=(E*E+r*(E*E))*(E*E+r*(E*E))) (by grind);have x2:=aE (a:=2*r*(E' - O')) (b:=E*((1+r)*(1+r))) (by grind);generalize (1*((E'*E+E*E')*1+E*E*0)*(E*E+r*(E*E))-1*(E*E*1)*(E'*E+E*E'+r*(O'*E+E*O'))) / ((E*E+r*(E*E))*(E*E+r*(E*E)))=X at *
  generalize 2*r*(E' - O') / (E*((1+r)*(1+r)))=Y at *
  have x3:(X-Y)*((E*E+r*(E*E))*(E*E+r*(E*E)))=0:=by
   have e1:Y*((E*E+r*(E*E))*(E*E+r*(E*E)))=(Y*(E*((1+r)*(1+r))))*(E*E*E):=by grind
   have e2:(X-Y)*((E*E+r*(E*E))*(E*E+r*(E*E)))=X*((E*E+r*(E*E))*(E*E+r*(E*E)))-Y*((E*E+r*(E*E))*(E*E+r*(E*E))):=by grind
   rw [e2,x1,e1,x2];grind
  rcases nXq.1 x3 with x4|x4
  ·grind
  ·rw [x4] at hden;exact absurd hden Rat.lt_irrefl
 obtain ⟨a1,a2,a3⟩:=ow (Or.inl rfl) he hs0 hs1;obtain ⟨b1,b2,b3⟩:=ow (Or.inr rfl) he h0 h1;rw [key 2 (s*s) a1 a3,key 4 s b1 b3];have tt:elT 2 (s*s)=elT 4 s:=rfl;obtain ⟨t0,t1⟩:=pI (n:=4) h0 h1;have hz:0<1+e0:=by grind
 have d2:evD (elE 2 e0 (s*s)) e0-evD (elO 2 e0 (s*s)) e0=2*(1+aM e0):=by
  rw [show elE 2 e0 (s*s)=elB (elT 2 (s*s)) e0 from rfl,show elO 2 e0 (s*s)=elA (elT 2 (s*s)) e0 from rfl,tF,tE];grind
 have d4:evD (elE 4 e0 s) e0-evD (elO 4 e0 s) e0=8*elT 4 s*(1+e0)*(1+aM e0):=by
  have hA:evV (elA (elT 4 s) e0) e0=elT 4 s*(1+e0):=by rw [kR,hce];grind
  have hB:evV (elB (elT 4 s) e0) e0=elT 4 s*(1+e0):=by rw [nd,hce];grind
  unfold elE elO;rw [if_pos rfl,if_pos rfl,l6,pH,nh,nh,fQ,fQ,tF,tE,hA,hB,one];generalize elT 4 s=t;generalize elW s=w;generalize aM e0=c;grind
 rw [if_neg (by decide),tt] at a2;rw [if_pos rfl] at b2;rw [d2,d4,a2,b2];generalize elT 4 s=t at *
 generalize elW s=w at *
 generalize aM e0=c at *
 generalize hzz:1+e0=z at *
 have hk:0<(1+r)*(1+r):=gH (by grind) (by grind);generalize (1+r)*(1+r)=q at *
 have htz:=gH t0 hz;have hp1:0<t*z*q:=gH htz hk;have hp2:0<w*(t*z*(t*z))*q:=gH (gH w0 (gH htz htz)) hk;have y1:=aE (a:=2*r*(2*(1+c))) (b:=t*z*q) (by grind);have y2:=aE (a:=2*r*(8*t*z*(1+c))) (b:=w*(t*z*(t*z))*q) (by grind);generalize 2*r*(2*(1+c)) / (t*z*q)=X at *
 generalize 2*r*(8*t*z*(1+c)) / (w*(t*z*(t*z))*q)=Y at *
 refine Classical.byContradiction fun hn=>?_
 have y3:=fi (show Y≤X by grind) (Rat.le_of_lt hp2);have e1:X*(w*(t*z*(t*z))*q)=w*(t*z)*(X*(t*z*q)):=by grind
 rw [y2,e1,y1] at y3;have hrc:=gH hr (show 0<1+c by grind);have y4:=gH htz hrc;have y5:=fi w1 (Rat.le_of_lt y4);grind
end Go.Proofs.YtafgmcimcbhhjaaGreat.Sg
/- Sizes of the elliptic prototypes. Plain facts. -/
namespace Go.Proofs.YtafgmcimcbhhjaaGreat
open Go.RowKit Go.Front Go.Num Stab
theorem FrB.scP{S T:Nat}{l:List Rat}{c:Rat}(h:FrB S l)(hc:Sz T c)(hT:1≤T):FrB (S+T) (scP l c):=by
 obtain ⟨h0,D,h1,h2,h3⟩:=h;have hf:FrL (S+T) (D*c.den) (l.map (·*c)):=fun x hx=>by
  obtain ⟨y,hy,rfl⟩:=nYd.1 hx;exact (h3 y hy).mul (tw hc)
 refine ⟨by omega,D*c.den,Nat.mul_pos h1 c.den_pos,?_,FrL.tz hf⟩;rw [Nat.pow_add];exact Nat.mul_lt_mul'' h2 hc.2
theorem FrB.subV{S U:Nat}{p q:List Rat}(hp:FrB S p)(hq:FrB U q):FrB (S+U+1) (subV p q):=hp.add hq.neg
structure ElZ (n:Nat) (e r s:Rat) (K:Nat):Prop where
 zT:Sz (2*K) (elT n s)
 zC:Sz (2*K+6) (aM e)
 z1:Sz (2*K+2) (elT n s+((1:Int):Rat))
 z2:Sz (2*K+2) (elT n s-((1:Int):Rat))
 c1:Sz (4*K+8) ((elT n s+((1:Int):Rat))*aM e)
 c2:Sz (4*K+8) ((elT n s-((1:Int):Rat))*aM e)
 f1:FrB (4*K+13) (scP (bE miQ 1) ((elT n s+((1:Int):Rat))*aM e))
 f2:FrB (4*K+13) (scP (bE miQ 1) ((elT n s-((1:Int):Rat))*aM e))
 fA:FrB (4*K+19) (elA (elT n s) e)
 fB:FrB (4*K+19) (elB (elT n s) e)
 zw:Sz (3*K+4) (elW s)
 zw1:Sz (3*K+6) (elW s+((1:Int):Rat))
 zw2:Sz (3*K+6) (elW s-((1:Int):Rat))
 fAA:FrB (8*K+39) (ar (elA (elT n s) e) (elA (elT n s) e))
 fBB:FrB (8*K+39) (ar (elB (elT n s) e) (elB (elT n s) e))
 fE:FrB (19*K+85) (elE n e s)
 fO:FrB (19*K+85) (elO n e s)
 fEE:FrB (38*K+171) (ar (elE n e s) (elE n e s))
 fOO:FrB (38*K+171) (ar (elO n e s) (elO n e s))
 fR:FrB (39*K+171) (scP (ar (elO n e s) (elO n e s)) r)
 fD:FrB (77*K+343) (elD n e r s)
theorem nT:FrB 5 (bE plQ 1):=(cL (eV 1 (by decide)) (by decide) 1 (by omega)).mono (by decide)
theorem n8:FrB 5 (bE miQ 1):=(cL (eV (-1) (by decide)) (by decide) 1 (by omega)).mono (by decide)
theorem BS{n:Nat}{e r s:Rat}{K:Nat}(hn:n=2∨n=4)(ze:Sz K e)(zr:Sz K r)(zs:Sz K s)(hK:1≤K):ElZ n e r s K:=by
 have Z1:Sz 1 ((1:Int):Rat):=Sz.int (by decide);have Z2:Sz 1 ((2:Int):Rat):=Sz.int (by decide);have zT:Sz (2*K) (elT n s):=by
  unfold elT;split
  ·exact (zs.mul zs).mono (by omega)
  ·exact zs.mono (by omega)
 have zC:Sz (2*K+6) (aM e):=gU ze hK;have z1:Sz (2*K+2) (elT n s+((1:Int):Rat)):=(zT.add Z1).mono (by omega);have z2:Sz (2*K+2) (elT n s-((1:Int):Rat)):=(zT.sub Z1).mono (by omega);have c1:Sz (4*K+8) ((elT n s+((1:Int):Rat))*aM e):=(z1.mul zC).mono (by omega);have c2:Sz (4*K+8) ((elT n s-((1:Int):Rat))*aM e):=(z2.mul zC).mono (by omega);have f1:FrB (4*K+13) (scP (bE miQ 1) ((elT n s+((1:Int):Rat))*aM e)):=(n8.scP c1 (by omega)).mono (by omega);have f2:FrB (4*K+13) (scP (bE miQ 1) ((elT n s-((1:Int):Rat))*aM e)):=(n8.scP c2 (by omega)).mono (by omega);have fA:FrB (4*K+19) (elA (elT n s) e):=(f1.subV nT).mono (by omega);have fB:FrB (4*K+19) (elB (elT n s) e):=(f2.add nT).mono (by omega);have zw:Sz (3*K+4) (elW s):=((Z2.mul zs).div (Z1.add (zs.mul zs))).mono (by omega);have zw1:Sz (3*K+6) (elW s+((1:Int):Rat)):=(zw.add Z1).mono (by omega);have zw2:Sz (3*K+6) (elW s-((1:Int):Rat)):=(zw.sub Z1).mono (by omega);obtain ⟨lA,lB⟩:=Sg.elAB_len (elT n s) e;have fAA:FrB (8*K+39) (ar (elA (elT n s) e) (elA (elT n s) e)):=(fA.mul fA (by omega)).mono (by omega);have fBB:FrB (8*K+39) (ar (elB (elT n s) e) (elB (elT n s) e)):=(fB.mul fB (by omega)).mono (by omega);have fE:FrB (19*K+85) (elE n e s):=by
  unfold elE;split
  ·exact ((fAA.scP zw2 (by omega)).add fBB).mono (by omega)
  ·exact fB.mono (by omega)
 have fO:FrB (19*K+85) (elO n e s):=by
  unfold elO;split
  ·exact ((fAA.scP zw1 (by omega)).subV fBB).mono (by omega)
  ·exact fA.mono (by omega)
 obtain ⟨lE,lO⟩:=Sg.elEO_len (n:=n) e s;have fEE:FrB (38*K+171) (ar (elE n e s) (elE n e s)):=(fE.mul fE (by omega)).mono (by omega);have fOO:FrB (38*K+171) (ar (elO n e s) (elO n e s)):=(fO.mul fO (by omega)).mono (by omega);have fR:FrB (39*K+171) (scP (ar (elO n e s) (elO n e s)) r):=(fOO.scP zr hK).mono (by omega);exact ⟨zT,zC,z1,z2,c1,c2,f1,f2,fA,fB,zw,zw1,zw2,fAA,fBB,fE,fO,fEE,fOO,fR,(fEE.add fR).mono (by omega)⟩
end Go.Proofs.YtafgmcimcbhhjaaGreat
/- The reference 17: linear, one, power, Valid, Ratio, SameRatio, Same. -/
namespace Go.Proofs.YtafgmcimcbhhjaaGreat
open Go.RowKit Go.Front Go.Num Stab
attribute [local go_sem] XW.cell XW.frozen
set_option maxRecDepth 8000 in
theorem mD(x y:PH)(q:Rat)(u d:List Rat)(p:Int)(w:World)(hx:rh w x q u p d)(hy:rh w y q u p d):aq 108 [x.v,y.v] w (fun _:Unit=>.bool true) (fun _ _=>True):=by
 obtain ⟨⟨xn,xa,xl,xc,xb,xm,xd⟩,⟨xea,xen,xec⟩,xp,⟨xda,xdn,xdc⟩⟩:=x;obtain ⟨⟨yn,ya,yl,yc,yb,ym,yd⟩,⟨yea,yen,yec⟩,yp,⟨yda,ydn,ydc⟩⟩:=y;have HX:=Hi (Ext.refl w);have G1:=Hi hx.1;have G2:=Hi hy.1;have L1:=Hi hx.2.1;have L2:=Hi hx.2.2.2;have L3:=Hi hy.2.1;have L4:=Hi hy.2.2.2;have e1:=hx.2.2.1;have e2:=hy.2.2.1;simp only at G1 G2 L1 L2 L3 L4 e1 e2;subst e1;subst e2;clear hx hy;unfold aq;go_enter Tryz.func108,Tryz.ntmps108
 go_upto_region 1 with fail
 refine iU ?_;intro w1 hE B2 B3 hz_w1 hr_w1;refine mV7 hE ?_ HX G1 G2 L1 L2 L3 L4;clear HX G1 G2 L1 L2 L3 L4;intro HX G1 G2 L1 L2 L3 L4;have hs_w1:=hE.size;clear hE;replace b_B2:=bX3 B2;replace b_B3:=bX3 B3
 go_wp2_with fail
 refine cM ((by have h:=kE ⟨xn,xa,xl,xc,xb,xm,xd⟩ ⟨yn,ya,yl,yc,yb,ym,yd⟩ _ _ _ G1.out G2.out;rw [decide_eq_true rfl] at h;exact h)) fun x2 w2 hE _=>?_
 refine mV8 hE ?_ B2 B3 HX G1 G2 L1 L2 L3;clear B2 B3 HX G1 G2 L1 L2 L3;intro B2 B3 HX G1 G2 L1 L2 L3;replace L4:=mV hE L4;have hs_w2:=hE.size;clear hE;replace b_B2:=bX3 B2;replace b_B3:=bX3 B3
 go_wp2_with fail
 refine cM ((by have h:=fS ⟨xea,xen,xec⟩ ⟨yea,yen,yec⟩ u u _ L1.out L3.out;rw [decide_eq_true rfl] at h;exact h)) fun x3 w3 hE _=>?_
 refine mV8 hE ?_ B2 B3 HX G1 G2 L1 L2 L3;clear B2 B3 HX G1 G2 L1 L2 L3;intro B2 B3 HX G1 G2 L1 L2 L3;replace L4:=mV hE L4;have hs_w3:=hE.size;clear hE;replace b_B2:=bX3 B2;replace b_B3:=bX3 B3
 go_wp2_with fail
 refine cM ((by have h:=fS ⟨xda,xdn,xdc⟩ ⟨yda,ydn,ydc⟩ d d _ L2.out L4.out;rw [decide_eq_true rfl] at h;exact h)) fun x4 w4 hE _=>?_
 refine mV8 hE ?_ B2 B3 HX G1 G2 L1 L2 L3;clear B2 B3 HX G1 G2 L1 L2 L3;intro B2 B3 HX G1 G2 L1 L2 L3;replace L4:=mV hE L4;have hs_w4:=hE.size;clear hE;replace b_B2:=bX3 B2;replace b_B3:=bX3 B3;go_wp2
 go_ret
 exact ⟨(),rfl,HX.out,trivial⟩
set_option maxRecDepth 100000
def z0:Rat:=((0:Int):Rat)
def o1:Rat:=((1:Int):Rat)
def t2:List Rat:=[((2:Int):Rat)]
theorem zH:dm 1 z0 o1=0:=by decide +kernel
theorem Cd:buD 1 z0 o1=t2:=by decide +kernel
theorem Cc:chD 1 z0 o1=t2:=by decide +kernel
theorem zI:inQ 1 z0 o1=o1∧inE 1 z0=[o1]∧inD 1 z0 o1=t2:=by decide +kernel
theorem Cb:cW o1 [o1] 1 t2=true:=by decide +kernel
theorem Ad:SzL 1 t2:=fun x hx=>by rw [nXt.1 hx];exact Sz.int (z:=2) (by decide)
theorem Ae:FrB 3 t2:=FrB.of (k:=1) (n:=1) Ad (by decide)
theorem xj{K S n:Nat}{d:List Rat}(h:FrB S d)(hl:d.length≤n)(hn:n≤1000)(hK:KN K S n):FrK K d∧FrK K (Sg.sqfV d):=by
 obtain ⟨h0,D,h1,h2,h3⟩:=h;refine ⟨v7 h0 h1 h2 h3 hl hK,?_⟩;by_cases hz:tz d=[]
 ·have e:Sg.sqfV d=[]:=by
   rw [←wO,hz];decide +kernel
  rw [e];exact ⟨1,1,nXd _,by decide,by decide,fun x hx=>by simp at hx,(hK.self (Nat.zero_le _):KZ K S 0).imp (fun h=>nXe (nXg _ (by omega)) h) (fun h=>nXe (by simp;omega) h)⟩
 ·exact yS h1 h3 hz hl hn hK
theorem BU{K S n:Nat}{d:List Rat}(h:FrB S d)(hl:d.length≤n)(hn:n≤1000)(hK:KN K S n)(h1:K≤3900000)(h2:(d.length+1)*(K / 3)≤25000000):DnK K d.length d:=⟨(xj h hl hn hK).1,(xj h hl hn hK).2,h1,h2⟩
def zR(x:PH×Int)(_:World):Prop:=x.2=12∧x.1=PH0
theorem zR.ext{x:PH×Int}{w w':World}(h:zR x w)(_:Ext w w'):zR x w':=h
instance {x:PH×Int} {w w':World}:Go.Front.Mv w w' (zR x w) (zR x w'):=⟨fun e h=>zR.ext h e⟩

theorem oD(w:World):aq 45 [] w (fun _:Unit=>.bool true) (fun _ _=>True):=by
 have HX:=Hi (Ext.refl w);have Z0:Hid (Sz 1 z0):=Hi (Sz.int (z:=0) (by decide));have Z1:Hid (Sz 1 o1):=Hi (Sz.int (z:=1) (by decide));have Zh:Hid (Sz 1 (((1:Int):Rat) / ((2:Int):Rat))):=Hi jp;unfold aq;go_enter Tryz.func45,Tryz.ntmps45
 go_wp2_with fail
 refine cM (fZ 0 _ (by decide) (by decide)) fun x1 w1 hE G1=>?_
 replace HX:=hE.tr HX;have hs_w1:=hE.size;clear hE
 go_wp2_with fail
 refine cM (fZ 1 _ (by decide) (by decide)) fun x2 w2 hE G2=>?_
 refine mV2 hE ?_ G1 HX;clear G1 HX;intro G1 HX;have hs_w2:=hE.size;clear hE
 go_upto_region 2 with fail
 refine iU ?_;intro w3 hE B1 B2 hz_w3 hr_w3;refine mV3 hE ?_ G2 G1 HX;clear G2 G1 HX;intro G2 G1 HX;have hs_w3:=hE.size;clear hE;replace b_B1:=bX3 B1;replace b_B2:=bX3 B2;have R0:Hid (aW w3 x1 z0):=Hi (G1.out.raw Z0.out (by decide));have R1:Hid (aW w3 x2 o1):=Hi (G2.out.raw Z1.out (by decide));have C1:Hid (av w3 x2 o1):=Hi G2.out;clear G1;clear G2;obtain ⟨yn,ya,yl,yc,yb,ym,yd⟩:=x1;obtain ⟨xn,xa,xl,xc,xb,xm,xd⟩:=x2
 go_wp2_with fail
 refine cM (nW 1 ⟨yn,ya,yl,yc,yb,ym,yd⟩ ⟨xn,xa,xl,xc,xb,xm,xd⟩ z0 o1 1 _ R0.out R1.out Z0.out Z1.out (by decide) (by decide)) fun x4 w4 hE G4=>?_
 refine mV6 hE ?_ B1 B2 HX R0 R1 C1;clear B1 B2 HX R0 R1 C1;intro B1 B2 HX R0 R1 C1;have hs_w4:=hE.size;clear hE;replace b_B1:=bX3 B1;replace b_B2:=bX3 B2;obtain ⟨⟨⟨a1,a2,a3,a4,a5,a6,a7⟩,⟨a8,a9,a10⟩,ap,⟨a11,a12,a13⟩⟩,e4⟩:=x4;obtain ⟨he,-,hp⟩:=G4.out;rw [zH] at he hp;have PA:Hid (rh w4 ⟨⟨a1,a2,a3,a4,a5,a6,a7⟩,⟨a8,a9,a10⟩,ap,⟨a11,a12,a13⟩⟩ o1 [o1] 1 t2):=Hi (by have h:=hp rfl;rw [show (1:Int).toNat=1 from rfl,Cd] at h;exact h);simp only at he;subst he;obtain rfl:ap=1:=PA.out.2.2.1;clear hp G4
 go_upto_region 3 with fail
 refine nmA ?_;intro w5 hE B3 hz_w5 hr_w5;refine mV7 hE ?_ B1 B2 HX R0 R1 C1 PA;clear B1 B2 HX R0 R1 C1 PA;intro B1 B2 HX R0 R1 C1 PA;have hs_w5:=hE.size;clear hE;replace b_B1:=bX3 B1;replace b_B2:=bX3 B2;replace b_B3:=bX3 B3
 go_wp2_with fail
 refine cM (sA 1 ⟨yn,ya,yl,yc,yb,ym,yd⟩ ⟨xn,xa,xl,xc,xb,xm,xd⟩ z0 o1 1 _ R0.out R1.out Z0.out Z1.out (by decide) (by decide)) fun x6 w6 hE G6=>?_
 refine mV8 hE ?_ B3 B1 B2 HX R0 R1 C1 PA;clear B3 B1 B2 HX R0 R1 C1 PA;intro B3 B1 B2 HX R0 R1 C1 PA;have hs_w6:=hE.size;clear hE;replace b_B1:=bX3 B1;replace b_B2:=bX3 B2;replace b_B3:=bX3 B3;obtain ⟨⟨⟨b1,b2,b3,b4,b5,b6,b7⟩,⟨b8,b9,b10⟩,bp,⟨b11,b12,b13⟩⟩,e6⟩:=x6;obtain ⟨he,-,hp⟩:=G6.out;rw [zH] at he hp;have PB:Hid (rh w6 ⟨⟨b1,b2,b3,b4,b5,b6,b7⟩,⟨b8,b9,b10⟩,bp,⟨b11,b12,b13⟩⟩ o1 [o1] 1 t2):=Hi (by have h:=hp rfl;rw [show (1:Int).toNat=1 from rfl,Cc] at h;exact h);simp only at he;subst he;obtain rfl:bp=1:=PB.out.2.2.1;clear hp G6
 go_upto_region 4 with fail
 refine nmA ?_;intro w7 hE B5 hz_w7 hr_w7;refine mV8 hE ?_ B3 B1 B2 HX R0 R1 C1 PA;clear B3 B1 B2 HX R0 R1 C1 PA;intro B3 B1 B2 HX R0 R1 C1 PA;replace PB:=mV hE PB;have hs_w7:=hE.size;clear hE;replace b_B1:=bX3 B1;replace b_B2:=bX3 B2;replace b_B3:=bX3 B3;replace b_B5:=bX3 B5
 go_wp2_with fail
 refine cM (vp 1 ⟨yn,ya,yl,yc,yb,ym,yd⟩ ⟨xn,xa,xl,xc,xb,xm,xd⟩ z0 o1 1 _ R0.out R1.out Z0.out Z1.out (by decide) (by decide)) fun x8 w8 hE G8=>?_
 refine mV8 hE ?_ B5 B3 B1 B2 HX R0 R1 C1;clear B5 B3 B1 B2 HX R0 R1 C1;intro B5 B3 B1 B2 HX R0 R1 C1;refine mV2 hE ?_ PA PB;clear PA PB;intro PA PB;have hs_w8:=hE.size;clear hE;replace b_B1:=bX3 B1;replace b_B2:=bX3 B2;replace b_B3:=bX3 B3;replace b_B5:=bX3 B5;obtain ⟨⟨⟨c1,c2,c3,c4,c5,c6,c7⟩,⟨c8,c9,c10⟩,cp,⟨c11,c12,c13⟩⟩,e8⟩:=x8;obtain ⟨he,-,hp⟩:=G8.out;rw [zH] at he hp;have PC:Hid (rh w8 ⟨⟨c1,c2,c3,c4,c5,c6,c7⟩,⟨c8,c9,c10⟩,cp,⟨c11,c12,c13⟩⟩ o1 [o1] 1 t2):=Hi (by have h:=hp rfl;rw [show (1:Int).toNat=1 from rfl,zI.1,zI.2.1,zI.2.2] at h;exact h);simp only at he;subst he;obtain rfl:cp=1:=PC.out.2.2.1;clear hp G8
 go_upto_region 5 with fail
 refine nmA ?_;intro w9 hE B7 hz_w9 hr_w9;refine mV8 hE ?_ B5 B3 B1 B2 HX R0 R1 C1;clear B5 B3 B1 B2 HX R0 R1 C1;intro B5 B3 B1 B2 HX R0 R1 C1;refine mV3 hE ?_ PA PB PC;clear PA PB PC;intro PA PB PC;have hs_w9:=hE.size;clear hE;replace b_B1:=bX3 B1;replace b_B2:=bX3 B2;replace b_B3:=bX3 B3;replace b_B5:=bX3 B5;replace b_B7:=bX3 B7;have HX9:=Hi (Ext.refl w9);have PA9:=PA;have PB9:=PB;have PC9:=PC;have C19:=C1;clear PA;clear PB;clear PC;clear C1;clear R0;clear R1;refine aQ [(8,6)] _ (by simp only [gy,kk,List.push_toArray,List.cons_append,List.nil_append];exact rfl) (by intro c a d v w h;cases d <;> exact h) 8 (fun opIx=>match opIx with
  | 2=>.spec RH default RH.v (fun s w'=>av w' s (((1:Int):Rat) / ((2:Int):Rat)))
  | 3=>.spec (PH×Int) ((PH0,0)) (PE) (fun x w'=>zR x w')
  | 7=>.alloc 64 #[.bool false,.slice none 0 0,.slice none 0 0,.slice none 0 0,.int .i64 0,.slice none 0 0]
  | _=>.quiet) (fun|3=>[2]|_=>[]) (by kernel_rfl) (by kernel_rfl) (by kernel_rfl) (fun w0 he0 hz0 hc0 hf0=>?_)
 replace he0:=Hi he0;simp only [pT];refine qQ ?_;refine wps he0.out rfl rfl (fun w1 hW hG=>?_) fun x30=>?_
 ·exact spc [.int .i64 1,.int .i64 2] Tryz.func54 (f4 1 2 _ (by decide) (by decide) (by decide) (by decide))
 refine qZ ?_;refine wps he0.out rfl rfl (fun w1 hW hG=>?_) fun x31=>?_
 ·have g30:=(hG 2 (by decide):aw _ _).get fun _ e g=>g.ext e
  exact spc [.int .i64 3,RH.v ⟨yn,ya,yl,yc,yb,ym,yd⟩,RH.v ⟨xn,xa,xl,xc,xb,xm,xd⟩,x30.v] Tryz.func55 (qH 3 ⟨yn,ya,yl,yc,yb,ym,yd⟩ ⟨xn,xa,xl,xc,xb,xm,xd⟩ x30 _ (by decide) (by decide))
 refine qZ ?_;refine aH rfl rfl (fun w=>by simp [execOp,go_sem,ptr]) (fun b32 hb32 hl32=>?_);refine qZ ?_;refine aj ?_;intro w10 hI;have hE:=he0.out.trans hI.ext;have G30:=gT (hI.facts 2);have G31:=gT (hI.facts 3);have A32:Hid (w10.heap[b32]?=some (.cells #[.bool false,.slice none 0 0,.slice none 0 0,.slice none 0 0,.int .i64 0,.slice none 0 0] 64 (0,0))):=hI.facts 7;rw [hz0] at hl32;clear hI he0 hz0 hc0 hf0;refine mV7 hE ?_ B7 B5 B3 B1 B2 HX HX9;clear B7 B5 B3 B1 B2 HX HX9;intro B7 B5 B3 B1 B2 HX HX9;have hs_w10:=hE.size;clear hE;replace b_B1:=bX3 B1;replace b_B2:=bX3 B2;replace b_B3:=bX3 B3;replace b_B5:=bX3 B5;replace b_B7:=bX3 B7;replace b_A32:=bX3 A32;simp only [pD,ptr];obtain ⟨x31,e31⟩:=x31;obtain ⟨he,hp⟩:=G31.out;simp only at he hp;subst he;subst hp;clear G31;clear G30;simp only [PH0,PE]
 go_upto_region 6 with fail
 refine bY A32.out rfl ?_;intro w11 T;replace HX:=Hi (T.ext HX.out (by omega));replace B1:=Hi (T.rest _ _ (by omega) B1.out);replace B2:=Hi (T.rest _ _ (by omega) B2.out);replace B3:=Hi (T.rest _ _ (by omega) B3.out);replace B5:=Hi (T.rest _ _ (by omega) B5.out);replace B7:=Hi (T.rest _ _ (by omega) B7.out);replace HX9:=Hi (T.ext HX9.out (by omega));replace A32:=Hi (T.bx);have hs_w11:=nle T.size;have hr_w11:=nle T.size.symm;clear T;replace b_B1:=bX3 B1;replace b_B2:=bX3 B2;replace b_B3:=bX3 B3;replace b_B5:=bX3 B5;replace b_B7:=bX3 B7;replace b_A32:=bX3 A32
 (try clear b_A32);clear A32
 go_wp2_with fail
 refine cM (fZ 2 _ (by decide) (by decide)) fun x12 w12 hE G12=>?_
 refine mV7 hE ?_ HX B1 B2 B3 B5 B7 HX9;clear HX B1 B2 B3 B5 B7 HX9;intro HX B1 B2 B3 B5 B7 HX9;have hs_w12:=hE.size;clear hE;replace b_B1:=bX3 B1;replace b_B2:=bX3 B2;replace b_B3:=bX3 B3;replace b_B5:=bX3 B5;replace b_B7:=bX3 B7
 go_upto_region 7 with fail
 refine nmA ?_;intro w13 hE B40 hz_w13 hr_w13;refine mV8 hE ?_ G12 HX B1 B2 B3 B5 B7 HX9;clear G12 HX B1 B2 B3 B5 B7 HX9;intro G12 HX B1 B2 B3 B5 B7 HX9;have hs_w13:=hE.size;clear hE;replace b_B1:=bX3 B1;replace b_B2:=bX3 B2;replace b_B3:=bX3 B3;replace b_B5:=bX3 B5;replace b_B7:=bX3 B7;replace b_B40:=bX3 B40;have LT:=Hi (nt B40.out G12.out)
 (try clear b_B40);clear B40
 clear G12;have PA:=Hi (PA9.out.ext HX9.out);have PB:=Hi (PB9.out.ext HX9.out);have PC:=Hi (PC9.out.ext HX9.out);have C1:=Hi (C19.out.ext HX9.out);clear PA9 PB9 PC9 C19;clear HX9;obtain ⟨bl,hbl⟩:∃ b,b=w12.heap.size:=⟨_,rfl⟩;rw [←hbl] at LT ⊢;clear hbl
 go_wp2_with fail
 refine cM ((by have h:=fS ⟨a11,a12,a13⟩ ⟨some ⟨bl,0,none⟩,1,1⟩ t2 t2 _ PA.out.2.2.2 LT.out;rw [decide_eq_true rfl] at h;exact h)) fun x14 w14 hE _=>?_
 refine mV8 hE ?_ HX B1 B2 B3 B5 B7 LT PA;clear HX B1 B2 B3 B5 B7 LT PA;intro HX B1 B2 B3 B5 B7 LT PA;refine mV3 hE ?_ PB PC C1;clear PB PC C1;intro PB PC C1;have hs_w14:=hE.size;clear hE;replace b_B1:=bX3 B1;replace b_B2:=bX3 B2;replace b_B3:=bX3 B3;replace b_B5:=bX3 B5;replace b_B7:=bX3 B7
 go_wp2_with fail
 refine cM (mD ⟨⟨a1,a2,a3,a4,a5,a6,a7⟩,⟨a8,a9,a10⟩,1,⟨a11,a12,a13⟩⟩ ⟨⟨b1,b2,b3,b4,b5,b6,b7⟩,⟨b8,b9,b10⟩,1,⟨b11,b12,b13⟩⟩ o1 [o1] t2 1 _ PA.out PB.out) fun x15 w15 hE _=>?_
 refine mV8 hE ?_ HX B1 B2 B3 B5 B7 LT PA;clear HX B1 B2 B3 B5 B7 LT PA;intro HX B1 B2 B3 B5 B7 LT PA;refine mV3 hE ?_ PB PC C1;clear PB PC C1;intro PB PC C1;have hs_w15:=hE.size;clear hE;replace b_B1:=bX3 B1;replace b_B2:=bX3 B2;replace b_B3:=bX3 B3;replace b_B5:=bX3 B5;replace b_B7:=bX3 B7
 go_wp2_with fail
 refine cM ((by have h:=fS ⟨c11,c12,c13⟩ ⟨some ⟨bl,0,none⟩,1,1⟩ t2 t2 _ PC.out.2.2.2 LT.out;rw [decide_eq_true rfl] at h;exact h)) fun x16 w16 hE _=>?_
 refine mV8 hE ?_ HX B1 B2 B3 B5 B7 LT PA;clear HX B1 B2 B3 B5 B7 LT PA;intro HX B1 B2 B3 B5 B7 LT PA;refine mV3 hE ?_ PB PC C1;clear PB PC C1;intro PB PC C1;have hs_w16:=hE.size;clear hE;replace b_B1:=bX3 B1;replace b_B2:=bX3 B2;replace b_B3:=bX3 B3;replace b_B5:=bX3 B5;replace b_B7:=bX3 B7
 go_wp2_with fail
 refine nmA (F:=fun W=>Calls _ _ _ W _) ?_;intro w17 hE B41 hz_w17 hr_w17;refine mV8 hE ?_ HX B1 B2 B3 B5 B7 LT PA;clear HX B1 B2 B3 B5 B7 LT PA;intro HX B1 B2 B3 B5 B7 LT PA;refine mV3 hE ?_ PB PC C1;clear PB PC C1;intro PB PC C1;have hs_w17:=hE.size;clear hE;replace b_B1:=bX3 B1;replace b_B2:=bX3 B2;replace b_B3:=bX3 B3;replace b_B5:=bX3 B5;replace b_B7:=bX3 B7;replace b_B41:=bX3 B41
 change Calls _ _ _ _ _
 have LO:=Hi (nt (x:=⟨xn,xa,xl,xc,xb,xm,xd⟩) B41.out C1.out)
 (try clear b_B41);clear B41
 refine cM ((by have h:=fS ⟨c8,c9,c10⟩ ⟨some ⟨w16.heap.size,0,none⟩,1,1⟩ [o1] [o1] _ PC.out.2.1 LO.out;rw [decide_eq_true rfl] at h;exact h)) fun x18 w18 hE _=>?_
 refine mV8 hE ?_ HX B1 B2 B3 B5 B7 LT PA;clear HX B1 B2 B3 B5 B7 LT PA;intro HX B1 B2 B3 B5 B7 LT PA;refine mV4 hE ?_ PB PC C1 LO;clear PB PC C1 LO;intro PB PC C1 LO;have hs_w18:=hE.size;clear hE;replace b_B1:=bX3 B1;replace b_B2:=bX3 B2;replace b_B3:=bX3 B3;replace b_B5:=bX3 B5;replace b_B7:=bX3 B7;have LD:=PA.out.2.2.2.len;have LE:=PA.out.2.1.len;simp only at LD LE;obtain rfl:a12=1:=LD.symm;obtain rfl:a9=1:=LE.symm;clear LD LE;have RP:Hid (km w18 ⟨⟨a1,a2,a3,a4,a5,a6,a7⟩,⟨a8,1,a10⟩,1,⟨a11,1,a13⟩⟩ o1 [o1] t2):=Hi ⟨PA.out.1.raw Z1.out (by decide),PA.out.2.1.raw (k:=1) (fun x hx=>by rw [nXt.1 hx];exact Z1.out) (by decide),PA.out.2.2.2.raw Ad (by decide)⟩
 go_wp2_with fail
 refine cM ((by have h:=kF ⟨⟨a1,a2,a3,a4,a5,a6,a7⟩,⟨a8,1,a10⟩,1,⟨a11,1,a13⟩⟩ o1 [o1] t2 10000 _ RP.out (by show 1≤49;decide) (BU Ae (n:=1) (by decide) (by decide) (by unfold KN;decide) (by decide) (by decide));rw [show (PH.p ⟨⟨a1,a2,a3,a4,a5,a6,a7⟩,⟨a8,1,a10⟩,1,⟨a11,1,a13⟩⟩)=1 from rfl,Cb] at h;exact h)) fun x20 w20 hE _=>?_
 refine mV8 hE ?_ HX B1 B2 B3 B5 B7 LT PA;clear HX B1 B2 B3 B5 B7 LT PA;intro HX B1 B2 B3 B5 B7 LT PA;refine mV4 hE ?_ PB PC C1 LO;clear PB PC C1 LO;intro PB PC C1 LO;have hs_w20:=hE.size;clear hE;replace b_B1:=bX3 B1;replace b_B2:=bX3 B2;replace b_B3:=bX3 B3;replace b_B5:=bX3 B5;replace b_B7:=bX3 B7;go_wp2
 go_ret
 exact ⟨(),rfl,HX.out,trivial⟩
end Go.Proofs.YtafgmcimcbhhjaaGreat
/- The prototypes of law17's all: which they are, what holds of them, their sizes. Plain facts. -/
namespace Go.Proofs.YtafgmcimcbhhjaaGreat
open Go.RowKit Go.Front Go.Num Stab Sg
def edQ(e:Int):Rat:=((e % 19-9:Int):Rat) / ((10:Int):Rat)
def riQ(r:Int):Rat:=((1+r % 30:Int):Rat) / ((10:Int):Rat)
def seQ(s:Int):Rat:=((1+s % 9:Int):Rat) / ((10:Int):Rat)
theorem AU:∀ m:Nat,m<19→-1<(((m:Int)-9:Int):Rat) / ((10:Int):Rat)∧(((m:Int)-9:Int):Rat) / ((10:Int):Rat)<1∧((((m:Int)-9:Int):Rat) / ((10:Int):Rat)).num.natAbs<W32∧((((m:Int)-9:Int):Rat) / ((10:Int):Rat)).den<W32 ∧
  (aM ((((m:Int)-9:Int):Rat) / ((10:Int):Rat))).num.natAbs<W32∧(aM ((((m:Int)-9:Int):Rat) / ((10:Int):Rat))).den<W32∧(bkV ((((m:Int)-9:Int):Rat) / ((10:Int):Rat))).num.natAbs<W32∧(bkV ((((m:Int)-9:Int):Rat) / ((10:Int):Rat))).den<W32:=by decide +kernel
theorem As:∀ m:Nat,m<30→0<((1+(m:Int):Int):Rat) / ((10:Int):Rat)∧(((1+(m:Int):Int):Rat) / ((10:Int):Rat)).num.natAbs<W32∧(((1+(m:Int):Int):Rat) / ((10:Int):Rat)).den<W32:=by decide +kernel
theorem Ap:∀ m:Nat,m<9→0<((1+(m:Int):Int):Rat) / ((10:Int):Rat)∧((1+(m:Int):Int):Rat) / ((10:Int):Rat)<1∧(((1+(m:Int):Int):Rat) / ((10:Int):Rat)).num.natAbs<W32∧(((1+(m:Int):Int):Rat) / ((10:Int):Rat)).den<W32:=by decide +kernel
theorem sz1{q:Rat}(h:q.num.natAbs<W32∧q.den<W32):Sz 1 q:=⟨by rw [Nat.pow_one];exact h.1,by rw [Nat.pow_one];exact h.2⟩
theorem f9(z m:Int)(hm:0<m):∃ n:Nat,z % m=(n:Int)∧(n:Int)<m:=by
 have h1:=Int.emod_nonneg z (show m≠0 by omega);have h2:=Int.emod_lt_of_pos z hm;exact ⟨(z % m).toNat,by omega,by omega⟩
structure EdF (e:Rat):Prop where
 lo:-1<e
 hi:e<1
 z:Sz 1 e
 w:Sz 1 (aM e)
 b:Sz 1 (bkV e)
theorem BT(e:Int):EdF (edQ e):=by
 obtain ⟨m,h1,h2⟩:=f9 e 19 (by decide);unfold edQ;rw [h1];obtain ⟨a,b,c,d,f,g,i,j⟩:=AU m (by omega);exact ⟨a,b,sz1 ⟨c,d⟩,sz1 ⟨f,g⟩,sz1 ⟨i,j⟩⟩
theorem BF(r:Int):0<riQ r∧Sz 1 (riQ r):=by
 obtain ⟨m,h1,h2⟩:=f9 r 30 (by decide);unfold riQ;rw [h1];obtain ⟨a,b⟩:=As m (by omega);exact ⟨a,sz1 b⟩
theorem BE(s:Int):0<seQ s∧seQ s<1∧Sz 1 (seQ s):=by
 obtain ⟨m,h1,h2⟩:=f9 s 9 (by decide);unfold seQ;rw [h1];obtain ⟨a,b,c⟩:=Ap m (by omega);exact ⟨a,b,sz1 c⟩
theorem oJ{n:Nat}{e r:Rat}(h1:1≤n)(h5:n≤8)(he:EdF e)(hr:0<r):dm (n:Nat) e r=0:=by
 have e1:((1:Int):Rat)=1:=rfl;have e2:((-1:Int):Rat)=-1:=rfl;have a1:=he.lo;have a2:=he.hi;unfold dm;rw [if_neg (by omega),if_neg (fun h=>by rw [gj,mf,e1,e2] at h;grind),if_neg (fun h=>by rw [gj] at h;grind)]
section
variable {A B:List Rat} (hA:zZ A) (hB:zZ B)
include hA hB
end
theorem st{n:Nat}(hn:n≤5):FrB 13 (bE plQ n):=(cL (eV 1 (by decide)) (by decide) n (by omega)).mono (by omega)
end Go.Proofs.YtafgmcimcbhhjaaGreat
