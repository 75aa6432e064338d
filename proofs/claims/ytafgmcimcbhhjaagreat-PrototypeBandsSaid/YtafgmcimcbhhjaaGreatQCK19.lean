import Derived.Test.YtafgmcimcbhhjaaGreatQCK18
set_option linter.unusedVariables false
set_option maxHeartbeats 16000000
namespace Go.Proofs.YtafgmcimcbhhjaaGreat.Sg
open Go.RowKit Go.Front Go.Num Go.Stab Go.Proofs.YtafgmcimcbhhjaaGreat
structure Prf (inv:Bool) (e0 r:Rat) (g:Rat) (e:List Rat) (p:Int) (d:List Rat):Prop where
 val:dF g e p d=true
 low:∃ k:Rat,0<k∧∀ x,-1≤x→x≤1→k≤evV d x
 nn:∀ x,-1≤x→x≤1→0≤g*(evV e x*evV e x*(1+x) ^ p.toNat)
 le:∀ x,-1≤x→x≤1→g*(evV e x*evV e x*(1+x) ^ p.toNat)≤evV d x
 edge:(1+r)*(g*(evV e e0*evV e e0*(1+e0) ^ p.toNat))=(if inv=true then r else 1)*evV d e0
 band:inv=false→∀ x,e0≤x→x≤1→evV d x≤(1+r)*(g*(evV e x*evV e x*(1+x) ^ p.toNat))
 stop:inv=true→∀ x,-1≤x→x≤e0→(1+r)*(g*(evV e x*evV e x*(1+x) ^ p.toNat))≤r*evV d x
theorem gA{e:Rat}(h1:-1<e)(h2:e<1):0<aG e∧aG e*(1-e)=1+e:=by
 have h0:((1:Int):Rat)=1:=rfl;unfold aG;rw [h0];exact ⟨tJ (by grind) (by grind),aK (by grind)⟩
theorem uS{g:Rat}{e d:List Rat}{p:Int}(hg:0<g)(h0:0≤p)(h1:p≤48)(he:tz e≠[])(hl:(tz e).length≤25)(hd:(tz d).length≤49){k:Rat}(hk:0<k)(h:∀ x,-1≤x→x≤1→k≤evV d x):dF g e p d=true:=by
 rw [sB ⟨hg,h0,h1,he,hl,hd⟩];exact CD hk h
theorem BF(x:Rat):evV [((1:Int):Rat)] x=1:=by show 0*x+((1:Int):Rat)=1;have:((1:Int):Rat)=1:=rfl;grind
theorem E0:tz [((1:Int):Rat)]≠[]:=by decide
theorem tC{n:Nat}{e0 r:Rat}{d:List Rat}{B:Rat→Rat}(h1:1≤n)(h5:n≤5)(he:-1<e0∧e0<1)(hr:0<r)(hd:∀ x,evV d x=(1+x) ^ n+r*B x)(hdl:d.length≤49)(pB:Pf B)(hcp:Cp (fun x=>1+x) B)(hB:∀ x,-1≤x→x≤1→0≤B x)(hB2:∀ x,e0≤x→x≤1→B x≤(1+x) ^ n)(hB3:B e0=(1+e0) ^ n) :
  Prf false e0 r ((1:Int):Rat) [((1:Int):Rat)] (n:Int) d:=by
 have hc:Cp (fun x=>r*B x) (fun x=>(1+x) ^ n):=Cp.powr (Cp.symm (hcp.smulr (by grind))) (pB.smul r) Gb n;obtain ⟨k,hk,hl⟩:=qU (Cp.symm hc) (fun x h2 h3=>nC (by grind) n) (fun x h2 h3=>gw (Rat.le_of_lt hr) (hB x h2 h3));have hA:∀ x,((1:Int):Rat)*(evV [((1:Int):Rat)] x*evV [((1:Int):Rat)] x*(1+x) ^ (n:Int).toNat)=(1+x) ^ n:=fun x=>by
  rw [BF,Int.toNat_natCast];have:((1:Int):Rat)=1:=rfl;grind
 have hl2:∀ x,-1≤x→x≤1→k≤evV d x:=fun x h2 h3=>by rw [hd];exact hl x h2 h3
 refine ⟨uS dZ zo zo E0 dZ (nXf (ae d) hdl) hk hl2,⟨k,hk,hl2⟩,fun x h2 h3=>?_,fun x h2 h3=>?_,?_,fun _ x h2 h3=>?_,fun h=>absurd h dZ⟩
 ·rw [hA];exact nC (by grind) n
 ·rw [hA,hd];have:=gw (Rat.le_of_lt hr) (hB x h2 h3);grind
 ·rw [hA,hd,hB3,if_neg dZ];grind
 ·rw [hA,hd];have:=aZ (hB2 x h2 h3) (Rat.le_of_lt hr);grind
theorem rk{c:Rat}(hc:c≠0):Cp (fun x=>1+x) (fun x=>c*(1-x)):=FF.smulr hc
theorem DC{c e0 x:Rat}(hc:0<c)(hce:c*(1-e0)=1+e0)(hx:e0≤x):c*(1-x)≤1+x:=by
 have:=aZ hx (Rat.le_of_lt hc);grind
theorem Gn{a b:Rat}(ha:0≤a)(h:a≤b)(n:Nat):a ^ n≤b ^ n:=by
 induction n with
 | zero=>rw [Rat.pow_zero,Rat.pow_zero];exact Rat.le_refl
 | succ n ih =>
  rw [Rat.pow_succ,Rat.pow_succ];have h1:=cP ih ha;have h2:=aZ h (nC (show 0≤b by grind) n);grind
theorem uK{n:Nat}{e0 r:Rat}(h1:1≤n)(h5:n≤5)(he:-1<e0∧e0<1)(hr:0<r):Prf false e0 r ((1:Int):Rat) [((1:Int):Rat)] (n:Int) (buD n e0 r):=by
 obtain ⟨hc,hce⟩:=gA he.1 he.2;have hc0:aG e0≠0:=fun h=>by rw [h] at hc;exact absurd hc Rat.lt_irrefl
 have hev:∀ x,evV (buD n e0 r) x=(1+x) ^ n+r*(aG e0*(1-x)) ^ n:=fun x=>by
  unfold buD;rw [ev_add5,bY,dN,bY,eG,ez,Bp];grind
 have hlen:(buD n e0 r).length≤49:=nXf (cO (n:=n+1) (gg n) (bh _ _ (eF n))) zo;refine tC h1 h5 he hr hev hlen ((EW.smul _).pow n) (Cp.powr (rk hc0) Gb (EW.smul _) n) (fun x h2 h3=>nC (gw (Rat.le_of_lt hc) (by grind)) n) (fun x h2 h3=>Gn (gw (Rat.le_of_lt hc) (by grind)) (DC hc hce h2) n) ?_;show (aG e0*(1-e0)) ^ n=(1+e0) ^ n;rw [hce]
theorem AM{n:Nat}{e0 r:Rat}(h1:1≤n)(h5:n≤5)(he:-1<e0∧e0<1)(hr:0<r):Prf false e0 r ((1:Int):Rat) [((1:Int):Rat)] (n:Int) (chD n e0 r):=by
 obtain ⟨hc,hce⟩:=gA he.1 he.2;have hc0:aG e0≠0:=fun h=>by rw [h] at hc;exact absurd hc Rat.lt_irrefl
 have hev:∀ x,evV (chD n e0 r) x=(1+x) ^ n+r*wV n (aG e0*(1-x)) (1+x):=fun x=>by
  unfold chD chW;rw [ev_add5,bY,dN,jv,eG,ez,xh h1 h5]
 have hlen:(chD n e0 r).length≤49:=nXf (cO (n:=n+1) (gg n) (bh _ _ (el bR bQ _ _ n _ (ij zo)))) zo;have hy:∀ x,x≤1→0≤aG e0*(1-x):=fun x h=>gw (Rat.le_of_lt hc) (by grind)
 refine tC h1 h5 he hr hev hlen ?_ (Ig h1 h5 Gb (EW.smul _) (rk hc0)) (fun x h2 h3=>Hl _ (hy x h3)) (fun x h2 h3=>?_) ?_
 ·refine ⟨j7 miQ plQ (sqP n) n (aG e0) (sqP n).length,funext fun x=>?_⟩;rw [jv,eG,ez,xh h1 h5]
 ·have k1:=uQ h1 h5 (aG e0*(1-x)) (1+x);have k2:=gw (show 0≤1+x-aG e0*(1-x) by have:=DC hc hce h2;grind) (Id (n:=n) (1+x) (hy x h3));rw [←k1] at k2;grind
 ·show wV n (aG e0*(1-e0)) (1+e0)=_;rw [hce,AW h1 h5]
theorem Dc{n:Nat}{e0 r:Rat}(h1:1≤n)(h5:n≤5)(he:-1<e0∧e0<1)(hr:0<r):Prf true e0 r (inQ n e0 r) (inE n e0) ((n % 2:Nat):Int) (inD n e0 r):=by
 obtain ⟨hc,hce⟩:=gA he.1 he.2;have hc0:aG e0≠0:=fun h=>by rw [h] at hc;exact absurd hc Rat.lt_irrefl
 have hb:0<bkV e0:=by unfold bkV;exact tJ dZ hc
 have hbc:bkV e0*aG e0=1:=by unfold bkV;rw [aK hc0];rfl
 have hbe:bkV e0*(1+e0)=1-e0:=by rw [←hce];grind
 have hbz:∀ x,-1≤x→0≤bkV e0*(1+x):=fun x h=>gw (Rat.le_of_lt hb) (by grind)
 have hev:∀ x,evV (inD n e0 r) x=(1-x) ^ n+r*wV n (bkV e0*(1+x)) (1-x):=fun x=>by
  unfold inD inW;rw [ev_add5,bY,dN,jv,eG,ez,xh h1 h5]
 have heE:∀ x,evV (inE n e0) x=rV n (bkV e0*(1+x)) (1-x):=fun x=>by
  unfold inE;rw [jv,eG,ez,Fi h1 h5]
 have hA:∀ x,inQ n e0 r*(evV (inE n e0) x*evV (inE n e0) x*(1+x) ^ ((n % 2:Nat):Int).toNat)=r*wV n (bkV e0*(1+x)) (1-x):=fun x=>by
  rw [heE,Int.toNat_natCast];unfold inQ wV;by_cases hn:n % 2=1
  ·rw [if_pos hn,if_pos hn,hn,kk];have e1:r / aG e0=r*bkV e0:=by
    grind
   rw [e1];grind
  ·rw [if_neg hn,if_neg hn,show n % 2=0 by omega,k6];grind
 have hwp:Pf (fun x=>wV n (bkV e0*(1+x)) (1-x)):=⟨j7 plQ miQ (sqP n) n (bkV e0) (sqP n).length,funext fun x=>by rw [jv,eG,ez,xh h1 h5]⟩;have hcp:=Ig h1 h5 EW (Gb.smul (bkV e0)) ((Cp.symm FF).smulr (k:=bkV e0) (fun h=>by rw [h] at hb;exact absurd hb Rat.lt_irrefl));have hw0:∀ x,-1≤x→x≤1→0≤r*wV n (bkV e0*(1+x)) (1-x):=fun x h2 h3=>gw (Rat.le_of_lt hr) (Hl _ (hbz x h2))
 have hc2:Cp (fun x=>r*wV n (bkV e0*(1+x)) (1-x)) (fun x=>(1-x) ^ n):=Cp.powr (Cp.symm (hcp.smulr (by grind))) (hwp.smul r) EW n;obtain ⟨k,hk,hl⟩:=qU (Cp.symm hc2) (fun x h2 h3=>nC (by grind) n) hw0;have hl2:∀ x,-1≤x→x≤1→k≤evV (inD n e0 r) x:=fun x h2 h3=>by rw [hev];exact hl x h2 h3
 have hlen:(inD n e0 r).length≤49:=nXf (cO (n:=n+1) (eF n) (bh _ _ (el bQ bR _ _ n _ (ij zo)))) zo;have hge:0<inQ n e0 r:=by
  unfold inQ;split
  ·exact tJ hr hc
  ·exact hr
 have hEl:(inE n e0).length≤9:=nXf (el bQ bR _ _ (n / 2) _ (by rw [ou];exact nXe _)) zo;refine ⟨uS hge zo zo (fun h=>?_) (nXf (ae _) zo) (nXf (ae _) hlen) hk hl2,⟨k,hk,hl2⟩,fun x h2 h3=>?_,fun x h2 h3=>?_,?_,fun h=>absurd h dZ,fun _ x h2 h3=>?_⟩
 ·have a1:=heE e0;rw [ev_tznil.1 h e0,hbe,ES h1 h5] at a1;have a2:0<(1-e0) ^ (n / 2):=Rat.pow_pos (by grind);rw [←a1] at a2;exact absurd a2 Rat.lt_irrefl
 ·rw [hA];exact hw0 x h2 h3
 ·rw [hA,hev];have:=nC (show 0≤1-x by grind) n;grind
 ·rw [hA,hev,hbe,AW h1 h5,if_pos rfl];grind
 ·rw [hA,hev];have k1:=uQ h1 h5 (bkV e0*(1+x)) (1-x);have hge2:bkV e0*(1+x)≤1-x:=by
   have:=aZ h3 (Rat.le_of_lt hb);grind
  have k2:=gw (show 0≤1-x-bkV e0*(1+x) by grind) (Id (n:=n) (1-x) (hbz x h2));rw [←k1] at k2;have k3:=gw (Rat.le_of_lt hr) k2;grind
end Go.Proofs.YtafgmcimcbhhjaaGreat.Sg
/- Elliptic prototypes of order 2 and 4; slopes. Plain facts. -/
namespace Go.Proofs.YtafgmcimcbhhjaaGreat
open Go.RowKit Go.Front Go.Num Stab
def elA(t e:Rat):List Rat:=subV (scP (bF miQ 1) ((t+((1:Int):Rat))*aG e)) (bF plQ 1)
def elB(t e:Rat):List Rat:=bA (scP (bF miQ 1) ((t-((1:Int):Rat))*aG e)) (bF plQ 1)
def elW(s:Rat):Rat:=(((2:Int):Rat)*s) / (((1:Int):Rat)+s*s)
def elT(n:Nat)(s:Rat):Rat:=if n=4 then s*s else s
def elE(n:Nat)(e s:Rat):List Rat:=if n=4 then bA (scP (aq (elA (elT n s) e) (elA (elT n s) e)) (elW s-((1:Int):Rat))) (aq (elB (elT n s) e) (elB (elT n s) e)) else elB (elT n s) e
def elO(n:Nat)(e s:Rat):List Rat:=if n=4 then subV (scP (aq (elA (elT n s) e) (elA (elT n s) e)) (elW s+((1:Int):Rat))) (aq (elB (elT n s) e) (elB (elT n s) e)) else elA (elT n s) e
def elD(n:Nat)(e r s:Rat):List Rat:=bA (aq (elE n e s) (elE n e s)) (scP (aq (elO n e s) (elO n e s)) r)
end Go.Proofs.YtafgmcimcbhhjaaGreat
namespace Go.Proofs.YtafgmcimcbhhjaaGreat.Sg
open Go.RowKit Go.Front Go.Num Go.Stab Go.Proofs.YtafgmcimcbhhjaaGreat
theorem kH(p q:List Rat)(x:Rat):evV (Go.Proofs.YtafgmcimcbhhjaaGreat.subV p q) x=evV p x-evV q x:=Dk p q x
theorem xL{n:Nat}{s:Rat}(h0:0<s)(h1:s<1):0<elT n s∧elT n s<1:=by
 unfold elT;split
 ·exact ⟨tf h0 h0,by have:=gi h1 h0;grind⟩
 ·exact ⟨h0,h1⟩
theorem xK{s:Rat}(h0:0<s):0<elW s∧elW s*(1+s*s)=2*s:=by
 have e1:((1:Int):Rat)=1:=rfl;have e2:((2:Int):Rat)=2:=rfl;have h2:=tf h0 h0;unfold elW;rw [e1,e2];exact ⟨tJ (by grind) (by grind),aK (by grind)⟩
theorem qy(t e x:Rat):evV (elA t e) x=(t+1)*(aG e*(1-x))-(1+x):=by
 unfold elA;rw [kH,dN,bY,bY,ez,eG,kk,kk];have:((1:Int):Rat)=1:=rfl;rw [this];grind
theorem tF(t e x:Rat):evV (elB t e) x=(t-1)*(aG e*(1-x))+(1+x):=by
 unfold elB;rw [ev_add5,dN,bY,bY,ez,eG,kk,kk];have:((1:Int):Rat)=1:=rfl;rw [this];grind
theorem xI{n:Nat}(hn:n=2∨n=4)(e s x:Rat):evV (elE n e s) x=if n=4 then (elW s-1)*(evV (elA (elT n s) e) x*evV (elA (elT n s) e) x)+evV (elB (elT n s) e) x*evV (elB (elT n s) e) x else evV (elB (elT n s) e) x:=by
 have:((1:Int):Rat)=1:=rfl;unfold elE;rcases hn with rfl|rfl
 ·rfl
 ·rw [if_pos rfl,if_pos rfl,ev_add5,dN,aH,aH,this]
theorem xH{n:Nat}(hn:n=2∨n=4)(e s x:Rat):evV (elO n e s) x=if n=4 then (elW s+1)*(evV (elA (elT n s) e) x*evV (elA (elT n s) e) x)-evV (elB (elT n s) e) x*evV (elB (elT n s) e) x else evV (elA (elT n s) e) x:=by
 have:((1:Int):Rat)=1:=rfl;unfold elO;rcases hn with rfl|rfl
 ·rfl
 ·rw [if_pos rfl,if_pos rfl,kH,dN,aH,aH,this]
theorem nN(n:Nat)(e r s x:Rat):evV (elD n e r s) x=evV (elE n e s) x*evV (elE n e s) x+r*(evV (elO n e s) x*evV (elO n e s) x):=by
 unfold elD;rw [ev_add5,dN,aH,aH]
theorem elAB_len(t e:Rat):(elA t e).length≤2∧(elB t e).length≤2:=by
 have h1:=bh (bF miQ 1) ((t+((1:Int):Rat))*aG e) (eF 1);have h2:=bh (bF miQ 1) ((t-((1:Int):Rat))*aG e) (eF 1);exact ⟨Go.Proofs.YtafgmcimcbhhjaaGreat.sub_len h1 (gg 1),cO h2 (gg 1)⟩
theorem elEO_len{n:Nat}(e s:Rat):(elE n e s).length≤3∧(elO n e s).length≤3:=by
 obtain ⟨h1,h2⟩:=elAB_len (elT n s) e;have h3:(aq (elA (elT n s) e) (elA (elT n s) e)).length≤3:=bg h1 h1;have h4:(aq (elB (elT n s) e) (elB (elT n s) e)).length≤3:=bg h2 h2;constructor
 ·unfold elE;split
  ·exact cO (bh _ _ h3) h4
  ·omega
 ·unfold elO;split
  ·exact Go.Proofs.YtafgmcimcbhhjaaGreat.sub_len (bh _ _ h3) h4
  ·omega
theorem elD_len{n:Nat}(e r s:Rat):(elD n e r s).length≤5:=by
 obtain ⟨h1,h2⟩:=elEO_len (n:=n) e s;have h3:(aq (elE n e s) (elE n e s)).length≤5:=bg h1 h1;have h4:(aq (elO n e s) (elO n e s)).length≤5:=bg h2 h2;exact cO h3 (bh _ _ h4)
theorem xJ{n:Nat}(hn:n=2∨n=4)(e s x:Rat):evV (elE n e s) x-evV (elO n e s) x=(if n=4 then 8*elT n s*(aG e*(1-x)) else 2)*((1+x)-aG e*(1-x)) ∧
  evV (elE n e s) x+evV (elO n e s) x=if n=4 then 2*elW s*(evV (elA (elT n s) e) x*evV (elA (elT n s) e) x) else 2*elT n s*(aG e*(1-x)):=by
 rw [xI hn,xH hn];rcases hn with rfl|rfl
 ·rw [if_neg dZ,if_neg dZ,if_neg dZ,if_neg dZ,qy,tF];exact ⟨by grind,by grind⟩
 ·rw [if_pos rfl,if_pos rfl,if_pos rfl,if_pos rfl,qy,tF];exact ⟨by grind,by grind⟩
theorem Do{n:Nat}(hn:n=2∨n=4){e0 s:Rat}(he:-1<e0∧e0<1)(h0:0<s)(h1:s<1):evV (elE n e0 s) e0=evV (elO n e0 s) e0∧evV (elE n e0 s) e0=(if n=4 then elW s*(elT n s*(1+e0)*(elT n s*(1+e0))) else elT n s*(1+e0))∧0<evV (elE n e0 s) e0:=by
 obtain ⟨hc,hce⟩:=gA he.1 he.2;obtain ⟨t0,t1⟩:=xL (n:=n) h0 h1;obtain ⟨w0,-⟩:=xK h0;obtain ⟨d1,d2⟩:=xJ hn e0 s e0;rw [hce] at d1;have e1:evV (elE n e0 s) e0=evV (elO n e0 s) e0:=by grind
 have hA:evV (elA (elT n s) e0) e0=elT n s*(1+e0):=by rw [qy,hce];grind
 have e2:evV (elE n e0 s) e0=(if n=4 then elW s*(elT n s*(1+e0)*(elT n s*(1+e0))) else elT n s*(1+e0)):=by
  rw [hA,hce] at d2;rcases hn with rfl|rfl
  ·rw [if_neg dZ] at d2 ⊢;grind
  ·rw [if_pos rfl] at d2 ⊢;grind
 refine ⟨e1,e2,?_⟩;have hz:=tf t0 (show 0<1+e0 by grind);rw [e2];split
 ·exact tf w0 (tf hz hz)
 ·exact hz
theorem GG{n:Nat}(hn:n=2∨n=4){e0 s:Rat}(he:-1<e0∧e0<1)(h0:0<s)(h1:s<1):Cp (evV (elE n e0 s)) (evV (elO n e0 s)):=by
 obtain ⟨hc,hce⟩:=gA he.1 he.2;obtain ⟨t0,t1⟩:=xL (n:=n) h0 h1;obtain ⟨w0,-⟩:=xK h0;have hc0:aG e0≠0:=fun h=>by rw [h] at hc;exact absurd hc Rat.lt_irrefl
 have ht:=aK (a:=1) (b:=2*elT n s) (by grind);have hAB:Cp (evV (elA (elT n s) e0)) (evV (elB (elT n s) e0)):=(rk hc0).change (p:=(elT n s+1)*(1 / (2*elT n s))-1) (q:=(elT n s+1)*(1 / (2*elT n s))) (r:=1 / (2*elT n s)) (s:=1 / (2*elT n s))
  (fun x=>by rw [qy,tF];generalize 1 / (2*elT n s)=k at *;generalize aG e0*(1-x)=u;grind)
  (fun x=>by rw [qy,tF];generalize 1 / (2*elT n s)=k at *;generalize aG e0*(1-x)=u;grind)
 rcases hn with rfl|rfl
 ·rw [show evV (elE 2 e0 s)=evV (elB (elT 2 s) e0) from rfl,show evV (elO 2 e0 s)=evV (elA (elT 2 s) e0) from rfl];exact Cp.symm hAB
 ·have pA:=Pf.ev (elA (elT 4 s) e0);have pB:=Pf.ev (elB (elT 4 s) e0);have h2:=Cp.symm ((Cp.symm (hAB.mulr hAB pA pB pB)).mulr (Cp.symm (hAB.mulr hAB pA pB pB)) (pB.mul pB) pA pA);have hw:=aK (a:=1) (b:=2*elW s) (by grind);refine h2.change (p:=1 / (2*elW s)) (q:=1 / (2*elW s)) (r:=1-(elW s-1)*(1 / (2*elW s))) (s:=-((elW s-1)*(1 / (2*elW s)))) (fun x=>?_) (fun x=>?_)
  ·rw [xI (Or.inr rfl),xH (Or.inr rfl),if_pos rfl,if_pos rfl];generalize 1 / (2*elW s)=k at *
   generalize evV (elA (elT 4 s) e0) x*evV (elA (elT 4 s) e0) x=u;generalize evV (elB (elT 4 s) e0) x*evV (elB (elT 4 s) e0) x=v;grind
  ·rw [xI (Or.inr rfl),xH (Or.inr rfl),if_pos rfl,if_pos rfl];generalize 1 / (2*elW s)=k at *
   generalize evV (elA (elT 4 s) e0) x*evV (elA (elT 4 s) e0) x=u;generalize evV (elB (elT 4 s) e0) x*evV (elB (elT 4 s) e0) x=v;grind
theorem Dn{n:Nat}(hn:n=2∨n=4){e0 r s:Rat}(he:-1<e0∧e0<1)(hr:0<r)(h0:0<s)(h1:s<1):Prf false e0 r ((1:Int):Rat) (elE n e0 s) 0 (elD n e0 r s):=by
 obtain ⟨hc,hce⟩:=gA he.1 he.2;obtain ⟨t0,t1⟩:=xL (n:=n) h0 h1;obtain ⟨w0,-⟩:=xK h0;obtain ⟨k1,k2,k3⟩:=Do hn he h0 h1;have hcp:=GG hn he h0 h1;have pE:=Pf.ev (elE n e0 s);have pO:=Pf.ev (elO n e0 s);have hEO:=(hcp.mulr hcp pE pO pO).smulr (k:=r) (by grind);have hEO2:=Cp.symm ((Cp.symm hEO).mulr (Cp.symm hEO) ((pO.mul pO).smul r) pE pE);obtain ⟨k,hk,hl⟩:=qU hEO2 (fun x _ _=>oe _) (fun x _ _=>gw (Rat.le_of_lt hr) (oe _));have hl2:∀ x,-1≤x→x≤1→k≤evV (elD n e0 r s) x:=fun x h2 h3=>by rw [nN];exact hl x h2 h3
 have hA:∀ x,((1:Int):Rat)*(evV (elE n e0 s) x*evV (elE n e0 s) x*(1+x) ^ (0:Int).toNat)=evV (elE n e0 s) x*evV (elE n e0 s) x:=fun x=>by
  rw [show (0:Int).toNat=0 from rfl,k6];have:((1:Int):Rat)=1:=rfl;grind
 obtain ⟨l1,l2⟩:=elEO_len (n:=n) e0 s;refine ⟨uS dZ dZ dZ (fun h=>?_) (nXf (ae _) zo) (nXf (ae _) (by have:=elD_len (n:=n) e0 r s;omega)) hk hl2,⟨k,hk,hl2⟩,fun x h2 h3=>?_,fun x h2 h3=>?_,?_,fun _ x h2 h3=>?_,fun h=>absurd h dZ⟩
 ·rw [ev_tznil.1 h e0] at k3;exact absurd k3 Rat.lt_irrefl
 ·rw [hA];exact oe _
 ·rw [hA,nN];have:=gw (Rat.le_of_lt hr) (oe (evV (elO n e0 s) x));grind
 ·rw [hA,nN,←k1,if_neg dZ];grind
 ·rw [hA,nN];obtain ⟨d1,d2⟩:=xJ hn e0 s x;have hu:0≤aG e0*(1-x):=gw (Rat.le_of_lt hc) (by grind);have hz:=DC hc hce h2;have a1:0≤evV (elE n e0 s) x-evV (elO n e0 s) x:=by
   rw [d1];refine gw ?_ (by grind);split
   ·exact gw (by grind) hu
   ·decide
  have a2:0≤evV (elE n e0 s) x+evV (elO n e0 s) x:=by
   rw [d2];split
   ·exact gw (by grind) (oe _)
   ·exact gw (by grind) hu
  have a3:=gw (Rat.le_of_lt hr) (gw a1 a2);grind
def nuP(g:Rat)(e:List Rat)(p:Int):List Rat:=tz ((aq (aq e e) (bF plQ p.toNat)).map (·*g))
theorem xF(g:Rat)(e:List Rat)(p:Int)(x:Rat):evV (nuP g e p) x=g*(evV e x*evV e x*(1+x) ^ p.toNat):=by
 unfold nuP;rw [cQ,bN,aH,aH,bY,eG]
end Go.Proofs.YtafgmcimcbhhjaaGreat.Sg
/- Sizes of the elliptic prototypes. Plain facts. -/
namespace Go.Proofs.YtafgmcimcbhhjaaGreat
open Go.RowKit Go.Front Go.Num Stab
theorem FrB.scP{S T:Nat}{l:List Rat}{c:Rat}(h:FrB S l)(hc:Sz T c)(hT:1≤T):FrB (S+T) (scP l c):=by
 obtain ⟨h0,D,h1,h2,h3⟩:=h;have hf:FrL (S+T) (D*c.den) (l.map (·*c)):=fun x hx=>by
  obtain ⟨y,hy,rfl⟩:=nYg.1 hx;exact (h3 y hy).mul (xC hc)
 refine ⟨zo,D*c.den,Nat.mul_pos h1 c.den_pos,?_,FrL.tz hf⟩;rw [Nat.pow_add];exact Nat.mul_lt_mul'' h2 hc.2
theorem FrB.subV{S U:Nat}{p q:List Rat}(hp:FrB S p)(hq:FrB U q):FrB (S+U+1) (subV p q):=hp.add hq.neg
structure ElZ (n:Nat) (e r s:Rat) (K:Nat):Prop where
 zT:Sz (2*K) (elT n s)
 zC:Sz (2*K+6) (aG e)
 z1:Sz (2*K+2) (elT n s+((1:Int):Rat))
 z2:Sz (2*K+2) (elT n s-((1:Int):Rat))
 c1:Sz (4*K+8) ((elT n s+((1:Int):Rat))*aG e)
 c2:Sz (4*K+8) ((elT n s-((1:Int):Rat))*aG e)
 f1:FrB (4*K+13) (scP (bF miQ 1) ((elT n s+((1:Int):Rat))*aG e))
 f2:FrB (4*K+13) (scP (bF miQ 1) ((elT n s-((1:Int):Rat))*aG e))
 fA:FrB (4*K+19) (elA (elT n s) e)
 fB:FrB (4*K+19) (elB (elT n s) e)
 zw:Sz (3*K+4) (elW s)
 zw1:Sz (3*K+6) (elW s+((1:Int):Rat))
 zw2:Sz (3*K+6) (elW s-((1:Int):Rat))
 fAA:FrB (8*K+39) (aq (elA (elT n s) e) (elA (elT n s) e))
 fBB:FrB (8*K+39) (aq (elB (elT n s) e) (elB (elT n s) e))
 fE:FrB (19*K+85) (elE n e s)
 fO:FrB (19*K+85) (elO n e s)
 fEE:FrB (38*K+171) (aq (elE n e s) (elE n e s))
 fOO:FrB (38*K+171) (aq (elO n e s) (elO n e s))
 fR:FrB (39*K+171) (scP (aq (elO n e s) (elO n e s)) r)
 fD:FrB (77*K+343) (elD n e r s)
theorem rC:FrB 5 (bF plQ 1):=(cN (fP 1 dZ) dZ 1 zo).mono dZ
theorem rK:FrB 5 (bF miQ 1):=(cN (fP (-1) dZ) dZ 1 zo).mono dZ
theorem Gd{n:Nat}{e r s:Rat}{K:Nat}(hn:n=2∨n=4)(ze:Sz K e)(zr:Sz K r)(zs:Sz K s)(hK:1≤K):ElZ n e r s K:=by
 have Z1:Sz 1 ((1:Int):Rat):=Sz.int dZ;have Z2:Sz 1 ((2:Int):Rat):=Sz.int dZ;have zT:Sz (2*K) (elT n s):=by
  unfold elT;split
  ·exact (zs.mul zs).mono zo
  ·exact zs.mono zo
 have zC:Sz (2*K+6) (aG e):=jH ze hK;have z1:Sz (2*K+2) (elT n s+((1:Int):Rat)):=(zT.add Z1).mono zo;have z2:Sz (2*K+2) (elT n s-((1:Int):Rat)):=(zT.sub Z1).mono zo;have c1:Sz (4*K+8) ((elT n s+((1:Int):Rat))*aG e):=(z1.mul zC).mono zo;have c2:Sz (4*K+8) ((elT n s-((1:Int):Rat))*aG e):=(z2.mul zC).mono zo;have f1:FrB (4*K+13) (scP (bF miQ 1) ((elT n s+((1:Int):Rat))*aG e)):=(rK.scP c1 zo).mono zo;have f2:FrB (4*K+13) (scP (bF miQ 1) ((elT n s-((1:Int):Rat))*aG e)):=(rK.scP c2 zo).mono zo;have fA:FrB (4*K+19) (elA (elT n s) e):=(f1.subV rC).mono zo;have fB:FrB (4*K+19) (elB (elT n s) e):=(f2.add rC).mono zo;have zw:Sz (3*K+4) (elW s):=((Z2.mul zs).div (Z1.add (zs.mul zs))).mono zo;have zw1:Sz (3*K+6) (elW s+((1:Int):Rat)):=(zw.add Z1).mono zo;have zw2:Sz (3*K+6) (elW s-((1:Int):Rat)):=(zw.sub Z1).mono zo;obtain ⟨lA,lB⟩:=Sg.elAB_len (elT n s) e;have fAA:FrB (8*K+39) (aq (elA (elT n s) e) (elA (elT n s) e)):=(fA.mul fA zo).mono zo;have fBB:FrB (8*K+39) (aq (elB (elT n s) e) (elB (elT n s) e)):=(fB.mul fB zo).mono zo;have fE:FrB (19*K+85) (elE n e s):=by
  unfold elE;split
  ·exact ((fAA.scP zw2 zo).add fBB).mono zo
  ·exact fB.mono zo
 have fO:FrB (19*K+85) (elO n e s):=by
  unfold elO;split
  ·exact ((fAA.scP zw1 zo).subV fBB).mono zo
  ·exact fA.mono zo
 obtain ⟨lE,lO⟩:=Sg.elEO_len (n:=n) e s;have fEE:FrB (38*K+171) (aq (elE n e s) (elE n e s)):=(fE.mul fE zo).mono zo;have fOO:FrB (38*K+171) (aq (elO n e s) (elO n e s)):=(fO.mul fO zo).mono zo;have fR:FrB (39*K+171) (scP (aq (elO n e s) (elO n e s)) r):=(fOO.scP zr hK).mono zo;exact ⟨zT,zC,z1,z2,c1,c2,f1,f2,fA,fB,zw,zw1,zw2,fAA,fBB,fE,fO,fEE,fOO,fR,(fEE.add fR).mono zo⟩
attribute [local go_sem] XW.cell XW.frozen
set_option maxRecDepth 8000 in
theorem pK(x y:PH)(q:Rat)(u d:List Rat)(p:Int)(w:World)(hx:uN w x q u p d)(hy:uN w y q u p d):ak 108 [x.v,y.v] w (fun _:Unit=>.bool true) (fun _ _=>True):=by
 obtain ⟨⟨xn,xa,xl,xc,xb,xm,xd⟩,⟨xea,xen,xec⟩,xp,⟨xda,xdn,xdc⟩⟩:=x;obtain ⟨⟨yn,ya,yl,yc,yb,ym,yd⟩,⟨yea,yen,yec⟩,yp,⟨yda,ydn,ydc⟩⟩:=y;have HX:=Hi (Ext.refl w);have G1:=Hi hx.1;have G2:=Hi hy.1;have L1:=Hi hx.2.1;have L2:=Hi hx.2.2.2;have L3:=Hi hy.2.1;have L4:=Hi hy.2.2.2;have e1:=hx.2.2.1;have e2:=hy.2.2.1;simp only at G1 G2 L1 L2 L3 L4 e1 e2;subst e1;subst e2;clear hx hy;unfold ak;go_enter Tryz.func108,Tryz.ntmps108
 go_upto_region 1 with fail
 refine kQ ?_;intro w1 hE B2 B3 hz_w1 hr_w1;refine mV7 hE ?_ HX G1 G2 L1 L2 L3 L4;clear HX G1 G2 L1 L2 L3 L4;intro HX G1 G2 L1 L2 L3 L4;replace b_B2:=bX3 B2;replace b_B3:=bX3 B3
 go_wp2_with fail
 refine cM ((by have h:=nt ⟨xn,xa,xl,xc,xb,xm,xd⟩ ⟨yn,ya,yl,yc,yb,ym,yd⟩ _ _ _ G1.out G2.out;rw [decide_eq_true rfl] at h;exact h)) fun x2 w2 hE _=>?_
 refine mV7 hE ?_ B2 B3 HX L1 L2 L3 L4;clear B2 B3 HX L1 L2 L3 L4;intro B2 B3 HX L1 L2 L3 L4;replace b_B2:=bX3 B2;replace b_B3:=bX3 B3
 go_wp2_with fail
 refine cM ((by have h:=iF ⟨xea,xen,xec⟩ ⟨yea,yen,yec⟩ u u _ L1.out L3.out;rw [decide_eq_true rfl] at h;exact h)) fun x3 w3 hE _=>?_
 refine mV5 hE ?_ B2 B3 HX L2 L4;clear B2 B3 HX L2 L4;intro B2 B3 HX L2 L4;replace b_B2:=bX3 B2;replace b_B3:=bX3 B3
 go_wp2_with fail
 refine cM ((by have h:=iF ⟨xda,xdn,xdc⟩ ⟨yda,ydn,ydc⟩ d d _ L2.out L4.out;rw [decide_eq_true rfl] at h;exact h)) fun x4 w4 hE _=>?_
 replace HX:=hE.tr HX;go_wp2
 go_ret
 exact ⟨(),rfl,HX.out,trivial⟩
set_option maxRecDepth 100000
def z0:Rat:=((0:Int):Rat)
def o1:Rat:=((1:Int):Rat)
def t2:List Rat:=[((2:Int):Rat)]
theorem DW:dP 1 z0 o1=0:=by decide +kernel
theorem GQ:buD 1 z0 o1=t2:=by decide +kernel
theorem GP:chD 1 z0 o1=t2:=by decide +kernel
theorem DX:inQ 1 z0 o1=o1∧inE 1 z0=[o1]∧inD 1 z0 o1=t2:=by decide +kernel
theorem GO:dF o1 [o1] 1 t2=true:=by decide +kernel
theorem Et:SzL 1 t2:=fun x hx=>by rw [nXv.1 hx];exact Sz.int (z:=2) dZ
theorem Ew:FrB 3 t2:=FrB.of (k:=1) (n:=1) Et dZ
theorem Bv{K S n:Nat}{d:List Rat}(h:FrB S d)(hl:d.length≤n)(hn:n≤1000)(hK:KN K S n):FrK K d∧FrK K (Sg.sqfV d):=by
 obtain ⟨h0,D,h1,h2,h3⟩:=h;refine ⟨tA h0 h1 h2 h3 hl hK,?_⟩;by_cases hz:tz d=[]
 ·have e:Sg.sqfV d=[]:=by
   rw [←AY,hz];decide +kernel
  rw [e];exact ⟨1,1,nXe _,dZ,dZ,fun x hx=>by simp at hx,(hK.self (Nat.zero_le _):KZ K S 0).imp (fun h=>nXf (nXh _ zo) h) (fun h=>nXf (by simp;omega) h)⟩
 ·exact xA h1 h3 hz hl hn hK
theorem Ie{K S n:Nat}{d:List Rat}(h:FrB S d)(hl:d.length≤n)(hn:n≤1000)(hK:KN K S n)(h1:K≤3900000)(h2:(d.length+1)*(K / 3)≤25000000):DnK K d.length d:=⟨(Bv h hl hn hK).1,(Bv h hl hn hK).2,h1,h2⟩
def Ea(x:PH×Int)(_:World):Prop:=x.2=12∧x.1=PH0
theorem Ea.ext{x:PH×Int}{w w':World}(h:Ea x w)(_:Ext w w'):Ea x w':=h
instance {x:PH×Int} {w w':World}:Go.Front.Mv w w' (Ea x w) (Ea x w'):=⟨fun e h=>Ea.ext h e⟩

theorem mT(w:World):ak 45 [] w (fun _:Unit=>.bool true) (fun _ _=>True):=by
 have HX:=Hi (Ext.refl w);have Z0:Hid (Sz 1 z0):=Hi (Sz.int (z:=0) dZ);have Z1:Hid (Sz 1 o1):=Hi (Sz.int (z:=1) dZ);unfold ak;go_enter Tryz.func45,Tryz.ntmps45
 go_wp2_with fail
 refine cM (ce 0 _ dZ dZ) fun x1 w1 hE G1=>?_
 replace HX:=hE.tr HX;have hs_w1:=hE.size
 go_wp2_with fail
 refine cM (ce 1 _ dZ dZ) fun x2 w2 hE G2=>?_
 refine mV2 hE ?_ G1 HX;clear G1 HX;intro G1 HX;have hs_w2:=hE.size
 go_upto_region 2 with fail
 refine kQ ?_;intro w3 hE B1 B2 hz_w3 hr_w3;refine mV3 hE ?_ G2 G1 HX;clear G2 G1 HX;intro G2 G1 HX;replace b_B1:=bX3 B1;replace b_B2:=bX3 B2;have R0:Hid (aQ w3 x1 z0):=Hi (G1.out.raw Z0.out dZ);have R1:Hid (aQ w3 x2 o1):=Hi (G2.out.raw Z1.out dZ);have C1:Hid (aB w3 x2 o1):=Hi G2.out;clear G1;clear G2;obtain ⟨yn,ya,yl,yc,yb,ym,yd⟩:=x1;obtain ⟨xn,xa,xl,xc,xb,xm,xd⟩:=x2
 go_wp2_with fail
 refine cM (mw 1 ⟨yn,ya,yl,yc,yb,ym,yd⟩ ⟨xn,xa,xl,xc,xb,xm,xd⟩ z0 o1 1 _ R0.out R1.out Z0.out Z1.out dZ dZ) fun x4 w4 hE G4=>?_
 refine mV6 hE ?_ B1 B2 HX R0 R1 C1;clear B1 B2 HX R0 R1 C1;intro B1 B2 HX R0 R1 C1;have hs_w4:=hE.size;obtain ⟨⟨⟨a1,a2,a3,a4,a5,a6,a7⟩,⟨a8,a9,a10⟩,ap,⟨a11,a12,a13⟩⟩,e4⟩:=x4;obtain ⟨he,-,hp⟩:=G4.out;rw [DW] at he hp;have PA:Hid (uN w4 ⟨⟨a1,a2,a3,a4,a5,a6,a7⟩,⟨a8,a9,a10⟩,ap,⟨a11,a12,a13⟩⟩ o1 [o1] 1 t2):=Hi (by have h:=hp rfl;rw [show (1:Int).toNat=1 from rfl,GQ] at h;exact h);simp only at he;subst he;obtain rfl:ap=1:=PA.out.2.2.1;clear hp G4
 go_upto_region 3 with fail
 refine nmA ?_;intro w5 hE B3 hz_w5 hr_w5;refine mV7 hE ?_ B1 B2 HX R0 R1 C1 PA;clear B1 B2 HX R0 R1 C1 PA;intro B1 B2 HX R0 R1 C1 PA;replace b_B1:=bX3 B1;replace b_B2:=bX3 B2
 go_wp2_with fail
 refine cM (pU 1 ⟨yn,ya,yl,yc,yb,ym,yd⟩ ⟨xn,xa,xl,xc,xb,xm,xd⟩ z0 o1 1 _ R0.out R1.out Z0.out Z1.out dZ dZ) fun x6 w6 hE G6=>?_
 refine mV8 hE ?_ B3 B1 B2 HX R0 R1 C1 PA;clear B3 B1 B2 HX R0 R1 C1 PA;intro B3 B1 B2 HX R0 R1 C1 PA;have hs_w6:=hE.size;obtain ⟨⟨⟨b1,b2,b3,b4,b5,b6,b7⟩,⟨b8,b9,b10⟩,bp,⟨b11,b12,b13⟩⟩,e6⟩:=x6;obtain ⟨he,-,hp⟩:=G6.out;rw [DW] at he hp;have PB:Hid (uN w6 ⟨⟨b1,b2,b3,b4,b5,b6,b7⟩,⟨b8,b9,b10⟩,bp,⟨b11,b12,b13⟩⟩ o1 [o1] 1 t2):=Hi (by have h:=hp rfl;rw [show (1:Int).toNat=1 from rfl,GP] at h;exact h);simp only at he;subst he;obtain rfl:bp=1:=PB.out.2.2.1;clear hp G6
 go_upto_region 4 with fail
 refine nmA ?_;intro w7 hE B5 hz_w7 hr_w7;refine mV8 hE ?_ B3 B1 B2 HX R0 R1 C1 PA;clear B3 B1 B2 HX R0 R1 C1 PA;intro B3 B1 B2 HX R0 R1 C1 PA;replace PB:=mV hE PB;replace b_B1:=bX3 B1;replace b_B2:=bX3 B2
 go_wp2_with fail
 refine cM (s0 1 ⟨yn,ya,yl,yc,yb,ym,yd⟩ ⟨xn,xa,xl,xc,xb,xm,xd⟩ z0 o1 1 _ R0.out R1.out Z0.out Z1.out dZ dZ) fun x8 w8 hE G8=>?_
 refine mV8 hE ?_ B5 B3 B1 B2 HX C1 PA PB;clear B5 B3 B1 B2 HX C1 PA PB;intro B5 B3 B1 B2 HX C1 PA PB;have hs_w8:=hE.size;obtain ⟨⟨⟨c1,c2,c3,c4,c5,c6,c7⟩,⟨c8,c9,c10⟩,cp,⟨c11,c12,c13⟩⟩,e8⟩:=x8;obtain ⟨he,-,hp⟩:=G8.out;rw [DW] at he hp;have PC:Hid (uN w8 ⟨⟨c1,c2,c3,c4,c5,c6,c7⟩,⟨c8,c9,c10⟩,cp,⟨c11,c12,c13⟩⟩ o1 [o1] 1 t2):=Hi (by have h:=hp rfl;rw [show (1:Int).toNat=1 from rfl,DX.1,DX.2.1,DX.2.2] at h;exact h);simp only at he;subst he;obtain rfl:cp=1:=PC.out.2.2.1;clear hp G8
 go_upto_region 5 with fail
 refine nmA ?_;intro w9 hE B7 hz_w9 hr_w9;refine mV8 hE ?_ B5 B3 B1 B2 HX C1 PA PB;clear B5 B3 B1 B2 HX C1 PA PB;intro B5 B3 B1 B2 HX C1 PA PB;replace PC:=mV hE PC;replace b_B1:=bX3 B1;replace b_B2:=bX3 B2;have HX9:=Hi (Ext.refl w9);have PA9:=PA;have PB9:=PB;have PC9:=PC;have C19:=C1;clear PA;clear PB;clear PC;clear C1;clear R0;clear R1;refine aR [(8,6)] _ (by simp only [iI,lH,List.push_toArray,List.cons_append,List.nil_append];exact rfl) (by intro c a d v w h;cases d <;> exact h) 8 (fun opIx=>match opIx with
  | 2=>sR (((1:Int):Rat) / ((2:Int):Rat))
  | 3=>.spec (PH×Int) ((PH0,0)) (PE) (fun x w'=>Ea x w')
  | 7=>.alloc 64 #[.bool false,.slice none 0 0,.slice none 0 0,.slice none 0 0,.int .i64 0,.slice none 0 0]
  | _=>.quiet) (fun|3=>[2]|_=>[]) kZ kZ kZ (fun w0 he0 hz0 hc0 hf0=>?_)
 replace he0:=Hi he0;simp only [pT];refine qQ ?_;refine wps he0 (fun w1 hW hG=>?_) fun x30=>?_
 ·exact spc [.int .i64 1,.int .i64 2] Tryz.func54 (fY 1 2 _ dZ dZ dZ dZ)
 refine qZ ?_;refine wps he0 (fun w1 hW hG=>?_) fun x31=>?_
 ·obtain ⟨wa30,hwa30,g30⟩:mX _ _:=hG 2 dZ;exact spc [.int .i64 3,RH.v ⟨yn,ya,yl,yc,yb,ym,yd⟩,RH.v ⟨xn,xa,xl,xc,xb,xm,xd⟩,x30.v] Tryz.func55 (uw 3 ⟨yn,ya,yl,yc,yb,ym,yd⟩ ⟨xn,xa,xl,xc,xb,xm,xd⟩ x30 _ dZ dZ)
 refine qZ ?_;refine aM rfl rfl (fun w=>by simp [execOp,go_sem,ptr]) (fun b32 hb32 hl32=>?_);refine qZ ?_;refine aj ?_;intro w10 hI;have hE:=he0.out.trans hI.ext;have G31:=gT (hI.facts 3);have A32:Hid (w10.heap[b32]?=some (.cells #[.bool false,.slice none 0 0,.slice none 0 0,.slice none 0 0,.int .i64 0,.slice none 0 0] 64 (0,0))):=hI.facts 7;rw [hz0] at hl32;clear hI he0 hz0 hc0 hf0;refine mV6 hE ?_ B7 B5 B3 B2 HX HX9;clear B7 B5 B3 B2 HX HX9;intro B7 B5 B3 B2 HX HX9;replace b_A32:=bX3 A32;simp only [pD,ptr];obtain ⟨x31,e31⟩:=x31;obtain ⟨he,hp⟩:=G31.out;simp only at he hp;subst he;subst hp;clear G31;simp only [PH0,PE]
 go_upto_region 6 with fail
 refine bi A32.out rfl ?_;intro w11 T;replace HX:=Hi (T.ext HX.out zo);replace B2:=Hi (T.rest _ _ zo B2.out);replace B3:=Hi (T.rest _ _ zo B3.out);replace B5:=Hi (T.rest _ _ zo B5.out);replace B7:=Hi (T.rest _ _ zo B7.out);replace HX9:=Hi (T.ext HX9.out zo);clear T
 (try clear b_A32);(try clear A32)
 go_wp2_with fail
 refine cM (ce 2 _ dZ dZ) fun x12 w12 hE G12=>?_
 refine mV6 hE ?_ HX B2 B3 B5 B7 HX9;clear HX B2 B3 B5 B7 HX9;intro HX B2 B3 B5 B7 HX9
 go_upto_region 7 with fail
 refine nmA ?_;intro w13 hE B40 hz_w13 hr_w13;refine mV7 hE ?_ G12 HX B2 B3 B5 B7 HX9;clear G12 HX B2 B3 B5 B7 HX9;intro G12 HX B2 B3 B5 B7 HX9;replace b_B3:=bX3 B3;have LT:=Hi (qI B40.out G12.out)
 (try clear c_B40 f_B40 l_B40);(try clear B40)
 clear G12;have PA:=Hi (PA9.out.ext HX9.out);have PB:=Hi (PB9.out.ext HX9.out);have PC:=Hi (PC9.out.ext HX9.out);have C1:=Hi (C19.out.ext HX9.out);clear PA9 PB9 PC9 C19;clear HX9;obtain ⟨bl,hbl⟩:∃ b,b=w12.heap.size:=⟨_,rfl⟩;rw [←hbl] at LT ⊢;clear hbl
 go_wp2_with fail
 refine cM ((by have h:=iF ⟨a11,a12,a13⟩ ⟨some ⟨bl,0,none⟩,1,1⟩ t2 t2 _ PA.out.2.2.2 LT.out;rw [decide_eq_true rfl] at h;exact h)) fun x14 w14 hE _=>?_
 refine mV8 hE ?_ HX B2 B3 B5 B7 LT PA PB;clear HX B2 B3 B5 B7 LT PA PB;intro HX B2 B3 B5 B7 LT PA PB;refine mV2 hE ?_ PC C1;clear PC C1;intro PC C1;replace b_B3:=bX3 B3;replace b_B5:=bX3 B5
 go_wp2_with fail
 refine cM (pK ⟨⟨a1,a2,a3,a4,a5,a6,a7⟩,⟨a8,a9,a10⟩,1,⟨a11,a12,a13⟩⟩ ⟨⟨b1,b2,b3,b4,b5,b6,b7⟩,⟨b8,b9,b10⟩,1,⟨b11,b12,b13⟩⟩ o1 [o1] t2 1 _ PA.out PB.out) fun x15 w15 hE _=>?_
 refine mV8 hE ?_ HX B2 B3 B7 LT PA PC C1;clear HX B2 B3 B7 LT PA PC C1;intro HX B2 B3 B7 LT PA PC C1;replace b_B7:=bX3 B7
 go_wp2_with fail
 refine cM ((by have h:=iF ⟨c11,c12,c13⟩ ⟨some ⟨bl,0,none⟩,1,1⟩ t2 t2 _ PC.out.2.2.2 LT.out;rw [decide_eq_true rfl] at h;exact h)) fun x16 w16 hE _=>?_
 refine mV7 hE ?_ HX B2 B3 B7 PA PC C1;clear HX B2 B3 B7 PA PC C1;intro HX B2 B3 B7 PA PC C1;replace b_B2:=bX3 B2;replace b_B7:=bX3 B7
 go_wp2_with fail
 refine nmA (F:=fun W=>Calls _ _ _ W _) ?_;intro w17 hE B41 hz_w17 hr_w17;refine mV5 hE ?_ HX B3 PA PC C1;clear HX B3 PA PC C1;intro HX B3 PA PC C1
 change Calls _ _ _ _ _
 have LO:=Hi (qI (x:=⟨xn,xa,xl,xc,xb,xm,xd⟩) B41.out C1.out)
 (try clear c_B41 f_B41 l_B41);(try clear B41)
 refine cM ((by have h:=iF ⟨c8,c9,c10⟩ ⟨some ⟨w16.heap.size,0,none⟩,1,1⟩ [o1] [o1] _ PC.out.2.1 LO.out;rw [decide_eq_true rfl] at h;exact h)) fun x18 w18 hE _=>?_
 refine mV3 hE ?_ HX B3 PA;clear HX B3 PA;intro HX B3 PA;replace b_B3:=bX3 B3;have LD:=PA.out.2.2.2.len;have LE:=PA.out.2.1.len;simp only at LD LE;obtain rfl:a12=1:=LD.symm;obtain rfl:a9=1:=LE.symm;clear LD LE;have RP:Hid (m9 w18 ⟨⟨a1,a2,a3,a4,a5,a6,a7⟩,⟨a8,1,a10⟩,1,⟨a11,1,a13⟩⟩ o1 [o1] t2):=Hi ⟨PA.out.1.raw Z1.out dZ,PA.out.2.1.raw (k:=1) (fun x hx=>by rw [nXv.1 hx];exact Z1.out) dZ,PA.out.2.2.2.raw Et dZ⟩
 go_wp2_with fail
 refine cM ((by have h:=nz ⟨⟨a1,a2,a3,a4,a5,a6,a7⟩,⟨a8,1,a10⟩,1,⟨a11,1,a13⟩⟩ o1 [o1] t2 10000 _ RP.out (by show 1≤49;decide) (Ie Ew (n:=1) dZ dZ (by unfold KN;decide) dZ dZ);rw [show (PH.p ⟨⟨a1,a2,a3,a4,a5,a6,a7⟩,⟨a8,1,a10⟩,1,⟨a11,1,a13⟩⟩)=1 from rfl,GO] at h;exact h)) fun x20 w20 hE _=>?_
 replace HX:=hE.tr HX;go_wp2
 go_ret
 exact ⟨(),rfl,HX.out,trivial⟩
open Sg
def edQ(e:Int):Rat:=((e % 19-9:Int):Rat) / ((10:Int):Rat)
def riQ(r:Int):Rat:=((1+r % 30:Int):Rat) / ((10:Int):Rat)
def seQ(s:Int):Rat:=((1+s % 9:Int):Rat) / ((10:Int):Rat)
def zV(n:Int):Nat:=(1+n % 5).toNat
theorem Fu:∀ m:Nat,m<19→-1<(((m:Int)-9:Int):Rat) / ((10:Int):Rat)∧(((m:Int)-9:Int):Rat) / ((10:Int):Rat)<1∧((((m:Int)-9:Int):Rat) / ((10:Int):Rat)).num.natAbs<W32∧((((m:Int)-9:Int):Rat) / ((10:Int):Rat)).den<W32 ∧
  (aG ((((m:Int)-9:Int):Rat) / ((10:Int):Rat))).num.natAbs<W32∧(aG ((((m:Int)-9:Int):Rat) / ((10:Int):Rat))).den<W32∧(bkV ((((m:Int)-9:Int):Rat) / ((10:Int):Rat))).num.natAbs<W32∧(bkV ((((m:Int)-9:Int):Rat) / ((10:Int):Rat))).den<W32:=by decide +kernel
theorem EQ:∀ m:Nat,m<30→0<((1+(m:Int):Int):Rat) / ((10:Int):Rat)∧(((1+(m:Int):Int):Rat) / ((10:Int):Rat)).num.natAbs<W32∧(((1+(m:Int):Int):Rat) / ((10:Int):Rat)).den<W32:=by decide +kernel
theorem EL:∀ m:Nat,m<9→0<((1+(m:Int):Int):Rat) / ((10:Int):Rat)∧((1+(m:Int):Int):Rat) / ((10:Int):Rat)<1∧(((1+(m:Int):Int):Rat) / ((10:Int):Rat)).num.natAbs<W32∧(((1+(m:Int):Int):Rat) / ((10:Int):Rat)).den<W32:=by decide +kernel
theorem sz1{q:Rat}(h:q.num.natAbs<W32∧q.den<W32):Sz 1 q:=⟨by rw [Nat.pow_one];exact h.1,by rw [Nat.pow_one];exact h.2⟩
theorem fF(z m:Int)(hm:0<m):∃ n:Nat,z % m=(n:Int)∧(n:Int)<m:=by
 have h1:=Int.emod_nonneg z (show m≠0 by omega);have h2:=Int.emod_lt_of_pos z hm;exact ⟨(z % m).toNat,zo,zo⟩
structure EdF (e:Rat):Prop where
 lo:-1<e
 hi:e<1
 z:Sz 1 e
 w:Sz 1 (aG e)
 b:Sz 1 (bkV e)
theorem Fv(e:Int):EdF (edQ e):=by
 obtain ⟨m,h1,h2⟩:=fF e 19 dZ;unfold edQ;rw [h1];obtain ⟨a,b,c,d,f,g,i,j⟩:=Fu m zo;exact ⟨a,b,sz1 ⟨c,d⟩,sz1 ⟨f,g⟩,sz1 ⟨i,j⟩⟩
theorem ER(r:Int):0<riQ r∧Sz 1 (riQ r):=by
 obtain ⟨m,h1,h2⟩:=fF r 30 dZ;unfold riQ;rw [h1];obtain ⟨a,b⟩:=EQ m zo;exact ⟨a,sz1 b⟩
theorem EM(s:Int):0<seQ s∧seQ s<1∧Sz 1 (seQ s):=by
 obtain ⟨m,h1,h2⟩:=fF s 9 dZ;unfold seQ;rw [h1];obtain ⟨a,b,c⟩:=EL m zo;exact ⟨a,b,sz1 c⟩
theorem wt(n:Int):1≤zV n∧zV n≤5∧((zV n:Nat):Int)=1+n % 5:=by
 have h1:=Int.emod_nonneg n (show (5:Int)≠0 by decide);unfold zV;omega
theorem su{n:Nat}{e r:Rat}(h1:1≤n)(h5:n≤8)(he:EdF e)(hr:0<r):dP (n:Nat) e r=0:=by
 have e1:((1:Int):Rat)=1:=rfl;have e2:((-1:Int):Rat)=-1:=rfl;have a1:=he.lo;have a2:=he.hi;unfold dP;rw [if_neg zo,if_neg (fun h=>by rw [iX,o4,e1,e2] at h;grind),if_neg (fun h=>by rw [iX] at h;grind)]
def elN(n:Nat):Nat:=2+2*(n % 2)
theorem qz(n:Nat):elN n=2∨elN n=4:=by unfold elN;omega
def alG(k n:Nat)(e r:Rat):Rat:=if k=2 then inQ n e r else ((1:Int):Rat)
def alE(k n:Nat)(e q:Rat):List Rat:=if k=2 then inE n e else if k=3 then elE (elN n) e q else [((1:Int):Rat)]
def alP(k n:Nat):Int:=if k=2 then ((n % 2:Nat):Int) else if k=3 then 0 else (n:Int)
def alD(k n:Nat)(e r q:Rat):List Rat:=if k=0 then buD n e r else if k=1 then chD n e r else if k=2 then inD n e r else elD (elN n) e r q
def alI(k:Nat):Bool:=decide (k=2)
theorem FX{k n:Nat}{e r q:Rat}(hk:k<4)(h1:1≤n)(h5:n≤5)(he:EdF e)(hr:0<r)(h0:0<q)(hq:q<1):Prf (alI k) e r (alG k n e r) (alE k n e q) (alP k n) (alD k n e r q):=by
 have hh:k=0∨k=1∨k=2∨k=3:=by omega
 rcases hh with rfl|rfl|rfl|rfl
 ·exact uK h1 h5 ⟨he.lo,he.hi⟩ hr
 ·exact AM h1 h5 ⟨he.lo,he.hi⟩ hr
 ·exact Dc h1 h5 ⟨he.lo,he.hi⟩ hr
 ·exact Dn (qz n) ⟨he.lo,he.hi⟩ hr h0 hq
section
variable {A B:List Rat} (hA:Ei A) (hB:Ei B)
include hA hB
theorem oQ{g:List Rat}{c:Rat}{n s K:Nat}(hg:SzL s g)(hs:1≤s)(hc:Sz K c)(hn:n≤5):∀ j,j≤n+1→FrB (1+j*(30+(s+(K*5+1))+1)) (j7 A B g n c j):=by
 intro j;induction j with
 | zero=>intro _;exact FrB.nil.mono zo
 | succ j ih =>
  intro hj;have h1:=ih zo;have h2:Sz (s+(K*5+1)) (g.getD j 0*c ^ j):=(hg.getD hs j).mul ((hc.pow j).mono (by have:=nXg K (show j≤5 by omega);omega));have h3:=((lz hA hB (n:=n) (j:=j) zo zo).scP h2 zo);have e:(j+1)*(30+(s+(K*5+1))+1)=j*(30+(s+(K*5+1))+1)+(30+(s+(K*5+1))+1):=nXz _ _;exact (h1.add h3).mono (by rw [e];omega)
end
theorem Ba:∀ n:Nat,n<6→1≤n→SzL 1 (sqP n):=by
 intro n h1 h2;rcases Eh h2 zo with rfl|rfl|rfl|rfl|rfl
 ·rw [Ic];exact fun x hx=>sz1 (by revert x;decide +kernel)
 ·rw [Ib];exact fun x hx=>sz1 (by revert x;decide +kernel)
 ·rw [Ia];exact fun x hx=>sz1 (by revert x;decide +kernel)
 ·rw [H8];exact fun x hx=>sz1 (by revert x;decide +kernel)
 ·rw [Hw];exact fun x hx=>sz1 (by revert x;decide +kernel)
theorem mr{n:Nat}(hn:n≤5):FrB 13 (bF plQ n):=(cN (fP 1 dZ) dZ n zo).mono zo
theorem kF{n:Nat}(hn:n≤5):FrB 13 (bF miQ n):=(cN (fP (-1) dZ) dZ n zo).mono zo
theorem rB{c:Rat}{n:Nat}(h:Sz 1 c)(hn:n≤5):Sz 6 (c ^ n):=(h.pow n).mono zo
theorem r9{n:Nat}{e:Rat}(h1:1≤n)(h5:n≤5)(he:EdF e):FrB 229 (chW n e):=by
 have hl:=ij (n:=n) zo;exact (oQ bR bQ (Ba n zo h1) dZ he.w h5 _ hl).mono (by have:=nXh (30+(1+(1*5+1))+1) (show (sqP n).length≤6 by omega);omega)
theorem wY{n:Nat}{e:Rat}(h1:1≤n)(h5:n≤5)(he:EdF e):FrB 229 (inW n e):=by
 have hl:=ij (n:=n) zo;exact (oQ bQ bR (Ba n zo h1) dZ he.b h5 _ hl).mono (by have:=nXh (30+(1+(1*5+1))+1) (show (sqP n).length≤6 by omega);omega)
theorem De{n:Nat}{e:Rat}(h5:n≤5)(he:EdF e):FrB 115 (inE n e):=by
 have hl:=ou n;exact (oQ bQ bR (Bf (n:=n) zo) dZ he.b (show n / 2≤5 by omega) _ zo).mono (by have:=nXh (30+(1+(1*5+1))+1) (show (rtP n).length≤3 by omega);omega)
theorem Dd{n:Nat}{e:Rat}(h5:n≤5):(inE n e).length≤3:=nXf (el bQ bR _ _ (n / 2) _ (by rw [ou];exact nXe _)) zo
theorem r7{n:Nat}{e:Rat}(h5:n≤5):(chW n e).length≤6:=nXf (el bR bQ _ _ n _ (ij zo)) zo
theorem wX{n:Nat}{e:Rat}(h5:n≤5):(inW n e).length≤6:=nXf (el bQ bR _ _ n _ (ij zo)) zo
structure AlZ (g:Rat) (e d:List Rat) (p:Int):Prop where
 zg:Sz 3 g
 fe:FrB 115 e
 le:e.length≤3
 fd:FrB 450 d
 ld:d.length≤6
 p0:0≤p
 p5:p≤5
 lp:2*e.length+p.toNat≤7
theorem GJ{n:Nat}{e r:Rat}(h5:n≤5)(he:EdF e)(zr:Sz 1 r):FrB 450 (buD n e r)∧(buD n e r).length≤6:=by
 have h1:=(mr h5).add ((kF h5).scP (zr.mul (rB he.w h5)) zo);exact ⟨h1.mono zo,nXf (cO (n:=n+1) (gg n) (bh _ _ (eF n))) zo⟩
theorem GI{n:Nat}{e r:Rat}(h1:1≤n)(h5:n≤5)(he:EdF e)(zr:Sz 1 r):FrB 450 (chD n e r)∧(chD n e r).length≤6:=by
 have h2:=(mr h5).add ((r9 h1 h5 he).scP zr zo);exact ⟨h2.mono zo,cO (nXf (gg n) zo) (bh _ _ (r7 h5))⟩
theorem Gw{n:Nat}{e r:Rat}(h1:1≤n)(h5:n≤5)(he:EdF e)(zr:Sz 1 r):FrB 450 (inD n e r)∧(inD n e r).length≤6:=by
 have h2:=(kF h5).add ((wY h1 h5 he).scP zr zo);exact ⟨h2.mono zo,cO (nXf (eF n) zo) (bh _ _ (wX h5))⟩
theorem Fh{n:Nat}{e r:Rat}(he:EdF e)(zr:Sz 1 r):Sz 3 (inQ n e r):=by
 unfold inQ;split
 ·exact (zr.div he.w).mono zo
 ·exact zr.mono zo
theorem IE{k n:Nat}{e r q:Rat}(hk:k<4)(h1:1≤n)(h5:n≤5)(he:EdF e)(zr:Sz 1 r)(zq:Sz 1 q):AlZ (alG k n e r) (alE k n e q) (alD k n e r q) (alP k n):=by
 have hh:k=0∨k=1∨k=2∨k=3:=by omega
 have Z1:Sz 3 ((1:Int):Rat):=(Sz.int dZ:Sz 1 ((1:Int):Rat)).mono dZ;have F1:FrB 115 [((1:Int):Rat)]:=iQ.mono dZ;rcases hh with rfl|rfl|rfl|rfl
 ·obtain ⟨a,b⟩:=GJ h5 he zr;exact ⟨Z1,F1,show [((1:Int):Rat)].length≤3 by decide,a,b,Int.natCast_nonneg n,by show (n:Int)≤5;omega,by show 2*1+((n:Nat):Int).toNat≤7;omega⟩
 ·obtain ⟨a,b⟩:=GI h1 h5 he zr;exact ⟨Z1,F1,show [((1:Int):Rat)].length≤3 by decide,a,b,Int.natCast_nonneg n,by show (n:Int)≤5;omega,by show 2*1+((n:Nat):Int).toNat≤7;omega⟩
 ·obtain ⟨a,b⟩:=Gw h1 h5 he zr;have c:=Dd (e:=e) h5;exact ⟨Fh he zr,De h5 he,c,a,b,Int.natCast_nonneg _,by show ((n % 2:Nat):Int)≤5;omega,by show 2*(inE n e).length+((n % 2:Nat):Int).toNat≤7;omega⟩
 ·have hz:=Gd (r:=r) (qz n) he.z zr zq (nXe 1);obtain ⟨a,b⟩:=elEO_len (n:=elN n) e q;have c:=elD_len (n:=elN n) e r q;exact ⟨Z1,hz.fE.mono dZ,a,hz.fD.mono dZ,by show (elD (elN n) e r q).length≤6;omega,Int.le_refl 0,by show (0:Int)≤5;decide,by show 2*(elE (elN n) e q).length+(0:Int).toNat≤7;omega⟩
end Go.Proofs.YtafgmcimcbhhjaaGreat
