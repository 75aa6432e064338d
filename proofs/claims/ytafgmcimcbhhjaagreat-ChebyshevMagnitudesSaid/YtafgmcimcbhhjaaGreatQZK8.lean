/- unit, chain of package dspcompilerref06. -/
import Derived.Test.YtafgmcimcbhhjaaGreatQZK7
import Derived.Test.YtafgmcimcbhhjaaGreatQZK6
import Derived.Test.YtafgmcimcbhhjaaGreatQZK4
import Derived.Test.YtafgmcimcbhhjaaGreatQZM11
import Derived.Test.YtafgmcimcbhhjaaGreatQZK1
import Derived.Test.YtafgmcimcbhhjaaGreatQZK2
set_option linter.unusedVariables false
set_option maxHeartbeats 8000000
set_option maxRecDepth 8000
namespace Go.Proofs.YtafgmcimcbhhjaaGreat
open Go.RowKit Go.Front Go.Num Stab Sg
attribute [local go_sem] XW.cell XW.frozen
theorem LIn.oneb{w:World}{s:SH}{qs:List Rat}{lo hi B:Nat}(h:LIn w s qs lo hi)(hB:hi≤B):∃ b,b≠B∧lo≤b∧LIn w s qs b (b+1):=by
 obtain ⟨rs,h1,h2,h3⟩:=h;rcases h3 with h0|⟨b,off,e,h4,h5⟩
 ·exact ⟨lo+B+1,by omega,by omega,rs,h1,h2,Or.inl h0⟩
 ·exact ⟨b,by omega,h4,rs,h1,h2,Or.inr ⟨b,off,e,nXd _,Nat.lt_succ_self _⟩⟩
theorem i9(ao:Option Addr)(n cap:Nat)(l:List Rat)(S:Nat)(w:World)(h:cj w ⟨ao,n,cap⟩ l)(hn:n≤1000000)(hS:S≤8000000)(hz:SzL S l) :
  ar 138 [.slice ao n cap] w SH.v (fun x w'=>cK w.heap.size w' x (aR l)):=by
 have HX:=Hi (Ext.refl w);have LP:=Hi h.lin;have HSz:=Hi hz;have Hlen:=Hi h.len;simp only at Hlen;clear h hz;unfold ar;go_enter Tryz.func138,Tryz.ntmps138
 go_wp2_with fail
 refine cM (aZ ao n cap l _ (LP.out.can.raw HSz.out (by omega)) (by omega)) fun x4 w4 hE G4=>?_
 refine mV2 hE ?_ HX LP;clear HX LP;intro HX LP;have hs_w4:=hE.size;clear hE;obtain ⟨pa,P,pc⟩:=x4;have hP:=G4.out.len;simp only at hP;obtain ⟨p,hp⟩:∃ p,p=tz l:=⟨_,rfl⟩;rw [←hp] at G4 hP;have HTZ:=Hi hp;have HSp:Hid (SzL S p):=Hi (by rw [hp];exact SzL.tz HSz.out);have hPn:P≤n:=by rw [←hP,hp,←Hlen.out];exact ag l
 have hHP:=Hi hP;have HG:Hid (LIn w4 ⟨pa,P,pc⟩ p w.heap.size w4.heap.size):=Hi G4.out;clear hp hP Hlen;clear LP;clear G4;simp only [SH.v];by_cases h0:P=0
 case pos =>
  subst h0;have HV:Hid (aR l=[]):=Hi (eS.2 (by rw [←HTZ.out];exact nXi.1 hHP.out));go_wp2
  go_ret
  exact ⟨⟨none,0,0⟩,rfl,HX.out,by rw [HV.out];exact cK.nil _ _⟩
 obtain ⟨m,rfl⟩:∃ m,P=m+1:=⟨P-1,by omega⟩;have hz0:((m:Int)+1 == 0)=false:=by rw [nXr];omega
 have Hne:Hid (tz l≠[]):=Hi (by rw [←HTZ.out];intro h;have:=hHP.out;rw [h] at this;simp at this);have HL:Hid ((tz l).getLast?.getD 0=p.getD m 0):=Hi (by rw [←HTZ.out,List.getLast?_eq_getElem?,hHP.out,Nat.add_sub_cancel,←nXc]);have Zc:Hid (Sz S (p.getD m 0)):=Hi (HSp.out.at (by rw [hHP.out];omega));have Zb:Hid (Sz S (p.getD m 0).abs):=Hi Zc.out.abs;have ZI:Hid (Sz (1+S) (((1:Int):Rat) / (p.getD m 0).abs)):=Hi ((Sz.int (by decide)).div Zb.out);have HV:Hid (aR l=bQ p (((1:Int):Rat) / (p.getD m 0).abs)):=Hi (by
  unfold bQ;have h1:=fL l;unfold aR at h1 ⊢;rw [HL.out,←HTZ.out] at h1 ⊢;exact h1.symm)
 obtain ⟨b,off,r,hao,hbl,⟨hc1,hc2,hc3⟩,hPc⟩:=HG.out.celx (k:=m) (by omega);obtain ⟨rneg,ra,rn,rc,rb,rm,rd⟩:=r;simp only at hc1 hc2 hc3;have HC:=Hi hPc;clear hPc h0;subst hao
 go_upto_region 4 with fail
 refine wpG 11 (fun opIx=>match opIx with
  | 1=>.spec RH default RH.v (fun s w'=>aB w' s (((1:Int):Rat)))
  | 8=>.spec RH default RH.v (fun s w'=>aB w' s ((p.getD m 0).abs))
  | 9=>.spec RH default RH.v (fun s w'=>aB w' s (((1:Int):Rat) / (p.getD m 0).abs))
  | 10=>.spec (SH) (default) (SH.v) (fun x w'=>cK w.heap.size w' x (bQ p (((1:Int):Rat) / (p.getD m 0).abs)))
  | _=>.quiet) (fun|9=>[1,8]|10=>[9]|_=>[]) fun w0 he0 hz0 hc0 hf0=>?_
 refine wps he0.out rfl rfl (fun w1 hW hG=>?_) fun x20=>?_
 ·exact spc [.int .i64 1] Tryz.func36 (aL 1 _ (by decide) (by decide))
 refine qZ ?_;refine wps he0.out rfl rfl (fun w1 hW hG=>?_) fun x21=>?_
 ·exact spc [RH.v ⟨rneg,ra,rn,rc,rb,rm,rd⟩] Tryz.func188 (qW ⟨rneg,ra,rn,rc,rb,rm,rd⟩ _ _ ((HC.out.ext hW).raw Zc.out (by omega)))
 refine qZ ?_;refine wps he0.out rfl rfl (fun w1 hW hG=>?_) fun x22=>?_
 ·have g20:=(hG 1 (by decide):aP _ _).get fun _ e g=>g.ext e
  have g21:=(hG 8 (by decide):aP _ _).get fun _ e g=>g.ext e
  exact spc [x20.v,x21.v] Tryz.func35 (fu x20 x21 _ _ _ (g20.raw (Sz.int (by decide)) (by decide)) (g21.raw Zb.out (by omega)))
 refine qZ ?_;refine wps he0.out rfl rfl (fun w1 hW hG=>?_) fun x23=>?_
 ·have g22:=(hG 9 (by decide):aP _ _).get fun _ e g=>g.ext e
  exact spc [.slice (some ⟨b,off,none⟩) (m+1:Nat) pc,x22.v] Tryz.func51 ((ia (some ⟨b,off,none⟩) (m+1) pc p x22 (((1:Int):Rat) / (p.getD m 0).abs) _ ((HG.out.ext hW).can.raw HSp.out (by omega)) (g22.raw ZI.out (by omega)) (by omega) (HSp.out.mono (by omega)) (ZI.out.mono (by omega))).wk (fun _ _ _ h=>h.mono (by have:=hW.size;omega)))
 refine qZ ?_;refine am ?_;intro w5 hI;have hE:=he0.out.trans hI.ext;have G20:=gT (hI.facts 1);have G21:=gT (hI.facts 8);have G22:=gT (hI.facts 9);have G23:=gT (hI.facts 10);clear hI he0 hz0 hc0 hf0;refine mV3 hE ?_ HX HG HC;clear HX HG HC;intro HX HG HC;have hs_w5:=hE.size;clear hE;simp only [pD];clear hc1 hc2 hc3;go_wp2
 go_ret
 exact ⟨x23,rfl,HX.out,by rw [HV.out];exact G23.out⟩
def ChR(w:World)(v:SH)(ms:List (List Rat)):Prop:=v.n=ms.length∧∀ k,k<ms.length→∃ L a n c,v.a=some ⟨L,0,none⟩∧L<w.heap.size∧w.cell? ⟨L,k,none⟩=some (.slice a n c)∧cj w ⟨a,n,c⟩ (ms.getD k [])
theorem ChR.ext{w w':World}{v:SH}{ms:List (List Rat)}(h:ChR w v ms)(he:Ext w w'):ChR w' v ms :=
 ⟨h.1,fun k hk=>let ⟨L,a,n,c,h1,h2,h3,h4⟩:=h.2 k hk;⟨L,a,n,c,h1,nXm h2 he.size,he.cell h3,h4.ext he⟩⟩
instance {w w':World} {v:SH} {ms:List (List Rat)}:Go.Front.Mv w w' (ChR w v ms) (ChR w' v ms):=⟨fun e h=>ChR.ext h e⟩

theorem ChM.r{w:World}{lo B:Nat}{va:Option Addr}{vn vc m:Nat}{ms:List (List Rat)}(h:ChM w lo B (.slice va vn vc) ms)(hm:m≤ms.length):ChR w ⟨va,m,vc⟩ (ms.take m):=by
 have h1:=(ChM.at (va:=va) (vn:=vn) (vc:=vc) h).2;refine ⟨by rw [nXj];show m=_;omega,fun k hk=>?_⟩;rw [nXj] at hk;obtain ⟨L,a,n,c,e1,e2,e3,e4⟩:=h1 k (by omega);refine ⟨L,a,n,c,e1,e2,e3,?_⟩;rw [show (ms.take m).getD k []=ms.getD k [] by rw [nXc,nXc,List.getElem?_take_of_lt (by omega)]];exact e4
theorem ChM.le{w:World}{lo B n c:Nat}{va:Option Addr}{ms:List (List Rat)}(h:ChM w lo B (.slice va n c) ms):ms.length≤c:=by
 obtain ⟨xs,h1,h2,-⟩:=h;rcases h1 with ⟨e,rfl⟩|⟨L,cap,re,e,-,-,h3,-⟩
 ·rw [←h2];exact Nat.zero_le _
 ·simp only [Value.slice.injEq] at e;omega
theorem ChM.max{w:World}{lo B n c L:Nat}{ms:List (List Rat)}(h:ChM w lo B (.slice (some ⟨L,0,none⟩) n c) ms):c≤9223372036854775807:=by
 obtain ⟨xs,h1,h2,-⟩:=h;rcases h1 with ⟨e,rfl⟩|⟨L,cap,re,e,-,-,-,h3,-⟩
 ·simp at e
 ·simp only [Value.slice.injEq] at e;omega
theorem xW{w:World}{lo B:Nat}{xa xb:SH}{a b:List Rat}{ba bb:Nat}(hB:w.heap[B]?=some (.cells #[.slice xa.a xa.n xa.c,.slice xb.a xb.n xb.c] 24 (0,0)))(ha:LIn w xa a ba (ba+1))(hb:LIn w xb b bb (bb+1))(h1:ba≠B)(h2:bb≠B)(h3:lo≤ba)(h4:lo≤bb) :
  ChM w lo B (.slice (some ⟨B,0,none⟩) 2 2) [a,b]:=by
 refine ⟨[xa,xb],Or.inr ⟨B,2,#[],rfl,rfl,?_,nXd 2,by decide,rfl,rfl⟩,rfl,fun k hk=>?_⟩
 ·unfold SBk;rw [hB];rfl
 ·match k,hk with
  | 0,_=>exact ⟨ba,h1,h3,ha⟩
  | 1,_=>exact ⟨bb,h2,h4,hb⟩
def vJ:Rat:=((-1:Int):Rat)
def UEq(p q:List Rat):Prop:=Unit→aR p=aR q
def QrP(p q:List Rat)(x:SH×SH)(w:World):Prop:=cj w x.1 (bv p q)∧cj w x.2 (bq p q)
theorem QrP.ext{p q:List Rat}{x:SH×SH}{w w':World}(h:QrP p q x w)(he:Ext w w'):QrP p q x w':=⟨h.1.ext he,h.2.ext he⟩
instance {p q:List Rat} {x:SH×SH} {w w':World}:Go.Front.Mv w w' (QrP p q x w) (QrP p q x w'):=⟨fun e h=>QrP.ext h e⟩

def CnI(w wr:World)(K:Nat)(q:List Rat)(v:Value)(g:Nat):Prop:=∃ (N cap L fuel X:Nat) (ps:List (List Rat)) (a b:List Rat),v=.slice (some ⟨L,0,none⟩) (N+1+1:Nat) cap∧b.length=g∧w.heap.size≤L∧ChM wr w.heap.size L (.slice (some ⟨L,0,none⟩) (N+1+1:Nat) cap) (ps++[aR a,aR b])∧ps.length=N∧N+b.length≤1000∧RmI K a b X∧a≠[]∧a.length<fuel∧(ps++(chn fuel a b).map aR)=(cb q).map aR∧cap≤9223372036854775807
theorem ks(pa:Option Addr)(P pc:Nat)(p:List Rat)(S D K:Nat)(w:World)(h:cj w ⟨pa,P,pc⟩ p)(hP:P≤500)(h0:tz p≠[])(hS:1≤S)(hD:0<D)(hD2:D<W32 ^ S)(hf:∀ x ∈ p,Fr S D x)(hK:KZ K S P)(hK2:K≤7000000) :
  ar 75 [.slice pa P pc] w SH.v (fun x w'=>ChR w' x (f9 p)):=by
 have LP:=Hi h.lin;have HX:=Hi (Ext.refl w);have HPl:Hid (p.length=P):=Hi h.len;have HF:=Hi hf;obtain ⟨X0,hSX,hI0⟩:=j8 hS hD hf (by have:=h.len;simp only at this;omega) h0 (by have:=h.len;simp only at this;rw [this];exact hK);have HI0:=Hi hI0;clear hI0;have H0:=Hi h0;have hSK:S+2≤K:=by have:=HI0.out.small;omega
 have HSz:Hid (SzL S p):=Hi (mr hS hD hD2 hf);have HDF:Hid (∀ x ∈ tz (aM p),Fr (S+1) D x):=Hi (jG hf (by have:=h.len;simp only at this;omega));have hD3:D<W32 ^ (S+1):=nXm hD2 (nXo au (by omega));have HDZ:Hid (SzL (S+1) (tz (aM p))):=Hi (mr (by omega) hD hD3 HDF.out);have HDl:Hid ((tz (aM p)).length≤P):=Hi (by
  have h1:=HI0.out.2.2.2.2.2.2.1;rw [aK,aK,aF] at h1;have h2:=ag p;have h3:=HPl.out;rcases h1 with h1|h1
  ·exact absurd (bV.1 h1) h0
  ·omega)
 have HUD:Hid (aR (tz (aM p))=aR (aA (aM p))):=Hi (by rw [gq];unfold aR;rw [aF]);have HUP:Hid (aR p=aR (aA p)):=Hi (gq p).symm;clear h hf h0;unfold ar;go_enter Tryz.func75,Tryz.ntmps75
 go_wp2_with fail
 refine cM (i9 pa P pc p S _ LP.out.can (by omega) (by omega) HSz.out) fun x8 w8 hE G8=>?_
 refine mV2 hE ?_ LP HX;clear LP HX;intro LP HX;have hs_w8:=hE.size;clear hE
 go_wp2_with fail
 refine cM (lg pa P pc p _ LP.out.can (by omega) (HSz.out.mono (by omega))) fun x10 w10 hE G10=>?_
 refine mV3 hE ?_ G8 LP HX;clear G8 LP HX;intro G8 LP HX;have hs_w10:=hE.size;clear hE;obtain ⟨da,dn,dc⟩:=x10;have hdn:dn≤P:=by have h1:=G10.out.len;have h2:=HDl.out;simp only at h1;omega
 simp only [SH.v]
 go_wp2_with fail
 refine cM (i9 da dn dc (tz (aM p)) (S+1) _ G10.out.can (by omega) (by omega) HDZ.out) fun x11 w11 hE G11=>?_
 refine mV4 hE ?_ G10 G8 LP HX;clear G10 G8 LP HX;intro G10 G8 LP HX;have hs_w11:=hE.size;clear hE;rw [HUD.out] at G11;rw [HUP.out] at G8;obtain ⟨ba,hba,hba2,hla⟩:=LIn.oneb (B:=w11.heap.size) G8.out (nXd _);obtain ⟨bb,hbb,hbb2,hlb⟩:=LIn.oneb (B:=w11.heap.size) G11.out (nXd _);have LA:=Hi hla;have LB:=Hi hlb;have hs11:=HX.out.size;have hbb3:w.heap.size≤bb:=by have:=hs_w10;have:=hs_w8;omega
 clear hla hlb;clear G8;clear G10;clear G11;clear LP;obtain ⟨aa,an,ac⟩:=x8;obtain ⟨bao,bn,bc⟩:=x11;simp only [SH.v]
 go_upto_region 2 with fail
 refine nmA ?_;intro w12 hE BL hz_w12 hr_w12;refine mV3 hE ?_ HX LA LB;clear HX LA LB;intro HX LA LB;have hs_w12:=hE.size;clear hE;replace b_BL:=bX3 BL;obtain ⟨L,hL⟩:∃ L,L=w11.heap.size:=⟨_,rfl⟩;rw [←hL] at BL hba hbb ⊢;have hLw:w.heap.size≤L:=by omega
 have HC:Hid (ChM w12 w.heap.size L (.slice (some ⟨L,0,none⟩) 2 2) [aR (aA p),aR (aA (aM p))]):=Hi (xW (xa:=⟨aa,an,ac⟩) (xb:=⟨bao,bn,bc⟩) BL.out LA.out LB.out hba hbb hba2 hbb3);have HLb:Hid ((aA (aM p)).length≤900):=Hi (by rw [aK];have h2:=HDl.out;omega);clear b_BL hL;clear LA;clear LB
 (try clear b_BL);clear BL
 go_wp2
 go_loopg [3] (aA (aM p)).length (fun g v wr=>Ext w wr∧CnI w wr K p v g)
 case atStart=>exact ⟨HX.out,0,2,L,p.length+1,X0,[],aA p,aA (aM p),rfl,rfl,hLw,HC.out,rfl,by have:=HLb.out;omega,by have h:=HI0.out;rwa [qz] at h,fun k=>H0.out (bV.1 k),by rw [aK];have:=ag p;omega,rfl,by decide⟩
 case round =>
  obtain ⟨g1,N,cap,L,fuel,X,ps,a,b,rfl,hbg,hLw,g2,hps,hNb,g3,ha0,hfu,g4,hcap⟩:=hrel;clear HX HC;have HX:=Hi g1;have HC:=Hi g2;have HI:=Hi g3;have HE:=Hi g4;have Ha:=Hi ha0;have hat:=(ChM.at (va:=some ⟨L,0,none⟩) (vn:=N+1+1) (vc:=cap) g2).2;obtain ⟨L1,aa,an,ac,e1,hl1,hcell1,hcan1⟩:=hat N (by simp;omega);obtain ⟨L2,bao,bn,bc,e2,hl2,hcell2,hcan2⟩:=hat (N+1) (by simp;omega);obtain rfl:L=L1:=by simpa using e1
  obtain rfl:L=L2:=by simpa using e2
  rw [show (ps++[aR a,aR b]).getD N []=aR a by rw [←hps];simp] at hcan1;rw [show (ps++[aR a,aR b]).getD (N+1) []=aR b by rw [←hps];simp] at hcan2;have LA:=Hi hcan1;have LB:=Hi hcan2;have hbl:b.length=bn:=by have h1:=hcan2.len;rw [gZ,g3.2.1] at h1;exact h1
  have hal:a.length=an:=by have h1:=hcan1.len;rw [gZ,g3.1] at h1;exact h1
  have hN2:((N:Int)+1+1)-2=(N:Int):=by omega
  have hN3:(N:Int)+1<(N:Int)+1+1:=by omega
  have hN4:(N:Int)<(N:Int)+1+1:=by omega
  have hNc:N+1+1≤cap:=by have h1:=ChM.le g2;simp at h1;omega
  have hNc1:(0:Int)≤(N:Int)+1∧(N:Int)+1≤(cap:Int):=by omega
  clear g1 g2 g3 g4 ha0 hat e1 e2 hcan1 hcan2;by_cases h0:bn=0
  case pos =>
   subst h0;have hb:b=[]:=nXi.1 hbl;have HV:Hid ((ps++[aR a,aR b]).take (N+1)=f9 p):=Hi (by
    rw [lk,←HE.out,hb];obtain ⟨f2,rfl⟩:∃ f2,fuel=f2+1:=⟨fuel-1,by omega⟩;rw [dZ Ha.out,←hps];rw [List.take_append,nXl (Nat.le_succ _),show ps.length+1-ps.length=1 by omega];rfl)
   go_wp2
   go_ret
   exact ⟨⟨some ⟨L,0,none⟩,N+1,cap⟩,rfl,HX.out,by rw [←HV.out];exact ChM.r HC.out (by simp;omega)⟩
  have hbp:(0:Int)<(bn:Int):=by omega
  have Hb0:Hid (b≠[]):=Hi (by intro h;rw [h] at hbl;simp at hbl;omega);obtain ⟨e1,e2,e3,e4,e5,e6,e7,e8,e9⟩:=HI.out;obtain ⟨Da,u1,u2,u3⟩:=kA e3 e1 e5;obtain ⟨Db,v1,v2,v3⟩:=kA e4 e2 e5;have HT:Hid (tz a≠[]∧tz b≠[]):=Hi ⟨by rw [e1];exact Ha.out,by rw [e2];exact Hb0.out⟩;have HM0:Hid (tz (aR b)≠[]):=Hi (by rw [fL];exact fun h=>HT.out.2 (eS.1 h));have hdz:=HI.out.dsz;obtain ⟨s,r,f,hf,hdv⟩:=sx (sy e3 e4 e1 e2 Hb0.out);obtain ⟨hN,X2,hI2⟩:=HI.out.next Hb0.out hf hdv;rw [hN] at hI2;obtain ⟨c,hc⟩:∃ c,c=aA ((bq a b).map (·*-1)):=⟨_,rfl⟩;rw [←hc] at hI2;have HNX:=Hi hI2;have HCc:=Hi hc;have hml:(aR a).length=an:=by rw [gZ,e1];exact hal
  have HRS:Hid (SzL 7000000 (bq (aR a) (aR b))):=Hi ((oh u3 v3 HM0.out e5 e5 u1 u2 v1).mono (by rw [hml,←hal];omega));have HSS:Hid (SzL 7000001 (bQ (bq (aR a) (aR b)) vJ)):=Hi ((qK HRS.out (show Sz 1 vJ from nl)).mono (by omega));have HUC:Hid (UEq (bQ (bq (aR a) (aR b)) vJ) c):=Hi (fun _=>by rw [hc];exact uh HT.out.1 HT.out.2);have HRl:Hid ((bq (aR a) (aR b)).length≤1000):=Hi (by
   have h1:=(bW (aR a) HM0.out).1;rw [fL,gZ,e2] at h1;omega)
  have hcb:c.length<b.length:=by
   rcases hI2.2.2.2.2.2.2.1 with h|h
   ·exact absurd h Hb0.out
   ·exact h
  have HD3:Hid (X+(an+1)*(X+1)≤7000000):=Hi (by rw [←hal];omega);have han:an≤100000:=by rw [←hal];exact e8
  have hbn:bn≤1000:=by omega
  have HU3:=Hi u3;have HV3:=Hi v3;obtain ⟨qs,hqs⟩:∃ qs,qs=ps++[aR a,aR b]:=⟨_,rfl⟩;have hql:qs.length=N+1+1:=by rw [hqs];simp;omega
  rw [←hqs] at HC;have HQS:=Hi hqs;have HQL:=Hi hql;have Hps:=Hi hps;have Hbg:=Hi hbg;have Hbl:=Hi hbl;have hcg:c.length<gk:=by omega
  have hcN:N+1+c.length≤1000:=by omega
  have HLc:Hid (c.length<a.length∧b.length<fuel-1):=Hi (by
   have h1:=e7;rcases h1 with h|h
   ·exact absurd h Ha.out
   ·omega)
  clear hps hbg hbl hal hml hcb hNb;clear hc hqs hdv hN hI2 e1 e2 e3 e4 e6 e7 e8 e9 u3 v3 hdz hql h0 hf
  go_upto_region 3 with fail
  refine eP [(17,15),(17,16)] _ (by simp only [mJ,nK,List.push_toArray,List.cons_append,List.nil_append];exact rfl) (by intro c a d v w h;cases d <;> exact h) 17 (fun opIx=>match opIx with
   | 12=>.spec (SH×SH) ((default,default)) (QT) (fun x w'=>QrP (aR a) (aR b) x w')
   | _=>.quiet) (fun _=>[]) (by kernel_rfl) (by kernel_rfl) (by kernel_rfl) (fun w0 he0 hz0 hc0 hf0=>?_)
  replace he0:=Hi he0;simp only [pT];refine qQ ?_;refine wps he0.out rfl rfl (fun w1 hW hG=>?_) fun x40=>?_
  ·exact spc [.slice aa an ac,.slice bao bn bc] Tryz.func134 (nz aa bao an ac bn bc (aR a) (aR b) X X Da Db _ (LA.out.ext hW) (LB.out.ext hW) (by omega) (by omega) e5 e5 u1 u2 v1 v2 HU3.out HV3.out HM0.out (by have:=HD3.out;omega))
  refine qZ ?_;refine am ?_;intro w14 hI;have hE:=he0.out.trans hI.ext;have G40:=gT (hI.facts 12);clear hI he0 hz0 hc0 hf0;refine mV4 hE ?_ HX HC LA LB;clear HX HC LA LB;intro HX HC LA LB;have hs_w14:=hE.size;clear hE;simp only [pD];obtain ⟨xq,⟨ra,rn,rc⟩⟩:=x40;have HR1:=Hi G40.out.2.lin;have hrl:=G40.out.2.len;have hrn:rn≤1000:=by have:=HRl.out;simp only at hrl;omega
  clear G40 hrl;simp only [QT] at *
  go_wp2_with fail
  refine cM (aL (-1) _ (by decide) (by decide)) fun x50 w50 hE G50=>?_
  refine mV5 hE ?_ HX HC LA LB HR1;clear HX HC LA LB HR1;intro HX HC LA LB HR1;have hs_w50:=hE.size;clear hE
  go_wp2_with fail
  refine cM (ia ra rn rc (bq (aR a) (aR b)) x50 vJ _ (HR1.out.can.raw HRS.out (by omega)) (show aX _ x50 vJ from G50.out.raw nl (by decide)) (by omega) (HRS.out.mono (by omega)) ((show Sz 1 vJ from nl).mono (by omega))) fun x51 w51 hE G51=>?_
  refine mV6 hE ?_ G50 HX HC LA LB HR1;clear G50 HX HC LA LB HR1;intro G50 HX HC LA LB HR1;have hs_w51:=hE.size;clear hE;obtain ⟨sa,sn,sc⟩:=x51;have hsn:sn≤1000:=by
   have h1:=G51.out.len;have h2:=pq (bq (aR a) (aR b)) vJ;have h3:=HRl.out;simp only at h1;omega
  simp only [SH.v]
  go_wp2_with fail
  refine cM (i9 sa sn sc (bQ (bq (aR a) (aR b)) vJ) 7000001 _ G51.out.can (by omega) (by omega) HSS.out) fun x52 w52 hE G52=>?_
  refine mV7 hE ?_ G51 G50 HX HC LA LB HR1;clear G51 G50 HX HC LA LB HR1;intro G51 G50 HX HC LA LB HR1;have hs_w52:=hE.size;clear hE;rw [HUC.out ()] at G52;have hLr:L<wr.heap.size:=hl1;obtain ⟨bm,hbm,hbm2,hlm⟩:=LIn.oneb (B:=w52.heap.size) G52.out (nXd _);have LM:=Hi hlm;clear hlm;obtain ⟨ma,mn,mc⟩:=x52;simp only [SH.v];clear G51;clear G52;clear G50;clear HR1;clear LA;clear LB
  go_wp2_with (at_builtin;refine iI rfl (.tmp 38) (.tmp 43) 93 Tryz.underlying93 rfl w.heap.size L (.slice (some ⟨L,0,none⟩) (N+1+1:Nat) cap) qs ⟨ma,mn,mc⟩ (aR c) bm rfl HC.out LM.out (by omega) (by omega) rfl (by rw [HQL.out];omega) ?_;intro L2 cap2 y1 q1 q2 q3 q4)
  have HX2:=Hi (q2.ext HX.out (by omega));have HC2:=Hi q1;have hL2:w.heap.size≤L2:=by omega
  clear q1 q2 q3 q4 HX HC;obtain ⟨f2,rfl⟩:∃ f2,fuel=f2+1:=⟨fuel-1,by omega⟩;go_wp2
  go_roundg c.length
  case measure=>exact hcg
  case rel =>
   have hl:qs.length+1=N+1+1+1:=by rw [HQL.out]
   refine ⟨HX2.out,N+1,cap2,L2,f2,X2,ps++[aR a],b,c,?_,rfl,hL2,?_,?_,hcN,HNX.out,Hb0.out,?_,?_,?_⟩
   ·first|(rw [←hl];rfl)|simp [HQL.out]
   ·have h:=HC2.out;rw [hl,HQS.out] at h;rw [List.append_assoc] at h ⊢;exact h
   ·rw [nXh,Hps.out];rfl
   ·have:=HLc.out.2;omega
   ·have h:=HE.out;rw [eF Ha.out Hb0.out,←HCc.out,List.map_cons] at h;rw [List.append_assoc];exact h
   ·exact ChM.max HC2.out
structure Mz (ms:List (List Rat)) (x:Rat):Prop where
 ln:ms.length≤1000
 mm:∀ k,k<ms.length→(ms.getD k []).length≤100∧SzL 40000000 (ms.getD k [])∧∀ j,j≤(ms.getD k []).length→Sz 40000000 (evV ((ms.getD k []).drop j) x)
theorem ChR.at{w:World}{va:Option Addr}{vn vc k:Nat}{ms:List (List Rat)}(h:ChR w ⟨va,vn,vc⟩ ms)(hk:k<ms.length):∃ L a n c,va=some ⟨L,0,none⟩∧L<w.heap.size∧w.cell? ⟨L,k,none⟩=some (.slice a n c)∧cj w ⟨a,n,c⟩ (ms.getD k []):=h.2 k hk
theorem nR(v:SH)(ms:List (List Rat))(t:RH)(x:Rat)(w:World)(hc:ChR w v ms)(hz:Mz ms x)(ht:aB w t x)(hx:Sz 10000000 x) :
  ar 137 [v.v,t.v] w (fun _:Unit=>.int .i64 (eI ms x)) (fun _ _=>True):=by
 obtain ⟨va,vn,vc⟩:=v;obtain ⟨tn,ta,tl,tc,tb,tm,td⟩:=t;have HX:=Hi (Ext.refl w);have HC:=Hi hc;have HT:=Hi ht;have ZX:=Hi hx;have HM:=Hi hz;obtain rfl:vn=ms.length:=hc.1;have hl:=hz.ln;clear hc ht hx hz;unfold ar;go_enter Tryz.func137,Tryz.ntmps137;simp only [SH.v]
 go_upto_region 1 with fail
 refine nmA ?_;intro w1 hE B3 hz_w1 hr_w1;refine mV3 hE ?_ HX HC HT;clear HX HC HT;intro HX HC HT;have hs_w1:=hE.size;clear hE;obtain ⟨c_B3,f_B3,l_B3⟩:=bX3 B3;obtain ⟨b3,hb3⟩:∃ b3,b3=w.heap.size:=⟨_,rfl⟩;have hb3w:b3<w1.heap.size:=by omega
 rw [←hb3] at B3 ⊢;clear c_B3 f_B3 l_B3;have c_B3:=ab B3.out;have f_B3:=ae B3.out;clear hb3;go_wp2
 go_loopg [5,6,12] ms.length (fun g cv lv iv wr=>∃ (k cnt:Nat) (la:Int),k+g=ms.length∧iv=.int .i64 (k:Nat)∧cv=.int .i64 (cnt:Nat)∧lv=.int .i64 la∧Ext w wr∧Ext w1 wr∧cnt+vr la ((ms.drop k).map fun m=>Sg.sg (evV m x))=eI ms x∧cnt≤k∧IsS la)
 case atStart=>exact ⟨0,0,0,by omega,rfl,rfl,rfl,HX.out,Ext.refl _,by rw [Nat.zero_add];rfl,nXd _,Or.inr (Or.inl rfl)⟩
 case round =>
  obtain ⟨k,cnt,la,hk,rfl,rfl,rfl,g1,g2,g3,g4,g5⟩:=hrel;clear HX;have HX:=Hi g1;have HX7:=Hi g2;have HC2:=Hi (HC.out.ext g2);have HT2:=Hi (HT.out.ext g2);have B32:=Hi (g2.block B3.out);have HV:=Hi g3;have HLA:=Hi g5;have hb3r:=g2.size;clear g1 g2 g3 g5 c_B3 f_B3;replace b_B32:=bX3 B32;by_cases h0:gk=0
  case pos =>
   subst h0;obtain rfl:k=ms.length:=by omega
   have HE:Hid (cnt=eI ms x):=Hi (by have:=HV.out;rw [List.drop_length,List.map_nil] at this;exact this);have hin:¬ ((ms.length:Nat):Int)<(ms.length:Nat):=by omega
   go_wp2
   go_ret
   exact ⟨(),by rw [HE.out];rfl,HX.out,trivial⟩
  have hin:(k:Int)<(ms.length:Nat):=by omega
  have hkn:k<ms.length:=by omega
  obtain ⟨L,a,n,c,hva,hLl,hcell,hcan⟩:=HC2.out.at (k:=k) hkn;subst hva;have HL:=Hi hcan;have HMk:=Hi (HM.out.mm k hkn);have hn:n≤100:=by have h1:=hcan.len;have h2:=HMk.out.1;simp only at h1;omega
  have HD:=Hi (uR (fun m=>Sg.sg (evV m x)) ms [] hkn);have HZ0:Hid (Sz 40000000 (evV (ms.getD k []) x)):=Hi (HMk.out.2.2 0 (Nat.zero_le _));clear hcan
  go_wp2_with fail
  refine cM (gP a n c (ms.getD k []) ⟨tn,ta,tl,tc,tb,tm,td⟩ x _ HL.out HT2.out hn HMk.out.2.1 ZX.out HMk.out.2.2) fun x18 w18 hE G18=>?_
  refine mV6 hE ?_ HX HX7 HC2 HT2 B32 HL;clear HX HX7 HC2 HT2 B32 HL;intro HX HX7 HC2 HT2 B32 HL;have hs_w18:=hE.size;clear hE;replace b_B32:=bX3 B32
  go_wp2_with fail
  refine cM (bK x18 (evV (ms.getD k []) x) _ (G18.out.raw HZ0.out (by decide))) fun x19 w19 hE _=>?_
  refine mV7 hE ?_ G18 HX HX7 HC2 HT2 B32 HL;clear G18 HX HX7 HC2 HT2 B32 HL;intro G18 HX HX7 HC2 HT2 B32 HL;have hs_w19:=hE.size;clear hE;replace b_B32:=bX3 B32;rw [gR];rw [HD.out] at HV;have hs:=pk (evV (ms.getD k []) x);obtain ⟨s,es⟩:∃ s,s=Sg.sg (evV (ms.getD k []) x):=⟨_,rfl⟩;rw [←es] at HV hs ⊢;have HS:=Hi hs;clear es HD hcell HZ0 HMk;clear HL;clear G18;obtain ⟨rl,hrl⟩:∃ rl,rl=(ms.drop (k+1)).map fun m=>Sg.sg (evV m x):=⟨_,rfl⟩
  rw [←hrl] at HV;have HRL:=Hi hrl;have hla:=HLA.out;clear hrl;have fin:∀ (cnt2:Nat) (s2:Int),cnt2+vr s2 rl=eI ms x→cnt2+vr s2 ((ms.drop (k+1)).map fun m=>Sg.sg (evV m x))=eI ms x:=fun cnt2 s2 h=>by rw [←HRL.out];exact h
  have FIN:=Hi fin;clear fin;rcases hs with rfl|rfl|rfl
  ·rcases hla with rfl|rfl|rfl
   ·have HV2:Hid (cnt+vr (-1) rl=eI ms x):=Hi (by have:=HV.out;simpa [vr] using this);clear HV;go_wp2
    go_roundg (gk-1)
    case measure=>omega
    case rel=>exact ⟨k+1,cnt,-1,by omega,by go_num,rfl,rfl,HX.out,HX7.out,FIN.out _ _ HV2.out,by omega,HS.out⟩
   ·have HV2:Hid (cnt+vr (-1) rl=eI ms x):=Hi (by have:=HV.out;simpa [vr] using this);clear HV;go_wp2
    go_roundg (gk-1)
    case measure=>omega
    case rel=>exact ⟨k+1,cnt,-1,by omega,by go_num,rfl,rfl,HX.out,HX7.out,FIN.out _ _ HV2.out,by omega,HS.out⟩
   ·have HV2:Hid ((cnt+1)+vr (-1) rl=eI ms x):=Hi (by have:=HV.out;simp [vr] at this;omega);clear HV;go_wp2
    go_roundg (gk-1)
    case measure=>omega
    case rel=>exact ⟨k+1,cnt+1,-1,by omega,by go_num,by go_num,rfl,HX.out,HX7.out,FIN.out _ _ HV2.out,by omega,HS.out⟩
  ·have HV2:Hid (cnt+vr la rl=eI ms x):=Hi (by have:=HV.out;rw [show vr la (0 :: rl)=vr la rl by simp [vr]] at this;exact this);clear HV;go_wp2
   go_roundg (gk-1)
   case measure=>omega
   case rel=>exact ⟨k+1,cnt,la,by omega,by go_num,rfl,rfl,HX.out,HX7.out,FIN.out _ _ HV2.out,by omega,HLA.out⟩
  ·rcases hla with rfl|rfl|rfl
   ·have HV2:Hid ((cnt+1)+vr 1 rl=eI ms x):=Hi (by have:=HV.out;simp [vr] at this;omega);clear HV;go_wp2
    go_roundg (gk-1)
    case measure=>omega
    case rel=>exact ⟨k+1,cnt+1,1,by omega,by go_num,by go_num,rfl,HX.out,HX7.out,FIN.out _ _ HV2.out,by omega,HS.out⟩
   ·have HV2:Hid (cnt+vr 1 rl=eI ms x):=Hi (by have:=HV.out;simpa [vr] using this);clear HV;go_wp2
    go_roundg (gk-1)
    case measure=>omega
    case rel=>exact ⟨k+1,cnt,1,by omega,by go_num,rfl,rfl,HX.out,HX7.out,FIN.out _ _ HV2.out,by omega,HS.out⟩
   ·have HV2:Hid (cnt+vr 1 rl=eI ms x):=Hi (by have:=HV.out;simpa [vr] using this);clear HV;go_wp2
    go_roundg (gk-1)
    case measure=>omega
    case rel=>exact ⟨k+1,cnt,1,by omega,by go_num,rfl,rfl,HX.out,HX7.out,FIN.out _ _ HV2.out,by omega,HS.out⟩
end Go.Proofs.YtafgmcimcbhhjaaGreat
/- Eval of the reference's polynomials, of any form. -/
namespace Go.Proofs.YtafgmcimcbhhjaaGreat
open Go.RowKit Go.Front Go.Num Stab
attribute [local go_sem] XW.cell XW.frozen
theorem fi(ao:Option Addr)(n c:Nat)(l:List Rat)(t:RH)(x:Rat)(w:World)(h:cU w ⟨ao,n,c⟩ l)(ht:aX w t x)(hn:n≤100)(hl:SzL 40000000 l)(hx:Sz 10000000 x)(hE:∀ k,k≤l.length→Sz 40000000 (evV (l.drop k) x)) :
  ar 50 [.slice ao n c,t.v] w RH.v (fun y w'=>aB w' y (evV l x)):=by
 obtain ⟨tn,ta,tl,tc,tb,tm,td⟩:=t;have HX:=Hi (Ext.refl w);have H:=Hi h;have HT0:=Hi ht;have HZ:=Hi hl;have ZX:=Hi hx;have HLn:=Hi h.len;have HEs:=Hi hE;simp only at HLn;clear h ht hl hx hE;unfold ar;go_enter Tryz.func50,Tryz.ntmps50
 go_upto_region 1 with fail
 refine nk ?_;intro w1 hE B3 B4 hz_w1 hr_w1;replace HX:=hE.tr HX;have hs_w1:=hE.size;clear hE;replace b_B3:=bX3 B3;replace b_B4:=bX3 B4
 go_wp2_with fail
 refine cM (aL 0 _ (by decide) (by decide)) fun x7 w7 hE G7=>?_
 refine mV3 hE ?_ B3 B4 HX;clear B3 B4 HX;intro B3 B4 HX;have hs_w7:=hE.size;clear hE;replace b_B3:=bX3 B3;replace b_B4:=bX3 B4
 go_upto_region 2 with fail
 refine nmA ?_;intro w8 hE B5 hz_w8 hr_w8;refine mV4 hE ?_ G7 B3 B4 HX;clear G7 B3 B4 HX;intro G7 B3 B4 HX;have hs_w8:=hE.size;clear hE;replace b_B3:=bX3 B3;replace b_B4:=bX3 B4;replace b_B5:=bX3 B5;obtain ⟨b3,hb3⟩:∃ b,b=w.heap.size:=⟨_,rfl⟩;obtain ⟨b4,hb4⟩:∃ b,b=w.heap.size+1:=⟨_,rfl⟩;obtain ⟨b5,hb5⟩:∃ b,b=w7.heap.size:=⟨_,rfl⟩;have hw3:w.heap.size≤b3:=by omega
 have hw4:w.heap.size≤b4:=by omega
 have hw5:w.heap.size≤b5:=by omega
 have h34:b3≠b4:=by omega
 have h35:b3≠b5:=by omega
 have h45:b4≠b5:=by omega
 rw [←hb4] at B4 ⊢;rw [←hb3] at B3 ⊢;rw [←hb5] at B5 ⊢;clear hb3 hb4 hb5 b_B3 b_B4 b_B5;have HY:Hid (aB w8 x7 (evV (l.drop n) x)):=Hi (by rw [List.drop_eq_nil_of_le (by rw [HLn.out];exact nXd _)];exact G7.out);go_wp2
 go_loopg [6] n (fun g v wr=>∃ (y:RH),v=.int .i64 ((g:Int)-1)∧g≤n∧Ext w wr∧wr.heap[b3]?=some (.cells #[.bool tn,.slice ta tl tc,.slice tb tm td] 34 (0,0))∧wr.heap[b4]?=some (.cells #[.bool false,.slice none 0 0,.slice none 0 0] 34 (0,0))∧wr.heap[b5]?=some (.cells #[.bool y.neg,.slice y.a y.n y.c,.slice y.b y.m y.d] 34 (0,0))∧aB wr y (evV (l.drop g) x))
 case atStart=>exact ⟨x7,rfl,nXd _,HX.out,B3.out,B4.out,B5.out,HY.out⟩
 case round =>
  obtain ⟨⟨yn,ya,yl,yc,yb,ym,yd⟩,rfl,hg,g1,g4,g5,g6,g7⟩:=hrel;clear HX B3 B4 B5 HY G7;have HX:=Hi g1;have LA:=Hi (H.out.ext g1);have HT:=Hi (HT0.out.ext g1);have B3:=Hi g4;have B4:=Hi g5;have B5:=Hi g6;have HY:=Hi g7;clear g1 g4 g5 g6 g7;replace b_B3:=bX3 B3;replace b_B4:=bX3 B4;replace b_B5:=bX3 B5;by_cases h0:gk=0
  case pos =>
   subst h0;clear LA;clear HT;have hneg:¬ (0:Int)≤((0:Nat):Int)-1:=by omega
   go_wp2;refine cE (F:=fun W=>bodyPost _ _ _ _ _ W) B4.out rfl ?_;intro w9 T;replace HX:=Hi (T.ext HX.out (by omega));replace HY:=Hi (HY.out.keep T.keep);replace B3:=Hi (T.rest _ _ (by omega) B3.out);replace B4:=Hi (T.bx);replace B5:=Hi (T.rest _ _ (by omega) B5.out);have hs_w9:=nle T.size;have hr_w9:=nle T.size.symm;clear T;replace b_B3:=bX3 B3;replace b_B4:=bX3 B4;replace b_B5:=bX3 B5;exact bodyPost_ret (v:=RH.v ⟨yn,ya,yl,yc,yb,ym,yd⟩) (by simp [results,Tryz.results50,go_sem,b_B4.1]) rfl ⟨⟨yn,ya,yl,yc,yb,ym,yd⟩,rfl,HX.out,HY.out⟩
  obtain ⟨k,rfl⟩:∃ k,gk=k+1:=⟨gk-1,by omega⟩;have hk1:((k+1:Nat):Int)-1=(k:Nat):=by omega
  rw [hk1];have hkn:k<n:=by omega
  have hk0:(0:Int)≤(k:Nat):=by omega
  have hin:(k:Int)<n:=by omega
  have ZY:Hid (Sz 40000000 (evV (l.drop (k+1)) x)):=Hi (HEs.out (k+1) (by rw [HLn.out];omega));have HE:=Hi (jC l x (k:=k) (by rw [HLn.out];exact hkn));have ZK:Hid (Sz 40000000 (l.getD k 0)):=Hi (HZ.out.at (by rw [HLn.out];exact hkn));obtain ⟨ba,oa,r,hao,hbl,⟨hc1,hc2,hc3⟩,hPc⟩:=LA.out.cells' (k:=k) hkn;obtain ⟨rneg,ra,rn,rc,rb,rm,rd⟩:=r;simp only at hc1 hc2 hc3;have HC:=Hi hPc;clear hPc;subst hao
  go_upto_region 5 with fail
  refine wpG 8 (fun opIx=>match opIx with
   | 2=>.spec RH default RH.v (fun s w'=>aB w' s (evV (l.drop (k+1)) x*x))
   | 7=>.spec RH default RH.v (fun s w'=>aB w' s (evV (l.drop (k+1)) x*x+l.getD k 0))
   | _=>.quiet) (fun|7=>[2]|_=>[]) fun w0 he0 hz0 hc0 hf0=>?_
  refine wps he0.out rfl rfl (fun w1 hW hG=>?_) fun x30=>?_
  ·exact spc [RH.v ⟨yn,ya,yl,yc,yb,ym,yd⟩,RH.v ⟨tn,ta,tl,tc,tb,tm,td⟩] Tryz.func48 (dI _ _ _ _ _ ((HY.out.ext hW).raw ZY.out (by decide)) (HT.out.ext hW))
  refine qZ ?_;refine wps he0.out rfl rfl (fun w1 hW hG=>?_) fun x31=>?_
  ·have g30:=(hG 2 (by decide):aP _ _).get fun _ e g=>g.ext e
   exact spc [x30.v,RH.v ⟨rneg,ra,rn,rc,rb,rm,rd⟩] Tryz.func46 (fd x30 _ _ _ _ (g30.raw (ZY.out.mul ZX.out) (by decide)) (HC.out.ext hW))
  refine qZ ?_;refine am ?_;intro w14 hI;have hE:=he0.out.trans hI.ext;have G30:=gT (hI.facts 2);have G31:=gT (hI.facts 7);clear hI he0 hz0 hc0 hf0;refine mV8 hE ?_ LA HX B3 B4 B5 HY HT HC;clear LA HX B3 B4 B5 HY HT HC;intro LA HX B3 B4 B5 HY HT HC;have hs_w14:=hE.size;clear hE;replace b_B3:=bX3 B3;replace b_B4:=bX3 B4;replace b_B5:=bX3 B5;simp only [pD];clear hc1 hc2 hc3;rw [←HE.out] at G31;clear LA;clear HT;clear HC
  go_upto_region 4 with fail
  refine cE B5.out rfl ?_;intro w15 T;replace HX:=Hi (T.ext HX.out (by omega));replace HY:=Hi (HY.out.keep T.keep);replace B3:=Hi (T.rest _ _ (by omega) B3.out);replace B4:=Hi (T.rest _ _ (by omega) B4.out);replace B5:=Hi (T.bx);replace G30:=Hi (G30.out.keep T.keep);replace G31:=Hi (G31.out.keep T.keep);have hs_w15:=nle T.size;have hr_w15:=nle T.size.symm;clear T;replace b_B3:=bX3 B3;replace b_B4:=bX3 B4;replace b_B5:=bX3 B5;go_wp2
  go_roundg k
  case measure=>omega
  case rel=>exact ⟨x31,by go_num,by omega,HX.out,B3.out,B4.out,B5.out,G31.out⟩
end Go.Proofs.YtafgmcimcbhhjaaGreat
/- newChain of package sturm. -/
namespace Go.Proofs.YtafgmcimcbhhjaaGreat
open Go.RowKit Go.Front Go.Num Stab Sg
attribute [local go_sem] XW.cell XW.frozen
theorem lC(ms:List (List Rat))(x:Rat):eI ms x≤ms.length:=by
 unfold eI;have:∀ (l:List Int) (z:Int),vr z l≤l.length:=by
  intro l;induction l with
  | nil=>intro z;exact nXd _
  | cons s l ih =>
   intro z;have h1:=ih z;have h2:=ih s;unfold vr;rw [List.length_cons];split
   ·omega
   ·split <;> omega
 have h:=this (ms.map fun m=>Sg.sg (evV m x)) 0
 rwa [nXk] at h
theorem xV:∀ (n:Nat) (a b:List Rat),(chn n a b).length≤n:=by
 intro n;induction n with
 | zero=>intro a b;exact nXd _
 | succ n ih =>
  intro a b;by_cases ha:a=[]
  ·rw [show chn (n+1) a b=[] by simp [chn,ha]];exact Nat.zero_le _
  ·by_cases hb:b=[]
   ·subst hb;rw [dZ ha];simp
   ·rw [eF ha hb,List.length_cons];exact Nat.succ_le_succ (ih _ _)
theorem xU{L:Nat}:∀ (n:Nat) (a b:List Rat),a.length≤L→b.length≤L→tz b=b→∀ m ∈ chn n a b,m.length≤L:=by
 intro n;induction n with
 | zero=>intro a b _ _ _ m hm;simp [chn] at hm
 | succ n ih =>
  intro a b ha hb ht m hm;by_cases ha0:a=[]
  ·rw [show chn (n+1) a b=[] by simp [chn,ha0]] at hm;simp at hm
  ·by_cases hb0:b=[]
   ·subst hb0;rw [dZ ha0] at hm;obtain rfl:m=a:=by simpa using hm
    exact ha
   ·rw [eF ha0 hb0] at hm;rcases List.mem_cons.1 hm with rfl|hm
    ·exact ha
    ·have:=qU a b (by rw [ht];exact hb0);rw [ht] at this;exact ih _ _ hb (by omega) (bC _) m hm
theorem n9(p:List Rat):(cb p).length≤p.length+1:=xV _ _ _
theorem nZ{p:List Rat}(h:tz p≠[]):∀ m ∈ cb p,m.length≤p.length:=by
 refine xU _ _ _ ?_ ?_ (bC _)
 ·rw [aK];exact ag p
 ·rw [aK];have:=k9 h;omega
end Go.Proofs.YtafgmcimcbhhjaaGreat
/- Intervals: ends, Make, Trim of package interval. -/
namespace Go.Proofs.YtafgmcimcbhhjaaGreat
open Go.RowKit Go.Front Go.Num Stab
attribute [local go_sem] XW.cell XW.frozen
abbrev IvV(x:RH×RH):Value:=.agg #[.bool x.1.neg,.slice x.1.a x.1.n x.1.c,.slice x.1.b x.1.m x.1.d,.bool x.2.neg,.slice x.2.a x.2.n x.2.c,.slice x.2.b x.2.m x.2.d]
def loV(a b:Rat):Rat:=if b<a then b else a
def hiV(a b:Rat):Rat:=if b<a then a else b
theorem zd(a b:Rat):loV a b≤hiV a b:=by
 unfold loV hiV;by_cases h:b<a
 ·rw [if_pos h,if_pos h];grind
 ·rw [if_neg h,if_neg h];grind
theorem pB{a b:Rat}(h:a≤b):loV a b=a:=if_neg (by grind)
theorem pG{a b:Rat}(h:a≤b):hiV a b=b:=if_neg (by grind)
theorem zc(a b:Rat):loV a b=a∨loV a b=b:=by unfold loV;split <;> simp
theorem zj(a b:Rat):hiV a b=a∨hiV a b=b:=by unfold hiV;split <;> simp
theorem fZ{w1:World}{b:Nat}{T:TypeId}{c0 c1 c2 c3 c4 c5 v0 v1 v2 v3 v4 v5:Value}{F:World→Prop}(hb:w1.heap[b]?=some (.cells #[c0,c1,c2,c3,c4,c5] T (0,0)))(hn:#[c0,c1,c2,c3,c4,c5].toList.all gW=true)(h:∀ w2,jX w1 b T #[v0,v1,v2,v3,v4,v5] w2→F w2) :
  F ((((((w1.setCell ⟨b,0,none⟩ v0).setCell ⟨b,1,none⟩ v1).setCell ⟨b,2,none⟩ v2).setCell ⟨b,3,none⟩ v3).setCell ⟨b,4,none⟩ v4).setCell ⟨b,5,none⟩ v5) :=
 h _ (jX.of (nXa.1 hb).1 (ai hb hn) ((((((aY.setCell w1 ⟨b,0,none⟩ v0).trans (aY.setCell _ ⟨b,1,none⟩ v1)).trans (aY.setCell _ ⟨b,2,none⟩ v2)).trans (aY.setCell _ ⟨b,3,none⟩ v3)).trans (aY.setCell _ ⟨b,4,none⟩ v4)).trans (aY.setCell _ ⟨b,5,none⟩ v5)) (by simp [World.setCell])
  (aO (aO (aO (aO (aO (aO hb 0 v0) 1 v1) 2 v2) 3 v3) 4 v4) 5 v5))
theorem yX(a b:Rat):(if a<b then b else a)=hiV a b:=by
 unfold hiV;by_cases h:a<b
 ·rw [if_pos h,if_neg (by grind)]
 ·rw [if_neg h];by_cases h2:b<a
  ·rw [if_pos h2]
  ·rw [if_neg h2];grind
theorem qN(s t:RH)(a b:Rat)(w:World)(hs:aX w s a)(ht:aX w t b):ar 95 [s.v,t.v] w RH.v (fun x w'=>aB w' x (loV a b)):=by
 have HX:=Hi (Ext.refl w);have HS:=Hi hs;have HT:=Hi ht;clear hs ht;unfold ar;go_enter Tryz.func95,Tryz.ntmps95;obtain ⟨sn,sa,sl,sc,sb,sm,sd⟩:=s;obtain ⟨tn,ta,tl,tc,tb,tm,td⟩:=t
 go_upto_region 1 with fail
 refine vG ?_;intro w1 hE B2 B3 B4 hz_w1 hr_w1;refine mV3 hE ?_ HX HS HT;clear HX HS HT;intro HX HS HT;have hs_w1:=hE.size;clear hE;replace b_B2:=bX3 B2;replace b_B3:=bX3 B3;replace b_B4:=bX3 B4
 go_wp2_with fail
 refine cM (ic ⟨tn,ta,tl,tc,tb,tm,td⟩ ⟨sn,sa,sl,sc,sb,sm,sd⟩ b a _ HT.out HS.out) fun x7 w7 hE _=>?_
 refine mV6 hE ?_ B2 B3 B4 HX HS HT;clear B2 B3 B4 HX HS HT;intro B2 B3 B4 HX HS HT;have hs_w7:=hE.size;clear hE;replace b_B2:=bX3 B2;replace b_B3:=bX3 B3;replace b_B4:=bX3 B4;by_cases h:b<a
 case pos =>
  have HV:Hid (loV a b=b):=Hi (if_pos h);rw [decide_eq_true h];clear h
  go_wp2_with fail
  refine cM (ct ⟨tn,ta,tl,tc,tb,tm,td⟩ b _ HT.out) fun x9 w9 hE G9=>?_
  refine mV6 hE ?_ B2 B3 B4 HX HS HT;clear B2 B3 B4 HX HS HT;intro B2 B3 B4 HX HS HT;have hs_w9:=hE.size;clear hE;replace b_B2:=bX3 B2;replace b_B3:=bX3 B3;replace b_B4:=bX3 B4;go_wp2;refine cE (F:=fun W=>bodyPost _ _ _ _ _ W) B4.out rfl ?_;intro w10 T;replace HX:=Hi (T.ext HX.out (by omega));replace HS:=Hi (HS.out.keep T.keep);replace HT:=Hi (HT.out.keep T.keep);replace B2:=Hi (T.rest _ _ (by omega) B2.out);replace B3:=Hi (T.rest _ _ (by omega) B3.out);replace B4:=Hi (T.bx);replace G9:=Hi (G9.out.keep T.keep);have hs_w10:=nle T.size;have hr_w10:=nle T.size.symm;clear T;replace b_B2:=bX3 B2;replace b_B3:=bX3 B3;replace b_B4:=bX3 B4;exact bodyPost_ret (v:=RH.v x9) (by simp [results,Tryz.results95,go_sem,b_B4.1]) rfl ⟨x9,rfl,HX.out,by rw [HV.out];exact G9.out⟩
 have HV:Hid (loV a b=a):=Hi (if_neg h);rw [decide_eq_false h];clear h
 go_wp2_with fail
 refine cM (ct ⟨sn,sa,sl,sc,sb,sm,sd⟩ a _ HS.out) fun x11 w11 hE G11=>?_
 refine mV6 hE ?_ HX HS HT B2 B3 B4;clear HX HS HT B2 B3 B4;intro HX HS HT B2 B3 B4;have hs_w11:=hE.size;clear hE;replace b_B2:=bX3 B2;replace b_B3:=bX3 B3;replace b_B4:=bX3 B4;go_wp2;refine cE (F:=fun W=>bodyPost _ _ _ _ _ W) B4.out rfl ?_;intro w12 T;replace HX:=Hi (T.ext HX.out (by omega));replace HS:=Hi (HS.out.keep T.keep);replace HT:=Hi (HT.out.keep T.keep);replace B2:=Hi (T.rest _ _ (by omega) B2.out);replace B3:=Hi (T.rest _ _ (by omega) B3.out);replace B4:=Hi (T.bx);replace G11:=Hi (G11.out.keep T.keep);have hs_w12:=nle T.size;have hr_w12:=nle T.size.symm;clear T;replace b_B2:=bX3 B2;replace b_B3:=bX3 B3;replace b_B4:=bX3 B4;exact bodyPost_ret (v:=RH.v x11) (by simp [results,Tryz.results95,go_sem,b_B4.1]) rfl ⟨x11,rfl,HX.out,by rw [HV.out];exact G11.out⟩
theorem qO(s t:RH)(a b:Rat)(w:World)(hs:aX w s a)(ht:aX w t b):ar 96 [s.v,t.v] w RH.v (fun x w'=>aB w' x (hiV a b)):=by
 have HX:=Hi (Ext.refl w);have HS:=Hi hs;have HT:=Hi ht;clear hs ht;unfold ar;go_enter Tryz.func96,Tryz.ntmps96;obtain ⟨sn,sa,sl,sc,sb,sm,sd⟩:=s;obtain ⟨tn,ta,tl,tc,tb,tm,td⟩:=t
 go_upto_region 1 with fail
 refine vG ?_;intro w1 hE B2 B3 B4 hz_w1 hr_w1;refine mV3 hE ?_ HX HS HT;clear HX HS HT;intro HX HS HT;have hs_w1:=hE.size;clear hE;replace b_B2:=bX3 B2;replace b_B3:=bX3 B3;replace b_B4:=bX3 B4
 go_wp2_with fail
 refine cM (ic ⟨sn,sa,sl,sc,sb,sm,sd⟩ ⟨tn,ta,tl,tc,tb,tm,td⟩ a b _ HS.out HT.out) fun x7 w7 hE _=>?_
 refine mV6 hE ?_ B2 B3 B4 HX HS HT;clear B2 B3 B4 HX HS HT;intro B2 B3 B4 HX HS HT;have hs_w7:=hE.size;clear hE;replace b_B2:=bX3 B2;replace b_B3:=bX3 B3;replace b_B4:=bX3 B4;by_cases h:a<b
 case pos =>
  have HV:Hid (hiV a b=b):=Hi (by rw [←yX,if_pos h]);rw [decide_eq_true h];clear h
  go_wp2_with fail
  refine cM (ct ⟨tn,ta,tl,tc,tb,tm,td⟩ b _ HT.out) fun x9 w9 hE G9=>?_
  refine mV6 hE ?_ B2 B3 B4 HX HS HT;clear B2 B3 B4 HX HS HT;intro B2 B3 B4 HX HS HT;have hs_w9:=hE.size;clear hE;replace b_B2:=bX3 B2;replace b_B3:=bX3 B3;replace b_B4:=bX3 B4;go_wp2;refine cE (F:=fun W=>bodyPost _ _ _ _ _ W) B4.out rfl ?_;intro w10 T;replace HX:=Hi (T.ext HX.out (by omega));replace HS:=Hi (HS.out.keep T.keep);replace HT:=Hi (HT.out.keep T.keep);replace B2:=Hi (T.rest _ _ (by omega) B2.out);replace B3:=Hi (T.rest _ _ (by omega) B3.out);replace B4:=Hi (T.bx);replace G9:=Hi (G9.out.keep T.keep);have hs_w10:=nle T.size;have hr_w10:=nle T.size.symm;clear T;replace b_B2:=bX3 B2;replace b_B3:=bX3 B3;replace b_B4:=bX3 B4;exact bodyPost_ret (v:=RH.v x9) (by simp [results,Tryz.results96,go_sem,b_B4.1]) rfl ⟨x9,rfl,HX.out,by rw [HV.out];exact G9.out⟩
 have HV:Hid (hiV a b=a):=Hi (by rw [←yX,if_neg h]);rw [decide_eq_false h];clear h
 go_wp2_with fail
 refine cM (ct ⟨sn,sa,sl,sc,sb,sm,sd⟩ a _ HS.out) fun x11 w11 hE G11=>?_
 refine mV6 hE ?_ HX HS HT B2 B3 B4;clear HX HS HT B2 B3 B4;intro HX HS HT B2 B3 B4;have hs_w11:=hE.size;clear hE;replace b_B2:=bX3 B2;replace b_B3:=bX3 B3;replace b_B4:=bX3 B4;go_wp2;refine cE (F:=fun W=>bodyPost _ _ _ _ _ W) B4.out rfl ?_;intro w12 T;replace HX:=Hi (T.ext HX.out (by omega));replace HS:=Hi (HS.out.keep T.keep);replace HT:=Hi (HT.out.keep T.keep);replace B2:=Hi (T.rest _ _ (by omega) B2.out);replace B3:=Hi (T.rest _ _ (by omega) B3.out);replace B4:=Hi (T.bx);replace G11:=Hi (G11.out.keep T.keep);have hs_w12:=nle T.size;have hr_w12:=nle T.size.symm;clear T;replace b_B2:=bX3 B2;replace b_B3:=bX3 B3;replace b_B4:=bX3 B4;exact bodyPost_ret (v:=RH.v x11) (by simp [results,Tryz.results96,go_sem,b_B4.1]) rfl ⟨x11,rfl,HX.out,by rw [HV.out];exact G11.out⟩
theorem dL(s t:RH)(a b:Rat)(w:World)(hs:aX w s a)(ht:aX w t b):ar 39 [IvV (s,t)] w IvV (fun x w'=>aB w' x.1 (loV a b)∧aB w' x.2 (hiV a b)):=by
 have HX:=Hi (Ext.refl w);have HS:=Hi hs;have HT:=Hi ht;clear hs ht;unfold ar;go_enter Tryz.func39,Tryz.ntmps39;obtain ⟨sn,sa,sl,sc,sb,sm,sd⟩:=s;obtain ⟨tn,ta,tl,tc,tb,tm,td⟩:=t
 go_upto_region 1 with fail
 refine nk ?_;intro w1 hE B1 B2 hz_w1 hr_w1;refine mV3 hE ?_ HX HS HT;clear HX HS HT;intro HX HS HT;have hs_w1:=hE.size;clear hE;replace b_B1:=bX3 B1;replace b_B2:=bX3 B2;refine wpG 11 (fun opIx=>match opIx with
  | 4=>.spec RH default RH.v (fun s w'=>aB w' s (loV a b))
  | 9=>.spec RH default RH.v (fun s w'=>aB w' s (hiV a b))
  | _=>.quiet) (fun _=>[]) fun w0 he0 hz0 hc0 hf0=>?_
 refine wps he0.out rfl rfl (fun w1 hW hG=>?_) fun x20=>?_
 ·exact spc [RH.v ⟨sn,sa,sl,sc,sb,sm,sd⟩,RH.v ⟨tn,ta,tl,tc,tb,tm,td⟩] Tryz.func95 (qN _ _ _ _ _ (HS.out.ext hW) (HT.out.ext hW))
 refine qZ ?_;refine wps he0.out rfl rfl (fun w1 hW hG=>?_) fun x21=>?_
 ·exact spc [RH.v ⟨sn,sa,sl,sc,sb,sm,sd⟩,RH.v ⟨tn,ta,tl,tc,tb,tm,td⟩] Tryz.func96 (qO _ _ _ _ _ (HS.out.ext hW) (HT.out.ext hW))
 refine qZ ?_;refine am ?_;intro w2 hI;have hE:=he0.out.trans hI.ext;have G20:=gT (hI.facts 4);have G21:=gT (hI.facts 9);clear hI he0 hz0 hc0 hf0;refine mV5 hE ?_ B1 B2 HX HS HT;clear B1 B2 HX HS HT;intro B1 B2 HX HS HT;have hs_w2:=hE.size;clear hE;replace b_B1:=bX3 B1;replace b_B2:=bX3 B2;simp only [pD];go_wp2;refine fZ (F:=fun W=>bodyPost _ _ _ _ _ W) B2.out rfl ?_;intro w10 T;replace HX:=Hi (T.ext HX.out (by omega));replace HS:=Hi (HS.out.keep T.keep);replace HT:=Hi (HT.out.keep T.keep);replace B1:=Hi (T.rest _ _ (by omega) B1.out);replace B2:=Hi (T.bx);replace G20:=Hi (G20.out.keep T.keep);replace G21:=Hi (G21.out.keep T.keep);have hs_w10:=nle T.size;have hr_w10:=nle T.size.symm;clear T;replace b_B1:=bX3 B1;replace b_B2:=bX3 B2;exact bodyPost_ret (v:=IvV (x20,x21)) (by simp [results,Tryz.results39,go_sem,b_B2.1]) rfl ⟨(x20,x21),rfl,HX.out,G20.out,G21.out⟩
theorem nr(s t:RH)(a b:Rat)(w:World)(hs:aX w s a)(ht:aX w t b):ar 52 [s.v,t.v] w IvV (fun x w'=>aB w' x.1 (loV a b)∧aB w' x.2 (hiV a b)):=by
 have HX:=Hi (Ext.refl w);have HS:=Hi hs;have HT:=Hi ht;clear hs ht;unfold ar;go_enter Tryz.func52,Tryz.ntmps52;obtain ⟨sn,sa,sl,sc,sb,sm,sd⟩:=s;obtain ⟨tn,ta,tl,tc,tb,tm,td⟩:=t
 go_upto_region 1 with fail
 refine vG ?_;intro w1 hE B2 B3 B4 hz_w1 hr_w1;refine mV3 hE ?_ HX HS HT;clear HX HS HT;intro HX HS HT;have hs_w1:=hE.size;clear hE;replace b_B2:=bX3 B2;replace b_B3:=bX3 B3;replace b_B4:=bX3 B4
 go_wp2_with fail
 refine cM (dL ⟨sn,sa,sl,sc,sb,sm,sd⟩ ⟨tn,ta,tl,tc,tb,tm,td⟩ a b _ HS.out HT.out) fun x8 w8 hE G8=>?_
 refine mV6 hE ?_ B2 B3 B4 HX HS HT;clear B2 B3 B4 HX HS HT;intro B2 B3 B4 HX HS HT;have hs_w8:=hE.size;clear hE;replace b_B2:=bX3 B2;replace b_B3:=bX3 B3;replace b_B4:=bX3 B4;have HL:=Hi G8.out.1;have HH:=Hi G8.out.2;clear G8;go_wp2;refine fZ (F:=fun W=>bodyPost _ _ _ _ _ W) B4.out rfl ?_;intro w10 T;replace HX:=Hi (T.ext HX.out (by omega));replace HS:=Hi (HS.out.keep T.keep);replace HT:=Hi (HT.out.keep T.keep);replace B2:=Hi (T.rest _ _ (by omega) B2.out);replace B3:=Hi (T.rest _ _ (by omega) B3.out);replace B4:=Hi (T.bx);replace HL:=Hi (HL.out.keep T.keep);replace HH:=Hi (HH.out.keep T.keep);have hs_w10:=nle T.size;have hr_w10:=nle T.size.symm;clear T;replace b_B2:=bX3 B2;replace b_B3:=bX3 B3;replace b_B4:=bX3 B4;exact bodyPost_ret (v:=IvV x8) (by simp [results,Tryz.results52,go_sem,b_B4.1]) rfl ⟨x8,rfl,HX.out,HL.out,HH.out⟩
end Go.Proofs.YtafgmcimcbhhjaaGreat
