/- unit, chain of package dspcompilerref06. -/
import Derived.Test.YtofhkmcllihgmaaGreatQUK15
import Derived.Test.YtofhkmcllihgmaaGreatQUK14
import Derived.Test.YtofhkmcllihgmaaGreatQUK7
set_option linter.unusedVariables false
set_option maxRecDepth 8000
set_option maxHeartbeats 8000000
namespace Go.Proofs.YtofhkmcllihgmaaGreat
open Go.RowKit Go.Front Go.Num Stab Sg
attribute [local go_sem] XW.cell XW.frozen
theorem LIn.oneb{w:World}{s:SH}{qs:List Rat}{lo hi B:Nat}(h:LIn w s qs lo hi)(hB:hi≤B):∃ b,b≠B∧lo≤b∧LIn w s qs b (b+1):=by
 obtain ⟨rs,h1,h2,h3⟩:=h;rcases h3 with h0|⟨b,off,e,h4,h5⟩
 ·exact ⟨lo+B+1,by omega,by omega,rs,h1,h2,Or.inl h0⟩
 ·exact ⟨b,by omega,h4,rs,h1,h2,Or.inr ⟨b,off,e,Nat.le_refl _,Nat.lt_succ_self _⟩⟩
theorem jx(ao:Option Addr)(n cap:Nat)(l:List Rat)(S:Nat)(w:World)(h:ce w ⟨ao,n,cap⟩ l)(hn:n≤1000000)(hS:S≤8000000)(hz:SzL S l) :
  au 217 [.slice ao n cap] w SH.v (fun x w'=>dA w.heap.size w' x (aZ l)):=by
 have HX:=Hi (Ext.refl w);have LP:=Hi h.lin;have HSz:=Hi hz;have Hlen:=Hi h.len;simp only at Hlen;clear h hz;unfold au;go_enter Tryz.func217,Tryz.ntmps217
 go_wp2_with fail
 refine cM (aQ ao n cap l _ (LP.out.can.raw HSz.out (by omega)) (by omega)) fun x4 w4 hE G4=>?_
 refine mV2 hE ?_ HX LP;clear HX LP;intro HX LP
 have hs_w4:=hE.size;clear hE;obtain ⟨pa,P,pc⟩:=x4;have hP:=G4.out.len;simp only at hP;obtain ⟨p,hp⟩:∃ p,p=tz l:=⟨_,rfl⟩;rw [←hp] at G4 hP;have HTZ:=Hi hp;have HSp:Hid (SzL S p):=Hi (by rw [hp];exact SzL.tz HSz.out);have hPn:P≤n:=by rw [←hP,hp,←Hlen.out];exact aj l
 have hHP:=Hi hP;have HG:Hid (LIn w4 ⟨pa,P,pc⟩ p w.heap.size w4.heap.size):=Hi G4.out;clear hp hP Hlen;clear LP;clear G4;simp only [SH.v];by_cases h0:P=0
 case pos =>
  subst h0;have HV:Hid (aZ l=[]):=Hi (fE.2 (by rw [←HTZ.out];exact List.length_eq_zero_iff.1 hHP.out));go_wp2
  go_ret
  exact ⟨⟨none,0,0⟩,rfl,HX.out,by rw [HV.out];exact dA.nil _ _⟩
 obtain ⟨m,rfl⟩:∃ m,P=m+1:=⟨P-1,by omega⟩;have hz0:((m:Int)+1 == 0)=false:=by rw [beq_eq_false_iff_ne];omega
 have Hne:Hid (tz l≠[]):=Hi (by rw [←HTZ.out];intro h;have:=hHP.out;rw [h] at this;simp at this);have HL:Hid ((tz l).getLast?.getD 0=p.getD m 0):=Hi (by rw [←HTZ.out,List.getLast?_eq_getElem?,hHP.out,Nat.add_sub_cancel,←List.getD_eq_getElem?_getD]);have Zc:Hid (Sz S (p.getD m 0)):=Hi (HSp.out.at (by rw [hHP.out];omega));have Zb:Hid (Sz S (p.getD m 0).abs):=Hi Zc.out.abs;have ZI:Hid (Sz (1+S) (((1:Int):Rat) / (p.getD m 0).abs)):=Hi ((Sz.int (by decide)).div Zb.out);have HV:Hid (aZ l=bV p (((1:Int):Rat) / (p.getD m 0).abs)):=Hi (by
  unfold bV;have h1:=gw l;unfold aZ at h1 ⊢;rw [HL.out,←HTZ.out] at h1 ⊢;exact h1.symm)
 obtain ⟨b,off,r,hao,hbl,⟨hc1,hc2,hc3⟩,hPc⟩:=HG.out.celx (k:=m) (by omega);obtain ⟨rneg,ra,rn,rc,rb,rm,rd⟩:=r;simp only at hc1 hc2 hc3;have HC:=Hi hPc;clear hPc h0;subst hao
 go_upto_region 4 with fail
 refine wpG 11 (fun opIx=>match opIx with
  | 1=>.spec RH default RH.v (fun s w'=>aw w' s (((1:Int):Rat)))
  | 8=>.spec RH default RH.v (fun s w'=>aw w' s ((p.getD m 0).abs))
  | 9=>.spec RH default RH.v (fun s w'=>aw w' s (((1:Int):Rat) / (p.getD m 0).abs))
  | 10=>.spec (SH) (default) (SH.v) (fun x w'=>dA w.heap.size w' x (bV p (((1:Int):Rat) / (p.getD m 0).abs)))
  | _=>.quiet) (fun|9=>[1,8]|10=>[9]|_=>[]) fun w0 he0 hz0 hc0 hf0=>?_
 refine wps he0.out rfl rfl (fun w1 hW hG=>?_) fun x20=>?_
 ·exact spc [.int .i64 1] Tryz.func63 (aK 1 _ (by decide) (by decide))
 refine qZ ?_;refine wps he0.out rfl rfl (fun w1 hW hG=>?_) fun x21=>?_
 ·exact spc [RH.v ⟨rneg,ra,rn,rc,rb,rm,rd⟩] Tryz.func268 (sQ ⟨rneg,ra,rn,rc,rb,rm,rd⟩ _ _ ((HC.out.ext hW).raw Zc.out (by omega)))
 refine qZ ?_;refine wps he0.out rfl rfl (fun w1 hW hG=>?_) fun x22=>?_
 ·have g20:=(hG 1 (by decide):ay _ _).get fun _ e g=>g.ext e
  have g21:=(hG 8 (by decide):ay _ _).get fun _ e g=>g.ext e
  exact spc [x20.v,x21.v] Tryz.func73 (eO x20 x21 _ _ _ (g20.raw (Sz.int (by decide)) (by decide)) (g21.raw Zb.out (by omega)))
 refine qZ ?_;refine wps he0.out rfl rfl (fun w1 hW hG=>?_) fun x23=>?_
 ·have g22:=(hG 9 (by decide):ay _ _).get fun _ e g=>g.ext e
  exact spc [.slice (some ⟨b,off,none⟩) (m+1:Nat) pc,x22.v] Tryz.func70 ((iI (some ⟨b,off,none⟩) (m+1) pc p x22 (((1:Int):Rat) / (p.getD m 0).abs) _ ((HG.out.ext hW).can.raw HSp.out (by omega)) (g22.raw ZI.out (by omega)) (by omega) (HSp.out.mono (by omega)) (ZI.out.mono (by omega))).wk (fun _ _ _ h=>h.mono (by have:=hW.size;omega)))
 refine qZ ?_;refine wpF_nil ?_;intro w5 hI;have hE:=he0.out.trans hI.ext;have G20:=gT (hI.facts 1);have G21:=gT (hI.facts 8);have G22:=gT (hI.facts 9);have G23:=gT (hI.facts 10);clear hI he0 hz0 hc0 hf0;refine mV3 hE ?_ HX HG HC;clear HX HG HC;intro HX HG HC;have hs_w5:=hE.size;clear hE;simp only [pD];clear hc1 hc2 hc3;go_wp2
 go_ret
 exact ⟨x23,rfl,HX.out,by rw [HV.out];exact G23.out⟩
def ChR(w:World)(v:SH)(ms:List (List Rat)):Prop:=v.n=ms.length∧∀ k,k<ms.length→∃ L a n c,v.a=some ⟨L,0,none⟩∧L<w.heap.size∧w.cell? ⟨L,k,none⟩=some (.slice a n c)∧ce w ⟨a,n,c⟩ (ms.getD k [])
theorem ChR.ext{w w':World}{v:SH}{ms:List (List Rat)}(h:ChR w v ms)(he:Ext w w'):ChR w' v ms :=
 ⟨h.1,fun k hk=>let ⟨L,a,n,c,h1,h2,h3,h4⟩:=h.2 k hk;⟨L,a,n,c,h1,Nat.lt_of_lt_of_le h2 he.size,he.cell h3,h4.ext he⟩⟩
instance {w w':World} {v:SH} {ms:List (List Rat)}:Go.Front.Mv w w' (ChR w v ms) (ChR w' v ms):=⟨fun e h=>ChR.ext h e⟩

theorem ChM.r{w:World}{lo B:Nat}{va:Option Addr}{vn vc m:Nat}{ms:List (List Rat)}(h:ChM w lo B (.slice va vn vc) ms)(hm:m≤ms.length):ChR w ⟨va,m,vc⟩ (ms.take m):=by
 have h1:=(ChM.at (va:=va) (vn:=vn) (vc:=vc) h).2;refine ⟨by rw [List.length_take];show m=_;omega,fun k hk=>?_⟩;rw [List.length_take] at hk;obtain ⟨L,a,n,c,e1,e2,e3,e4⟩:=h1 k (by omega);refine ⟨L,a,n,c,e1,e2,e3,?_⟩;rw [show (ms.take m).getD k []=ms.getD k [] by rw [List.getD_eq_getElem?_getD,List.getD_eq_getElem?_getD,List.getElem?_take_of_lt (by omega)]];exact e4
theorem ChM.le{w:World}{lo B n c:Nat}{va:Option Addr}{ms:List (List Rat)}(h:ChM w lo B (.slice va n c) ms):ms.length≤c:=by
 obtain ⟨xs,h1,h2,-⟩:=h;rcases h1 with ⟨e,rfl⟩|⟨L,cap,re,e,-,-,h3,-⟩
 ·rw [←h2];exact Nat.zero_le _
 ·simp only [Value.slice.injEq] at e;omega
theorem ChM.max{w:World}{lo B n c L:Nat}{ms:List (List Rat)}(h:ChM w lo B (.slice (some ⟨L,0,none⟩) n c) ms):c≤9223372036854775807:=by
 obtain ⟨xs,h1,h2,-⟩:=h;rcases h1 with ⟨e,rfl⟩|⟨L,cap,re,e,-,-,-,h3,-⟩
 ·simp at e
 ·simp only [Value.slice.injEq] at e;omega
theorem AP{w:World}{lo B:Nat}{xa xb:SH}{a b:List Rat}{ba bb:Nat}(hB:w.heap[B]?=some (.cells #[.slice xa.a xa.n xa.c,.slice xb.a xb.n xb.c] 41 (0,0)))(ha:LIn w xa a ba (ba+1))(hb:LIn w xb b bb (bb+1))(h1:ba≠B)(h2:bb≠B)(h3:lo≤ba)(h4:lo≤bb) :
  ChM w lo B (.slice (some ⟨B,0,none⟩) 2 2) [a,b]:=by
 refine ⟨[xa,xb],Or.inr ⟨B,2,#[],rfl,rfl,?_,Nat.le_refl 2,by decide,rfl,rfl⟩,rfl,fun k hk=>?_⟩
 ·unfold SBk;rw [hB];rfl
 ·match k,hk with
  | 0,_=>exact ⟨ba,h1,h3,ha⟩
  | 1,_=>exact ⟨bb,h2,h4,hb⟩
def yB:Rat:=((-1:Int):Rat)
def UEq(p q:List Rat):Prop:=Unit→aZ p=aZ q
def QrP(p q:List Rat)(x:SH×SH)(w:World):Prop:=ce w x.1 (bB p q)∧ce w x.2 (bA p q)
theorem QrP.ext{p q:List Rat}{x:SH×SH}{w w':World}(h:QrP p q x w)(he:Ext w w'):QrP p q x w':=⟨h.1.ext he,h.2.ext he⟩
instance {p q:List Rat} {x:SH×SH} {w w':World}:Go.Front.Mv w w' (QrP p q x w) (QrP p q x w'):=⟨fun e h=>QrP.ext h e⟩

def CnI(w wr:World)(K:Nat)(q:List Rat)(v:Value)(g:Nat):Prop:=∃ (N cap L fuel X:Nat) (ps:List (List Rat)) (a b:List Rat),v=.slice (some ⟨L,0,none⟩) (N+1+1:Nat) cap∧b.length=g∧w.heap.size≤L∧ChM wr w.heap.size L (.slice (some ⟨L,0,none⟩) (N+1+1:Nat) cap) (ps++[aZ a,aZ b])∧ps.length=N∧N+b.length≤1000∧RmI K a b X∧a≠[]∧a.length<fuel∧(ps++(chn fuel a b).map aZ)=(cz q).map aZ∧cap≤9223372036854775807
theorem rR(pa:Option Addr)(P pc:Nat)(p:List Rat)(S D K:Nat)(w:World)(h:ce w ⟨pa,P,pc⟩ p)(hP:P≤500)(h0:tz p≠[])(hS:1≤S)(hD:0<D)(hD2:D<W32 ^ S)(hf:∀ x ∈ p,Fr S D x)(hK:KZ K S P)(hK2:K≤7000000) :
  au 124 [.slice pa P pc] w SH.v (fun x w'=>ChR w' x (nB p)):=by
 have LP:=Hi h.lin;have HX:=Hi (Ext.refl w);have HPl:Hid (p.length=P):=Hi h.len;have HF:=Hi hf;obtain ⟨X0,hSX,hI0⟩:=kN hS hD hf (by have:=h.len;simp only at this;omega) h0 (by have:=h.len;simp only at this;rw [this];exact hK);have HI0:=Hi hI0;clear hI0;have H0:=Hi h0;have hSK:S+2≤K:=by have:=HI0.out.small;omega
 have HSz:Hid (SzL S p):=Hi (nf hS hD hD2 hf);have HDF:Hid (∀ x ∈ tz (aT p),Fr (S+1) D x):=Hi (l8 hf (by have:=h.len;simp only at this;omega));have hD3:D<W32 ^ (S+1):=Nat.lt_of_lt_of_le hD2 (Nat.pow_le_pow_right aA (by omega));have HDZ:Hid (SzL (S+1) (tz (aT p))):=Hi (nf (by omega) hD hD3 HDF.out);have HDl:Hid ((tz (aT p)).length≤P):=Hi (by
  have h1:=HI0.out.2.2.2.2.2.2.1;rw [aP,aP,bi] at h1;have h2:=aj p;have h3:=HPl.out;rcases h1 with h1|h1
  ·exact absurd (ct.1 h1) h0
  ·omega)
 have HUD:Hid (aZ (tz (aT p))=aZ (aC (aT p))):=Hi (by rw [jg];unfold aZ;rw [bi]);have HUP:Hid (aZ p=aZ (aC p)):=Hi (jg p).symm;clear h hf h0;unfold au;go_enter Tryz.func124,Tryz.ntmps124
 go_wp2_with fail
 refine cM (jx pa P pc p S _ LP.out.can (by omega) (by omega) HSz.out) fun x8 w8 hE G8=>?_
 refine mV2 hE ?_ LP HX;clear LP HX;intro LP HX;have hs_w8:=hE.size;clear hE
 go_wp2_with fail
 refine cM (qv pa P pc p _ LP.out.can (by omega) (HSz.out.mono (by omega))) fun x10 w10 hE G10=>?_
 refine mV3 hE ?_ G8 LP HX;clear G8 LP HX;intro G8 LP HX
 have hs_w10:=hE.size;clear hE;obtain ⟨da,dn,dc⟩:=x10;have hdn:dn≤P:=by have h1:=G10.out.len;have h2:=HDl.out;simp only at h1;omega
 simp only [SH.v]
 go_wp2_with fail
 refine cM (jx da dn dc (tz (aT p)) (S+1) _ G10.out.can (by omega) (by omega) HDZ.out) fun x11 w11 hE G11=>?_
 refine mV4 hE ?_ G10 G8 LP HX;clear G10 G8 LP HX;intro G10 G8 LP HX;have hs_w11:=hE.size;clear hE;rw [HUD.out] at G11;rw [HUP.out] at G8;obtain ⟨ba,hba,hba2,hla⟩:=LIn.oneb (B:=w11.heap.size) G8.out (Nat.le_refl _);obtain ⟨bb,hbb,hbb2,hlb⟩:=LIn.oneb (B:=w11.heap.size) G11.out (Nat.le_refl _);have LA:=Hi hla;have LB:=Hi hlb;have hs11:=HX.out.size;have hbb3:w.heap.size≤bb:=by have:=hs_w10;have:=hs_w8;omega
 clear hla hlb;clear G8;clear G10;clear G11;clear LP;obtain ⟨aa,an,ac⟩:=x8;obtain ⟨bao,bn,bc⟩:=x11;simp only [SH.v]
 go_upto_region 2 with fail
 refine nmA ?_;intro w12 hE BL hz_w12 hr_w12;refine mV3 hE ?_ HX LA LB;clear HX LA LB;intro HX LA LB;have hs_w12:=hE.size;clear hE;replace b_BL:=Front.b3 BL;obtain ⟨L,hL⟩:∃ L,L=w11.heap.size:=⟨_,rfl⟩;rw [←hL] at BL hba hbb ⊢;have hLw:w.heap.size≤L:=by omega
 have HC:Hid (ChM w12 w.heap.size L (.slice (some ⟨L,0,none⟩) 2 2) [aZ (aC p),aZ (aC (aT p))]):=Hi (AP (xa:=⟨aa,an,ac⟩) (xb:=⟨bao,bn,bc⟩) BL.out LA.out LB.out hba hbb hba2 hbb3);have HLb:Hid ((aC (aT p)).length≤900):=Hi (by rw [aP];have h2:=HDl.out;omega);clear b_BL hL;clear LA;clear LB
 (try clear b_BL);clear BL
 go_wp2
 go_loopg [3] (aC (aT p)).length (fun g v wr=>Ext w wr∧CnI w wr K p v g)
 case atStart=>exact ⟨HX.out,0,2,L,p.length+1,X0,[],aC p,aC (aT p),rfl,rfl,hLw,HC.out,rfl,by have:=HLb.out;omega,by have h:=HI0.out;rwa [su] at h,fun k=>H0.out (ct.1 k),by rw [aP];have:=aj p;omega,rfl,by decide⟩
 case round =>
  obtain ⟨g1,N,cap,L,fuel,X,ps,a,b,rfl,hbg,hLw,g2,hps,hNb,g3,ha0,hfu,g4,hcap⟩:=hrel;clear HX HC;have HX:=Hi g1;have HC:=Hi g2;have HI:=Hi g3;have HE:=Hi g4;have Ha:=Hi ha0;have hat:=(ChM.at (va:=some ⟨L,0,none⟩) (vn:=N+1+1) (vc:=cap) g2).2;obtain ⟨L1,aa,an,ac,e1,hl1,hcell1,hcan1⟩:=hat N (by simp;omega);obtain ⟨L2,bao,bn,bc,e2,hl2,hcell2,hcan2⟩:=hat (N+1) (by simp;omega);obtain rfl:L=L1:=by simpa using e1
  obtain rfl:L=L2:=by simpa using e2
  rw [show (ps++[aZ a,aZ b]).getD N []=aZ a by rw [←hps];simp] at hcan1;rw [show (ps++[aZ a,aZ b]).getD (N+1) []=aZ b by rw [←hps];simp] at hcan2;have LA:=Hi hcan1;have LB:=Hi hcan2;have hbl:b.length=bn:=by have h1:=hcan2.len;rw [jy,g3.2.1] at h1;exact h1
  have hal:a.length=an:=by have h1:=hcan1.len;rw [jy,g3.1] at h1;exact h1
  have hN2:((N:Int)+1+1)-2=(N:Int):=by omega
  have hN3:(N:Int)+1<(N:Int)+1+1:=by omega
  have hN4:(N:Int)<(N:Int)+1+1:=by omega
  have hNc:N+1+1≤cap:=by have h1:=ChM.le g2;simp at h1;omega
  have hNc1:(0:Int)≤(N:Int)+1∧(N:Int)+1≤(cap:Int):=by omega
  clear g1 g2 g3 g4 ha0 hat e1 e2 hcan1 hcan2;by_cases h0:bn=0
  case pos =>
   subst h0;have hb:b=[]:=List.length_eq_zero_iff.1 hbl;have HV:Hid ((ps++[aZ a,aZ b]).take (N+1)=nB p):=Hi (by
    rw [uP,←HE.out,hb];obtain ⟨f2,rfl⟩:∃ f2,fuel=f2+1:=⟨fuel-1,by omega⟩;rw [dJ Ha.out,←hps];rw [List.take_append,List.take_of_length_le (Nat.le_succ _),show ps.length+1-ps.length=1 by omega];rfl)
   go_wp2
   go_ret
   exact ⟨⟨some ⟨L,0,none⟩,N+1,cap⟩,rfl,HX.out,by rw [←HV.out];exact ChM.r HC.out (by simp;omega)⟩
  have hbp:(0:Int)<(bn:Int):=by omega
  have Hb0:Hid (b≠[]):=Hi (by intro h;rw [h] at hbl;simp at hbl;omega);obtain ⟨e1,e2,e3,e4,e5,e6,e7,e8,e9⟩:=HI.out;obtain ⟨Da,u1,u2,u3⟩:=nL e3 e1 e5;obtain ⟨Db,v1,v2,v3⟩:=nL e4 e2 e5;have HT:Hid (tz a≠[]∧tz b≠[]):=Hi ⟨by rw [e1];exact Ha.out,by rw [e2];exact Hb0.out⟩;have HM0:Hid (tz (aZ b)≠[]):=Hi (by rw [gw];exact fun h=>HT.out.2 (fE.1 h));have hdz:=HI.out.dsz;obtain ⟨s,r,f,hf,hdv⟩:=uk (uo e3 e4 e1 e2 Hb0.out);obtain ⟨hN,X2,hI2⟩:=HI.out.next Hb0.out hf hdv;rw [hN] at hI2;obtain ⟨c,hc⟩:∃ c,c=aC ((bA a b).map (·*-1)):=⟨_,rfl⟩;rw [←hc] at hI2;have HNX:=Hi hI2;have HCc:=Hi hc;have hml:(aZ a).length=an:=by rw [jy,e1];exact hal
  have HRS:Hid (SzL 7000000 (bA (aZ a) (aZ b))):=Hi ((pF u3 v3 HM0.out e5 e5 u1 u2 v1).mono (by rw [hml,←hal];omega));have HSS:Hid (SzL 7000001 (bV (bA (aZ a) (aZ b)) yB)):=Hi ((sG HRS.out (show Sz 1 yB from oq)).mono (by omega));have HUC:Hid (UEq (bV (bA (aZ a) (aZ b)) yB) c):=Hi (fun _=>by rw [hc];exact wB HT.out.1 HT.out.2);have HRl:Hid ((bA (aZ a) (aZ b)).length≤1000):=Hi (by
   have h1:=(cu (aZ a) HM0.out).1;rw [gw,jy,e2] at h1;omega)
  have hcb:c.length<b.length:=by
   rcases hI2.2.2.2.2.2.2.1 with h|h
   ·exact absurd h Hb0.out
   ·exact h
  have HD3:Hid (X+(an+1)*(X+1)≤7000000):=Hi (by rw [←hal];omega);have han:an≤100000:=by rw [←hal];exact e8
  have hbn:bn≤1000:=by omega
  have HU3:=Hi u3;have HV3:=Hi v3;obtain ⟨qs,hqs⟩:∃ qs,qs=ps++[aZ a,aZ b]:=⟨_,rfl⟩;have hql:qs.length=N+1+1:=by rw [hqs];simp;omega
  rw [←hqs] at HC;have HQS:=Hi hqs;have HQL:=Hi hql;have Hps:=Hi hps;have Hbg:=Hi hbg;have Hbl:=Hi hbl;have hcg:c.length<gk:=by omega
  have hcN:N+1+c.length≤1000:=by omega
  have HLc:Hid (c.length<a.length∧b.length<fuel-1):=Hi (by
   have h1:=e7;rcases h1 with h|h
   ·exact absurd h Ha.out
   ·omega)
  clear hps hbg hbl hal hml hcb hNb;clear hc hqs hdv hN hI2 e1 e2 e3 e4 e6 e7 e8 e9 u3 v3 hdz hql h0 hf
  go_upto_region 3 with fail
  refine fx [(17,15),(17,16)] _ (by simp only [nE,oV,List.push_toArray,List.cons_append,List.nil_append];exact rfl) (by intro c a d v w h;cases d <;> exact h) 17 (fun opIx=>match opIx with
   | 12=>.spec (SH×SH) ((default,default)) (QT) (fun x w'=>QrP (aZ a) (aZ b) x w')
   | _=>.quiet) (fun _=>[]) (by kernel_rfl) (by kernel_rfl) (by kernel_rfl) (fun w0 he0 hz0 hc0 hf0=>?_);replace he0:=Hi he0;simp only [pT];refine qQ ?_
  refine wps he0.out rfl rfl (fun w1 hW hG=>?_) fun x40=>?_
  ·exact spc [.slice aa an ac,.slice bao bn bc] Tryz.func213 (oG aa bao an ac bn bc (aZ a) (aZ b) X X Da Db _ (LA.out.ext hW) (LB.out.ext hW) (by omega) (by omega) e5 e5 u1 u2 v1 v2 HU3.out HV3.out HM0.out (by have:=HD3.out;omega))
  refine qZ ?_;refine wpF_nil ?_;intro w14 hI;have hE:=he0.out.trans hI.ext;have G40:=gT (hI.facts 12);clear hI he0 hz0 hc0 hf0;refine mV4 hE ?_ HX HC LA LB;clear HX HC LA LB;intro HX HC LA LB;have hs_w14:=hE.size;clear hE;simp only [pD];obtain ⟨xq,⟨ra,rn,rc⟩⟩:=x40;have HR1:=Hi G40.out.2.lin;have hrl:=G40.out.2.len;have hrn:rn≤1000:=by have:=HRl.out;simp only at hrl;omega
  clear G40 hrl;simp only [QT] at *
  go_wp2_with fail
  refine cM (aK (-1) _ (by decide) (by decide)) fun x50 w50 hE G50=>?_
  refine mV5 hE ?_ HX HC LA LB HR1;clear HX HC LA LB HR1;intro HX HC LA LB HR1;have hs_w50:=hE.size;clear hE
  go_wp2_with fail
  refine cM (iI ra rn rc (bA (aZ a) (aZ b)) x50 yB _ (HR1.out.can.raw HRS.out (by omega)) (show aO _ x50 yB from G50.out.raw oq (by decide)) (by omega) (HRS.out.mono (by omega)) ((show Sz 1 yB from oq).mono (by omega))) fun x51 w51 hE G51=>?_
  refine mV6 hE ?_ G50 HX HC LA LB HR1;clear G50 HX HC LA LB HR1;intro G50 HX HC LA LB HR1
  have hs_w51:=hE.size;clear hE;obtain ⟨sa,sn,sc⟩:=x51;have hsn:sn≤1000:=by
   have h1:=G51.out.len;have h2:=rk (bA (aZ a) (aZ b)) yB;have h3:=HRl.out;simp only at h1;omega
  simp only [SH.v]
  go_wp2_with fail
  refine cM (jx sa sn sc (bV (bA (aZ a) (aZ b)) yB) 7000001 _ G51.out.can (by omega) (by omega) HSS.out) fun x52 w52 hE G52=>?_
  refine mV7 hE ?_ G51 G50 HX HC LA LB HR1;clear G51 G50 HX HC LA LB HR1;intro G51 G50 HX HC LA LB HR1;have hs_w52:=hE.size;clear hE;rw [HUC.out ()] at G52;have hLr:L<wr.heap.size:=hl1;obtain ⟨bm,hbm,hbm2,hlm⟩:=LIn.oneb (B:=w52.heap.size) G52.out (Nat.le_refl _);have LM:=Hi hlm;clear hlm;obtain ⟨ma,mn,mc⟩:=x52;simp only [SH.v];clear G51;clear G52;clear G50;clear HR1;clear LA;clear LB
  go_wp2_with (at_builtin;refine je rfl (.tmp 38) (.tmp 43) 139 Tryz.underlying139 rfl w.heap.size L (.slice (some ⟨L,0,none⟩) (N+1+1:Nat) cap) qs ⟨ma,mn,mc⟩ (aZ c) bm rfl HC.out LM.out (by omega) (by omega) rfl (by rw [HQL.out];omega) ?_;intro L2 cap2 y1 q1 q2 q3 q4)
  have HX2:=Hi (q2.ext HX.out (by omega));have HC2:=Hi q1;have hL2:w.heap.size≤L2:=by omega
  clear q1 q2 q3 q4 HX HC;obtain ⟨f2,rfl⟩:∃ f2,fuel=f2+1:=⟨fuel-1,by omega⟩;go_wp2
  go_roundg c.length
  case measure=>exact hcg
  case rel =>
   have hl:qs.length+1=N+1+1+1:=by rw [HQL.out]
   refine ⟨HX2.out,N+1,cap2,L2,f2,X2,ps++[aZ a],b,c,?_,rfl,hL2,?_,?_,hcN,HNX.out,Hb0.out,?_,?_,?_⟩
   ·first|(rw [←hl];rfl)|simp [HQL.out]
   ·have h:=HC2.out;rw [hl,HQS.out] at h;rw [List.append_assoc] at h ⊢;exact h
   ·rw [List.length_append,Hps.out];rfl
   ·have:=HLc.out.2;omega
   ·have h:=HE.out;rw [eF Ha.out Hb0.out,←HCc.out,List.map_cons] at h;rw [List.append_assoc];exact h
   ·exact ChM.max HC2.out
end Go.Proofs.YtofhkmcllihgmaaGreat
/- variations, roots of package dspcompilerref06. -/
set_option linter.unusedVariables false
namespace Go.Proofs.YtofhkmcllihgmaaGreat
open Go.RowKit Go.Front Go.Num Stab Sg
attribute [local go_sem] XW.cell XW.frozen
structure Mz (ms:List (List Rat)) (x:Rat):Prop where
 ln:ms.length≤1000
 mm:∀ k,k<ms.length→(ms.getD k []).length≤100∧SzL 40000000 (ms.getD k [])∧∀ j,j≤(ms.getD k []).length→Sz 40000000 (evV ((ms.getD k []).drop j) x)
theorem ChR.at{w:World}{va:Option Addr}{vn vc k:Nat}{ms:List (List Rat)}(h:ChR w ⟨va,vn,vc⟩ ms)(hk:k<ms.length):∃ L a n c,va=some ⟨L,0,none⟩∧L<w.heap.size∧w.cell? ⟨L,k,none⟩=some (.slice a n c)∧ce w ⟨a,n,c⟩ (ms.getD k []):=h.2 k hk
set_option maxRecDepth 8000 in
set_option maxHeartbeats 4000000 in
theorem o9(v:SH)(ms:List (List Rat))(t:RH)(x:Rat)(w:World)(hc:ChR w v ms)(hz:Mz ms x)(ht:aw w t x)(hx:Sz 10000000 x) :
  au 216 [v.v,t.v] w (fun _:Unit=>.int .i64 (gu ms x)) (fun _ _=>True):=by
 obtain ⟨va,vn,vc⟩:=v;obtain ⟨tn,ta,tl,tc,tb,tm,td⟩:=t;have HX:=Hi (Ext.refl w);have HC:=Hi hc;have HT:=Hi ht;have ZX:=Hi hx;have HM:=Hi hz;obtain rfl:vn=ms.length:=hc.1;have hl:=hz.ln;clear hc ht hx hz;unfold au;go_enter Tryz.func216,Tryz.ntmps216;simp only [SH.v]
 go_upto_region 1 with fail
 refine nmA ?_;intro w1 hE B3 hz_w1 hr_w1;refine mV3 hE ?_ HX HC HT;clear HX HC HT;intro HX HC HT;have hs_w1:=hE.size;clear hE;obtain ⟨c_B3,f_B3,l_B3⟩:=Front.b3 B3;obtain ⟨b3,hb3⟩:∃ b3,b3=w.heap.size:=⟨_,rfl⟩;have hb3w:b3<w1.heap.size:=by omega
 rw [←hb3] at B3 ⊢;clear c_B3 f_B3 l_B3;have c_B3:=ae B3.out;have f_B3:=af B3.out;clear hb3;go_wp2
 go_loopg [5,6,12] ms.length (fun g cv lv iv wr=>∃ (k cnt:Nat) (la:Int),k+g=ms.length∧iv=.int .i64 (k:Nat)∧cv=.int .i64 (cnt:Nat)∧lv=.int .i64 la∧Ext w wr∧Ext w1 wr∧cnt+vr la ((ms.drop k).map fun m=>Sg.sg (evV m x))=gu ms x∧cnt≤k∧IsS la)
 case atStart=>exact ⟨0,0,0,by omega,rfl,rfl,rfl,HX.out,Ext.refl _,by rw [Nat.zero_add];rfl,Nat.le_refl _,Or.inr (Or.inl rfl)⟩
 case round =>
  obtain ⟨k,cnt,la,hk,rfl,rfl,rfl,g1,g2,g3,g4,g5⟩:=hrel;clear HX;have HX:=Hi g1;have HX7:=Hi g2;have HC2:=Hi (HC.out.ext g2);have HT2:=Hi (HT.out.ext g2);have B32:=Hi (g2.block B3.out);have HV:=Hi g3;have HLA:=Hi g5;have hb3r:=g2.size;clear g1 g2 g3 g5 c_B3 f_B3;replace b_B32:=Front.b3 B32;by_cases h0:gk=0
  case pos =>
   subst h0;obtain rfl:k=ms.length:=by omega
   have HE:Hid (cnt=gu ms x):=Hi (by have:=HV.out;rw [List.drop_length,List.map_nil] at this;exact this);have hin:¬ ((ms.length:Nat):Int)<(ms.length:Nat):=by omega
   go_wp2
   go_ret
   exact ⟨(),by rw [HE.out];rfl,HX.out,trivial⟩
  have hin:(k:Int)<(ms.length:Nat):=by omega
  have hkn:k<ms.length:=by omega
  obtain ⟨L,a,n,c,hva,hLl,hcell,hcan⟩:=HC2.out.at (k:=k) hkn;subst hva;have HL:=Hi hcan;have HMk:=Hi (HM.out.mm k hkn);have hn:n≤100:=by have h1:=hcan.len;have h2:=HMk.out.1;simp only at h1;omega
  have HD:=Hi (xA (fun m=>Sg.sg (evV m x)) ms [] hkn);have HZ0:Hid (Sz 40000000 (evV (ms.getD k []) x)):=Hi (HMk.out.2.2 0 (Nat.zero_le _));clear hcan
  go_wp2_with fail
  refine cM (fS a n c (ms.getD k []) ⟨tn,ta,tl,tc,tb,tm,td⟩ x _ HL.out HT2.out hn HMk.out.2.1 ZX.out HMk.out.2.2) fun x18 w18 hE G18=>?_
  refine mV6 hE ?_ HX HX7 HC2 HT2 B32 HL;clear HX HX7 HC2 HT2 B32 HL;intro HX HX7 HC2 HT2 B32 HL;have hs_w18:=hE.size;clear hE;replace b_B32:=Front.b3 B32
  go_wp2_with fail
  refine cM (cL x18 (evV (ms.getD k []) x) _ (G18.out.raw HZ0.out (by decide))) fun x19 w19 hE _=>?_
  refine mV7 hE ?_ G18 HX HX7 HC2 HT2 B32 HL;clear G18 HX HX7 HC2 HT2 B32 HL;intro G18 HX HX7 HC2 HT2 B32 HL
  have hs_w19:=hE.size;clear hE;replace b_B32:=Front.b3 B32;rw [k9];rw [HD.out] at HV;have hs:=ri (evV (ms.getD k []) x);obtain ⟨s,es⟩:∃ s,s=Sg.sg (evV (ms.getD k []) x):=⟨_,rfl⟩;rw [←es] at HV hs ⊢;have HS:=Hi hs;clear es HD hcell HZ0 HMk;clear HL;clear G18;obtain ⟨rl,hrl⟩:∃ rl,rl=(ms.drop (k+1)).map fun m=>Sg.sg (evV m x):=⟨_,rfl⟩
  rw [←hrl] at HV;have HRL:=Hi hrl;have hla:=HLA.out;clear hrl;have fin:∀ (cnt2:Nat) (s2:Int),cnt2+vr s2 rl=gu ms x→cnt2+vr s2 ((ms.drop (k+1)).map fun m=>Sg.sg (evV m x))=gu ms x:=fun cnt2 s2 h=>by rw [←HRL.out];exact h
  have FIN:=Hi fin;clear fin;rcases hs with rfl|rfl|rfl
  ·rcases hla with rfl|rfl|rfl
   ·have HV2:Hid (cnt+vr (-1) rl=gu ms x):=Hi (by have:=HV.out;simpa [vr] using this);clear HV;go_wp2
    go_roundg (gk-1)
    case measure=>omega
    case rel=>exact ⟨k+1,cnt,-1,by omega,by go_num,rfl,rfl,HX.out,HX7.out,FIN.out _ _ HV2.out,by omega,HS.out⟩
   ·have HV2:Hid (cnt+vr (-1) rl=gu ms x):=Hi (by have:=HV.out;simpa [vr] using this);clear HV;go_wp2
    go_roundg (gk-1)
    case measure=>omega
    case rel=>exact ⟨k+1,cnt,-1,by omega,by go_num,rfl,rfl,HX.out,HX7.out,FIN.out _ _ HV2.out,by omega,HS.out⟩
   ·have HV2:Hid ((cnt+1)+vr (-1) rl=gu ms x):=Hi (by have:=HV.out;simp [vr] at this;omega);clear HV;go_wp2
    go_roundg (gk-1)
    case measure=>omega
    case rel=>exact ⟨k+1,cnt+1,-1,by omega,by go_num,by go_num,rfl,HX.out,HX7.out,FIN.out _ _ HV2.out,by omega,HS.out⟩
  ·have HV2:Hid (cnt+vr la rl=gu ms x):=Hi (by have:=HV.out;rw [show vr la (0 :: rl)=vr la rl by simp [vr]] at this;exact this);clear HV;go_wp2
   go_roundg (gk-1)
   case measure=>omega
   case rel=>exact ⟨k+1,cnt,la,by omega,by go_num,rfl,rfl,HX.out,HX7.out,FIN.out _ _ HV2.out,by omega,HLA.out⟩
  ·rcases hla with rfl|rfl|rfl
   ·have HV2:Hid ((cnt+1)+vr 1 rl=gu ms x):=Hi (by have:=HV.out;simp [vr] at this;omega);clear HV;go_wp2
    go_roundg (gk-1)
    case measure=>omega
    case rel=>exact ⟨k+1,cnt+1,1,by omega,by go_num,by go_num,rfl,HX.out,HX7.out,FIN.out _ _ HV2.out,by omega,HS.out⟩
   ·have HV2:Hid (cnt+vr 1 rl=gu ms x):=Hi (by have:=HV.out;simpa [vr] using this);clear HV;go_wp2
    go_roundg (gk-1)
    case measure=>omega
    case rel=>exact ⟨k+1,cnt,1,by omega,by go_num,rfl,rfl,HX.out,HX7.out,FIN.out _ _ HV2.out,by omega,HS.out⟩
   ·have HV2:Hid (cnt+vr 1 rl=gu ms x):=Hi (by have:=HV.out;simpa [vr] using this);clear HV;go_wp2
    go_roundg (gk-1)
    case measure=>omega
    case rel=>exact ⟨k+1,cnt,1,by omega,by go_num,rfl,rfl,HX.out,HX7.out,FIN.out _ _ HV2.out,by omega,HS.out⟩
end Go.Proofs.YtofhkmcllihgmaaGreat
/- Eval of the reference's polynomials, of any form. -/
set_option linter.unusedVariables false
namespace Go.Proofs.YtofhkmcllihgmaaGreat
open Go.RowKit Go.Front Go.Num Stab
attribute [local go_sem] XW.cell XW.frozen
set_option maxRecDepth 8000 in
set_option maxHeartbeats 4000000 in
theorem ui(ao:Option Addr)(n c:Nat)(l:List Rat)(t:RH)(x:Rat)(w:World)(h:dU w ⟨ao,n,c⟩ l)(ht:aO w t x)(hn:n≤100)(hl:SzL 40000000 l)(hx:Sz 10000000 x)(hE:∀ k,k≤l.length→Sz 40000000 (evV (l.drop k) x)) :
  au 42 [.slice ao n c,t.v] w RH.v (fun y w'=>aw w' y (evV l x)):=by
 obtain ⟨tn,ta,tl,tc,tb,tm,td⟩:=t;have HX:=Hi (Ext.refl w);have H:=Hi h;have HT0:=Hi ht;have HZ:=Hi hl;have ZX:=Hi hx;have HLn:=Hi h.len;have HEs:=Hi hE;simp only at HLn;clear h ht hl hx hE;unfold au;go_enter Tryz.func42,Tryz.ntmps42
 go_upto_region 1 with fail
 refine iK ?_;intro w1 hE B3 B4 hz_w1 hr_w1;replace HX:=hE.tr HX;have hs_w1:=hE.size;clear hE;replace b_B3:=Front.b3 B3;replace b_B4:=Front.b3 B4
 go_wp2_with fail
 refine cM (aK 0 _ (by decide) (by decide)) fun x7 w7 hE G7=>?_
 refine mV3 hE ?_ B3 B4 HX;clear B3 B4 HX;intro B3 B4 HX
 have hs_w7:=hE.size;clear hE;replace b_B3:=Front.b3 B3;replace b_B4:=Front.b3 B4
 go_upto_region 2 with fail
 refine nmA ?_;intro w8 hE B5 hz_w8 hr_w8
 refine mV4 hE ?_ G7 B3 B4 HX;clear G7 B3 B4 HX;intro G7 B3 B4 HX
 have hs_w8:=hE.size;clear hE;replace b_B3:=Front.b3 B3;replace b_B4:=Front.b3 B4;replace b_B5:=Front.b3 B5;obtain ⟨b3,hb3⟩:∃ b,b=w.heap.size:=⟨_,rfl⟩;obtain ⟨b4,hb4⟩:∃ b,b=w.heap.size+1:=⟨_,rfl⟩;obtain ⟨b5,hb5⟩:∃ b,b=w7.heap.size:=⟨_,rfl⟩;have hw3:w.heap.size≤b3:=by omega
 have hw4:w.heap.size≤b4:=by omega
 have hw5:w.heap.size≤b5:=by omega
 have h34:b3≠b4:=by omega
 have h35:b3≠b5:=by omega
 have h45:b4≠b5:=by omega
 rw [←hb4] at B4 ⊢;rw [←hb3] at B3 ⊢;rw [←hb5] at B5 ⊢;clear hb3 hb4 hb5 b_B3 b_B4 b_B5;have HY:Hid (aw w8 x7 (evV (l.drop n) x)):=Hi (by rw [List.drop_eq_nil_of_le (by rw [HLn.out];exact Nat.le_refl _)];exact G7.out);go_wp2
 go_loopg [6] n (fun g v wr=>∃ (y:RH),v=.int .i64 ((g:Int)-1)∧g≤n∧Ext w wr∧wr.heap[b3]?=some (.cells #[.bool tn,.slice ta tl tc,.slice tb tm td] 30 (0,0))∧wr.heap[b4]?=some (.cells #[.bool false,.slice none 0 0,.slice none 0 0] 30 (0,0))∧wr.heap[b5]?=some (.cells #[.bool y.neg,.slice y.a y.n y.c,.slice y.b y.m y.d] 30 (0,0))∧aw wr y (evV (l.drop g) x))
 case atStart=>exact ⟨x7,rfl,Nat.le_refl _,HX.out,B3.out,B4.out,B5.out,HY.out⟩
 case round =>
  obtain ⟨⟨yn,ya,yl,yc,yb,ym,yd⟩,rfl,hg,g1,g4,g5,g6,g7⟩:=hrel;clear HX B3 B4 B5 HY G7;have HX:=Hi g1;have LA:=Hi (H.out.ext g1);have HT:=Hi (HT0.out.ext g1);have B3:=Hi g4;have B4:=Hi g5;have B5:=Hi g6;have HY:=Hi g7;clear g1 g4 g5 g6 g7;replace b_B3:=Front.b3 B3;replace b_B4:=Front.b3 B4;replace b_B5:=Front.b3 B5;by_cases h0:gk=0
  case pos =>
   subst h0;clear LA;clear HT;have hneg:¬ (0:Int)≤((0:Nat):Int)-1:=by omega
   go_wp2;refine aI (F:=fun W=>bodyPost _ _ _ _ _ W) B4.out rfl ?_;intro w9 T;replace HX:=Hi (T.ext HX.out (by omega));replace HY:=Hi (HY.out.keep T.keep);replace B3:=Hi (T.rest _ _ (by omega) B3.out);replace B4:=Hi (T.bx);replace B5:=Hi (T.rest _ _ (by omega) B5.out);have hs_w9:=nle T.size;have hr_w9:=nle T.size.symm;clear T;replace b_B3:=Front.b3 B3;replace b_B4:=Front.b3 B4;replace b_B5:=Front.b3 B5;exact bodyPost_ret (v:=RH.v ⟨yn,ya,yl,yc,yb,ym,yd⟩) (by simp [results,Tryz.results42,go_sem,b_B4.1]) rfl ⟨⟨yn,ya,yl,yc,yb,ym,yd⟩,rfl,HX.out,HY.out⟩
  obtain ⟨k,rfl⟩:∃ k,gk=k+1:=⟨gk-1,by omega⟩;have hk1:((k+1:Nat):Int)-1=(k:Nat):=by omega
  rw [hk1];have hkn:k<n:=by omega
  have hk0:(0:Int)≤(k:Nat):=by omega
  have hin:(k:Int)<n:=by omega
  have ZY:Hid (Sz 40000000 (evV (l.drop (k+1)) x)):=Hi (HEs.out (k+1) (by rw [HLn.out];omega));have HE:=Hi (kk l x (k:=k) (by rw [HLn.out];exact hkn));have ZK:Hid (Sz 40000000 (l.getD k 0)):=Hi (HZ.out.at (by rw [HLn.out];exact hkn));obtain ⟨ba,oa,r,hao,hbl,⟨hc1,hc2,hc3⟩,hPc⟩:=LA.out.cells' (k:=k) hkn;obtain ⟨rneg,ra,rn,rc,rb,rm,rd⟩:=r;simp only at hc1 hc2 hc3;have HC:=Hi hPc;clear hPc;subst hao
  go_upto_region 5 with fail
  refine wpG 8 (fun opIx=>match opIx with
   | 2=>.spec RH default RH.v (fun s w'=>aw w' s (evV (l.drop (k+1)) x*x))
   | 7=>.spec RH default RH.v (fun s w'=>aw w' s (evV (l.drop (k+1)) x*x+l.getD k 0))
   | _=>.quiet) (fun|7=>[2]|_=>[]) fun w0 he0 hz0 hc0 hf0=>?_
  refine wps he0.out rfl rfl (fun w1 hW hG=>?_) fun x30=>?_
  ·exact spc [RH.v ⟨yn,ya,yl,yc,yb,ym,yd⟩,RH.v ⟨tn,ta,tl,tc,tb,tm,td⟩] Tryz.func38 (bW _ _ _ _ _ ((HY.out.ext hW).raw ZY.out (by decide)) (HT.out.ext hW))
  refine qZ ?_;refine wps he0.out rfl rfl (fun w1 hW hG=>?_) fun x31=>?_
  ·have g30:=(hG 2 (by decide):ay _ _).get fun _ e g=>g.ext e
   exact spc [x30.v,RH.v ⟨rneg,ra,rn,rc,rb,rm,rd⟩] Tryz.func31 (bX x30 _ _ _ _ (g30.raw (ZY.out.mul ZX.out) (by decide)) (HC.out.ext hW))
  refine qZ ?_;refine wpF_nil ?_;intro w14 hI;have hE:=he0.out.trans hI.ext;have G30:=gT (hI.facts 2);have G31:=gT (hI.facts 7);clear hI he0 hz0 hc0 hf0;refine mV8 hE ?_ LA HX B3 B4 B5 HY HT HC;clear LA HX B3 B4 B5 HY HT HC;intro LA HX B3 B4 B5 HY HT HC;have hs_w14:=hE.size;clear hE;replace b_B3:=Front.b3 B3;replace b_B4:=Front.b3 B4;replace b_B5:=Front.b3 B5;simp only [pD];clear hc1 hc2 hc3;rw [←HE.out] at G31;clear LA;clear HT;clear HC
  go_upto_region 4 with fail
  refine aI B5.out rfl ?_;intro w15 T;replace HX:=Hi (T.ext HX.out (by omega));replace HY:=Hi (HY.out.keep T.keep);replace B3:=Hi (T.rest _ _ (by omega) B3.out);replace B4:=Hi (T.rest _ _ (by omega) B4.out);replace B5:=Hi (T.bx);replace G30:=Hi (G30.out.keep T.keep);replace G31:=Hi (G31.out.keep T.keep);have hs_w15:=nle T.size;have hr_w15:=nle T.size.symm;clear T;replace b_B3:=Front.b3 B3;replace b_B4:=Front.b3 B4;replace b_B5:=Front.b3 B5;go_wp2
  go_roundg k
  case measure=>omega
  case rel=>exact ⟨x31,by go_num,by omega,HX.out,B3.out,B4.out,B5.out,G31.out⟩
end Go.Proofs.YtofhkmcllihgmaaGreat
/- newChain of package sturm. -/
set_option linter.unusedVariables false
namespace Go.Proofs.YtofhkmcllihgmaaGreat
open Go.RowKit Go.Front Go.Num Stab Sg
attribute [local go_sem] XW.cell XW.frozen
theorem o7(ms:List (List Rat))(x:Rat):gu ms x≤ms.length:=by
 unfold gu;have:∀ (l:List Int) (z:Int),vr z l≤l.length:=by
  intro l;induction l with
  | nil=>intro z;exact Nat.le_refl _
  | cons s l ih =>
   intro z;have h1:=ih z;have h2:=ih s;unfold vr;rw [List.length_cons];split
   ·omega
   ·split <;> omega
 have h:=this (ms.map fun m=>Sg.sg (evV m x)) 0
 rwa [List.length_map] at h
theorem AO:∀ (n:Nat) (a b:List Rat),(chn n a b).length≤n:=by
 intro n;induction n with
 | zero=>intro a b;exact Nat.le_refl _
 | succ n ih =>
  intro a b;by_cases ha:a=[]
  ·rw [show chn (n+1) a b=[] by simp [chn,ha]];exact Nat.zero_le _
  ·by_cases hb:b=[]
   ·subst hb;rw [dJ ha];simp
   ·rw [eF ha hb,List.length_cons];exact Nat.succ_le_succ (ih _ _)
theorem AN{L:Nat}:∀ (n:Nat) (a b:List Rat),a.length≤L→b.length≤L→tz b=b→∀ m ∈ chn n a b,m.length≤L:=by
 intro n;induction n with
 | zero=>intro a b _ _ _ m hm;simp [chn] at hm
 | succ n ih =>
  intro a b ha hb ht m hm;by_cases ha0:a=[]
  ·rw [show chn (n+1) a b=[] by simp [chn,ha0]] at hm;simp at hm
  ·by_cases hb0:b=[]
   ·subst hb0;rw [dJ ha0] at hm;obtain rfl:m=a:=by simpa using hm
    exact ha
   ·rw [eF ha0 hb0] at hm;rcases List.mem_cons.1 hm with rfl|hm
    ·exact ha
    ·have:=n4 a b (by rw [ht];exact hb0);rw [ht] at this;exact ih _ _ hb (by omega) (bL _) m hm
theorem vW(p:List Rat):(cz p).length≤p.length+1:=AO _ _ _
theorem vV{p:List Rat}(h:tz p≠[]):∀ m ∈ cz p,m.length≤p.length:=by
 refine AN _ _ _ ?_ ?_ (bL _)
 ·rw [aP];exact aj p
 ·rw [aP];have:=qu h;omega
end Go.Proofs.YtofhkmcllihgmaaGreat
/- roots, Count, Positive of package dspcompilerref06; Squarefree of dspcompilerref05. -/
set_option linter.unusedVariables false
set_option maxRecDepth 8000
set_option maxHeartbeats 8000000
namespace Go.Proofs.YtofhkmcllihgmaaGreat
open Go.RowKit Go.Front Go.Num Stab Sg
attribute [local go_sem] XW.cell XW.frozen
theorem Br{K:Nat}:∀ (fuel:Nat) (a b:List Rat) (X:Nat),RmI K a b X→∀ m ∈ chn fuel a b,∀ y ∈ m,Wz K y:=by
 intro fuel;induction fuel with
 | zero=>intro a b X _ m hm;simp [chn] at hm
 | succ fuel ih =>
  intro a b X h m hm;have hs:=h.small;by_cases ha:a=[]
  ·rw [show chn (fuel+1) a b=[] by simp [chn,ha]] at hm;simp at hm
  ·by_cases hb:b=[]
   ·subst hb;rw [dJ ha] at hm;obtain rfl:m=a:=by simpa using hm
    exact fun y hy=>(h.2.2.1 y hy).mono (by omega)
   ·rw [eF ha hb] at hm;rcases List.mem_cons.1 hm with rfl|hm
    ·exact fun y hy=>(h.2.2.1 y hy).mono (by omega)
    ·obtain ⟨s,r,f,hf,hdv⟩:=uk (uo h.2.2.1 h.2.2.2.1 h.1 h.2.1 hb);obtain ⟨hN,X2,hI2⟩:=h.next hb hf hdv;rw [hN] at hI2;exact ih _ _ _ hI2 m hm
theorem zE{K S D:Nat}{p:List Rat}(hS:1≤S)(hD:0<D)(hf:FrL S D p)(hl:p.length≤1000)(h0:tz p≠[])(hK:KZ K S p.length):∀ m ∈ cz p,∀ y ∈ m,Wz K y:=by
 obtain ⟨X,-,h⟩:=kN hS hD hf hl h0 hK;rw [su] at h;exact Br _ _ _ X h
theorem Cr:∀ (fuel:Nat) (a b:List Rat),tz a=a→tz b=b→∀ m ∈ chn fuel a b,tz m=m:=by
 intro fuel;induction fuel with
 | zero=>intro a b _ _ m hm;simp [chn] at hm
 | succ fuel ih =>
  intro a b h1 h2 m hm;by_cases ha:a=[]
  ·rw [show chn (fuel+1) a b=[] by simp [chn,ha]] at hm;simp at hm
  ·by_cases hb:b=[]
   ·subst hb;rw [dJ ha] at hm;obtain rfl:m=a:=by simpa using hm
    exact h1
   ·rw [eF ha hb] at hm;rcases List.mem_cons.1 hm with rfl|hm
    ·exact h1
    ·exact ih _ _ h2 (bL _) m hm
theorem uO{K S D T:Nat}{p:List Rat}{x:Rat}(hS:1≤S)(hD:0<D)(hf:FrL S D p)(hl:p.length≤100)(h0:tz p≠[])(hK:KZ K S p.length)(hK2:K≤30000000)(hx:Sz T x)(hT:T≤10000):Mz (nB p) x:=by
 have h1:=zE hS hD hf (by omega) h0 hK;have h2:=vW p;have h3:=vV h0;have hK1:1≤K:=by have:=hK.small;omega
 rw [uP];refine ⟨by rw [List.length_map];omega,fun k hk=>?_⟩;rw [List.length_map] at hk;have hm:(cz p).getD k [] ∈ cz p:=by
  rw [List.getD_eq_getElem?_getD,List.getElem?_eq_getElem hk];exact List.getElem_mem _
 have e:((cz p).map aZ).getD k []=aZ ((cz p).getD k []):=by
  rw [List.getD_eq_getElem?_getD,List.getD_eq_getElem?_getD,List.getElem?_map,List.getElem?_eq_getElem hk];rfl
 have ht:tz ((cz p).getD k [])=(cz p).getD k []:=Cr _ _ _ (bL _) (bL _) _ hm;have hml:=h3 _ hm;obtain ⟨E,e1,e2,e3⟩:=nL (h1 _ hm) ht hK1;rw [e];have hul:(aZ ((cz p).getD k [])).length≤100:=by rw [jy,ht];omega
 refine ⟨hul,(e3.sz hK1 e1 e2).mono (by omega),fun j hj=>(qp e3 hx hK1 e1 e2 j).mono ?_⟩;have h5:(aZ ((cz p).getD k [])).length*(T+1)≤100*10001:=Nat.mul_le_mul hul (by omega);omega
theorem ru(v:SH)(ms:List (List Rat))(s t:RH)(a b:Rat)(w:World)(hc:ChR w v ms)(hza:Mz ms a)(hzb:Mz ms b)(hs:aw w s a)(ht:aw w t b)(za:Sz 10000000 a)(zb:Sz 10000000 b) :
  au 123 [v.v,s.v,t.v] w (fun _:Unit=>.int .i64 ((gu ms a:Int)-gu ms b)) (fun _ _=>True):=by
 obtain ⟨va,vn,vc⟩:=v;obtain ⟨sn,sa,sl,sc,sb,sm,sd⟩:=s;obtain ⟨tn,ta,tl,tc,tb,tm,td⟩:=t;have HX:=Hi (Ext.refl w);have HC:=Hi hc;have HS:=Hi hs;have HT:=Hi ht;have ZA:=Hi za;have ZB:=Hi zb;have HMA:=Hi hza;have HMB:=Hi hzb;have hl:=hza.ln;have v1:=o7 ms a;have v2:=o7 ms b;obtain ⟨x1,hx1⟩:∃ x1,x1=gu ms a:=⟨_,rfl⟩;obtain ⟨x2,hx2⟩:∃ x2,x2=gu ms b:=⟨_,rfl⟩;have HV1:=Hi hx1;have HV2:=Hi hx2;have HE:Hid ((gu ms a:Int)-gu ms b=(x1:Int)-(x2:Int)):=Hi (by rw [hx1,hx2]);rw [←hx1] at v1;rw [←hx2] at v2;clear hc hs ht za zb hx1 hx2 hza hzb;unfold au;go_enter Tryz.func123,Tryz.ntmps123;simp only [SH.v]
 go_upto_region 1 with fail
 refine iK ?_;intro w1 hE B4 B5 hz_w1 hr_w1
 refine mV4 hE ?_ HX HC HS HT;clear HX HC HS HT;intro HX HC HS HT
 have hs_w1:=hE.size;clear hE;replace b_B4:=Front.b3 B4;replace b_B5:=Front.b3 B5;refine wpG 7 (fun opIx=>match opIx with
  | 2=>.spec Unit () (fun _=>.int .i64 (x1:Nat)) (fun _ _=>True)
  | 5=>.spec Unit () (fun _=>.int .i64 (x2:Nat)) (fun _ _=>True)
  | _=>.quiet) (fun _=>[]) fun w0 he0 hz0 hc0 hf0=>?_
 refine wps he0.out rfl rfl (fun w1 hW hG=>?_) fun x20=>?_
 ·exact spc [SH.v ⟨va,vn,vc⟩,RH.v ⟨sn,sa,sl,sc,sb,sm,sd⟩] Tryz.func216 ((by rw [HV1.out];exact o9 ⟨va,vn,vc⟩ ms ⟨sn,sa,sl,sc,sb,sm,sd⟩ a _ (HC.out.ext hW) HMA.out (HS.out.ext hW) ZA.out))
 refine qZ ?_;refine wps he0.out rfl rfl (fun w1 hW hG=>?_) fun x21=>?_
 ·exact spc [SH.v ⟨va,vn,vc⟩,RH.v ⟨tn,ta,tl,tc,tb,tm,td⟩] Tryz.func216 ((by rw [HV2.out];exact o9 ⟨va,vn,vc⟩ ms ⟨tn,ta,tl,tc,tb,tm,td⟩ b _ (HC.out.ext hW) HMB.out (HT.out.ext hW) ZB.out))
 refine qZ ?_;refine wpF_nil ?_;intro w2 hI;have hE:=he0.out.trans hI.ext;clear hI he0 hz0 hc0 hf0
 refine mV6 hE ?_ B4 B5 HX HS HC HT;clear B4 B5 HX HS HC HT;intro B4 B5 HX HS HC HT
 have hs_w2:=hE.size;clear hE;replace b_B4:=Front.b3 B4;replace b_B5:=Front.b3 B5;simp only [pD];go_wp2
 go_ret
 exact ⟨(),by rw [HE.out];rfl,HX.out,trivial⟩
theorem sS(pa:Option Addr)(P pc:Nat)(l:List Rat)(K:Nat)(w:World)(h:dU w ⟨pa,P,pc⟩ l)(hP:P≤500)(h0:tz (tz l)≠[])(hk:FrK K (tz l))(hK:K≤3900000)(hK2:(P+1)*(K / 3)≤25000000)(hs:FrK K (sqfV (tz l))) :
  au 122 [.slice pa P pc] w SH.v (fun x w'=>ce w' x (sqfV (tz l))):=by
 have LR:=Hi h;have HX:=Hi (Ext.refl w);have Hln:=Hi h.len;simp only at Hln;obtain ⟨p,hp⟩:∃ p,p=tz l:=⟨_,rfl⟩;rw [←hp] at h0 hk hs ⊢;have Hp:=Hi hp;have hlen:p.length≤P:=by rw [hp,←Hln.out];exact aj l
 have htp:tz p=p:=by rw [hp,bi]
 obtain ⟨S,D,hS,hD,hD2,hf,hSK⟩:=hk;obtain ⟨U,E,hU,hE,hE2,hfU,hUK⟩:=hs;have hp1:1≤p.length:=by
  have:=aj p;have:=List.length_pos_iff.2 h0;omega
 have hS3:=KZ.small3 hp1 hSK;have hUs:=KZ.small hUK;have hz:=hf.sz hS hD hD2;have HSz:Hid (SzL S p):=Hi hz;have HQ:Hid (SzL 8000000 (bB p (dL p (aT p)))):=Hi ((Bs h0 hz (hfU.sz hU hE hE2)).mono (by omega));have HF:Hid (FrL (S+1) D p):=Hi (hf.mono (by omega));have HF1:Hid (FrL S D p):=Hi hf;have HDF:Hid (∀ x ∈ tz (aT p),Fr (S+1) D x):=Hi (l8 hf (by omega));have hD3:D<W32 ^ (S+1):=Nat.lt_of_lt_of_le hD2 (Nat.pow_le_pow_right aA (by omega));have HDl:Hid ((tz (aT p)).length+1≤P):=Hi (by have:=qu h0;omega);have hgl0:(dL p (aT p)).length≤P:=by have:=Am h0;omega
 have hql0:(bB p (dL p (aT p))).length≤P:=by have:=sR h0;omega
 have HG0:Hid (tz (dL p (aT p))≠[]):=Hi (tY h0);have HSK:Hid (GZ K (S+1) p (tz (aT p))):=Hi (BN hD hf (by omega) h0 hSK);obtain ⟨m0,hm0⟩:∃ m0,p.length=m0+1:=⟨p.length-1,by omega⟩;have HM0:=Hi hm0;clear h hf hfU hUK hSK hz h0 hp1 hp hm0;unfold au;go_enter Tryz.func122,Tryz.ntmps122
 go_wp2_with fail
 refine cM (aQ pa P pc l _ LR.out (by omega)) fun x7 w7 hE G7=>?_
 replace HX:=hE.tr HX;have hs_w7:=hE.size;clear hE;obtain ⟨qa,Q,qc⟩:=x7;have LP:Hid (LIn w7 ⟨qa,Q,qc⟩ p 0 w7.heap.size):=Hi (by rw [Hp.out];exact G7.out.can.lin);have hQ:Q=m0+1:=by have h1:=LP.out.len;have h2:=HM0.out;simp only at h1;omega
 subst hQ;have hQP:m0+1≤P:=by have:=HM0.out;omega
 have hz0:((m0:Int)+1 == 0)=false:=by rw [beq_eq_false_iff_ne];omega
 clear G7;simp only [SH.v]
 go_wp2_with fail
 refine cM (qv qa (m0+1) qc p _ LP.out.can (by omega) (HSz.out.mono (by omega))) fun x15 w15 hE G15=>?_
 refine mV2 hE ?_ HX LP;clear HX LP;intro HX LP;have hs_w15:=hE.size;clear hE;obtain ⟨da,dn,dc⟩:=x15;have HD3:Hid (LIn w15 ⟨da,dn,dc⟩ (tz (aT p)) 0 w15.heap.size):=Hi G15.out.can.lin;clear G15;have hdn:dn+1≤P:=by have h1:=HD3.out.len;have h2:=HDl.out;simp only at h1;omega
 simp only [SH.v]
 go_wp2_with fail
 refine cM (xj qa da (m0+1) qc dn dc p (tz (aT p)) (S+1) D D _ LP.out.can HD3.out.can (by omega) (by omega) (by omega) hD hD3 hD hD3 HF.out HDF.out K HSK.out (by omega)) fun x16 w16 hE G16=>?_
 refine mV3 hE ?_ HX LP HD3;clear HX LP HD3;intro HX LP HD3;have hs_w16:=hE.size;clear hE;rw [xe] at G16;obtain ⟨ga,gn,gc⟩:=x16;have HGL:=Hi G16.out.1.lin;obtain ⟨X,F,hFX,hX1,hF0,hF2,hXK⟩:=G16.out.2;have HFX:=Hi hFX;have hX3:=GcR.small hXK;clear G16 hFX hXK;have hgl:=HGL.out.len;simp only at hgl;have hgm:gn≤P:=by omega
 have Hgl:=Hi hgl;clear hgl;clear HD3;have hm1:P*(X+1)≤P*(K / 3):=Nat.mul_le_mul_left _ hX3;have hm2:(P+1)*(K / 3)=P*(K / 3)+K / 3:=Nat.succ_mul _ _;have hm3:(m0+1+1)*(X+1)≤(P+1)*(K / 3):=Nat.mul_le_mul (by omega) hX3
 (try dsimp only)
 go_wp2_with fail
 refine cM (oG qa ga (m0+1) qc gn gc p (dL p (aT p)) S X D F _ LP.out.can HGL.out.can (by omega) (by omega) hS hX1 hD hD2 hF0 hF2 HF1.out HFX.out HG0.out (by omega)) fun x17 w17 hE G17=>?_
 refine mV3 hE ?_ HX LP HGL;clear HX LP HGL;intro HX LP HGL;have hs_w17:=hE.size;clear hE;obtain ⟨⟨ea,en,ec⟩,⟨ra,rn,rc⟩⟩:=x17;have HQL:=Hi G17.out.1.lin;clear G17;have hqn:=HQL.out.len;simp only at hqn;have hen:en≤P:=by omega
 clear hqn;simp only [QT] at *
 (try dsimp only)
 go_wp2_with fail
 refine cM (jm ea en ec (bB p (dL p (aT p))) 8000000 _ HQL.out.can (by omega) (by omega) HQ.out) fun x22 w22 hE G22=>?_
 refine mV4 hE ?_ HX LP HGL HQL;clear HX LP HGL HQL;intro HX LP HGL HQL;have hs_w22:=hE.size;clear hE;go_wp2
 go_ret
 exact ⟨x22,rfl,HX.out,G22.out.can⟩
end Go.Proofs.YtofhkmcllihgmaaGreat
