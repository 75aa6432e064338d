import Derived.Test.YtafgmcimcbhhjaaGreatQBK15
set_option linter.unusedVariables false
set_option maxHeartbeats 8000000
set_option maxRecDepth 8000
namespace Go.Proofs.YtafgmcimcbhhjaaGreat
open Go.RowKit Go.Front Go.Num Stab Sg
attribute [local go_sem] XW.cell XW.frozen
theorem xT(l:List Rat)(j:Nat):(List.range (j+1)).map (rM l)=(List.range j).map (rM l)++[l.getD (j+1) 0*(((j+1:Nat):Int):Rat)]:=bD (rM l) j
theorem oL(ao:Option Addr)(n cap:Nat)(l:List Rat)(w:World)(h:aD w ⟨ao,n,cap⟩ l)(hn:n≤1000000)(hz:SzL 8388608 l) :
  ak 53 [.slice ao n cap] w SH.v (fun s w'=>bW w.heap.size w' s (tz (derL l))):=by
 have HX:=Hi (Ext.refl w);have LA:=Hi h.lin;have Hlen:=Hi h.len;simp only at Hlen;have HZ:=Hi hz;clear h hz;unfold ak;go_enter Tryz.func53,Tryz.ntmps53;go_wp2
 go_loopg [3,4] (n-1) (fun g v i wr=>∃ (j:Nat) (s:SH),v=s.v∧j+g=n-1∧i=.int .i64 ((j:Int)+1)∧Ext w wr∧ey wr (w.heap.size≤·) s.v ((List.range j).map (rM l)))
 case atStart=>exact ⟨0,⟨none,0,0⟩,rfl,zo,rfl,HX.out,ey.nil _ _⟩
 case round =>
  obtain ⟨j,⟨sa,sn,sc⟩,rfl,hj,rfl,g1,g4⟩:=hrel;clear HX;have HX:=Hi g1;have HO:=Hi g4;have LA2:=Hi (LA.out.ext g1);have hsz:=g1.size;clear g1 g4;simp only [SH.v];have HLj:Hid (((List.range j).map (rM l)).length=j):=Hi (by simp);by_cases h0:gk=0
  case pos =>
   subst h0;have hin:¬ (j:Int)+1<n:=zo;have hsn:=ey.len (s:=⟨sa,sn,sc⟩) HO.out;rw [HLj.out] at hsn;simp only at hsn;subst hsn;have HSz:Hid (SzL 16777216 ((List.range j).map (rM l))):=Hi (by
    intro q hq;obtain ⟨k,hk,rfl⟩:=nYg.1 hq;have hk:=List.mem_range.1 hk;have h1:Sz 8388608 (l.getD (k+1) 0):=HZ.out.at (by rw [Hlen.out];omega);exact (h1.mul (Sz.int (z:=((k+1:Nat):Int)) (by rw [nYi];show _<4294967296;omega))).mono dZ)
   have HV:Hid (tz ((List.range j).map (rM l))=tz (derL l)):=Hi (by
    by_cases h1:n=0
    ·have hl:l=[]:=nXj.1 (by rw [Hlen.out];exact h1);have hj0:j=0:=by omega
     rw [hl,hj0];rfl
    ·exact tA l (by rw [Hlen.out];omega))
   go_wp2_with fail
   refine cM (ce sa j sc _ _ ((ey.can (s:=⟨sa,j,sc⟩) HO.out).raw HSz.out dZ) zo) fun x22 w22 hE G22=>?_
   replace HX:=hE.tr HX;go_wp2
   go_ret
   exact ⟨x22,rfl,HX.out,by rw [←HV.out];exact G22.out.mono hsz⟩
  have hjn:(j:Int)+1<n:=zo;have hjn2:j+1<n:=zo;have HJI:Hid ((j:Int)+1=((j+1:Nat):Int)):=Hi zo;obtain ⟨b,off,r,hao,hbl,⟨hc1,hc2,hc3⟩,hP⟩:=LA2.out.celx (k:=j+1) hjn2;obtain ⟨rneg,ra,rn,rc,rb,rm,rd⟩:=r;simp only at hc1 hc2 hc3;subst hao;have RP:=Hi hP;clear hP;have ZP:Hid (Sz 8388608 (l.getD (j+1) 0)):=Hi (HZ.out.at (by rw [Hlen.out];exact hjn2));have HNx:=Hi (xT l j)
  go_upto_region 5 with fail
  refine wpG 9 (fun opIx=>match opIx with
   | 6=>sR ((((j+1:Nat):Int):Rat))
   | 7=>sR (l.getD (j+1) 0*(((j+1:Nat):Int):Rat))
   | 8=>.spec (Nat×RH) ((0,default)) (fun p=>.slice (some ⟨p.1,0,none⟩) 1 1) (fun p w'=>iH w' p (l.getD (j+1) 0*(((j+1:Nat):Int):Rat)))
   | _=>.quiet) (fun|7=>[6]|8=>[7]|_=>[]) fun w0 he0 hz0 hc0 hf0=>?_
  refine wps he0 (fun w1 hW hG=>?_) fun x30=>?_
  ·exact spc [.int .i64 ((j:Int)+1)] Tryz.func36 ((by rw [HJI.out];exact ck ((j+1:Nat):Int) _ zo zo))
  refine qZ ?_;refine wps he0 (fun w1 hW hG=>?_) fun x31=>?_
  ·have g30:=gS (hG 6 dZ);exact spc [RH.v ⟨rneg,ra,rn,rc,rb,rm,rd⟩,x30.v] Tryz.func48 (fV _ x30 _ _ _ ((RP.out.ext hW).raw ZP.out dZ) (g30.raw (Sz.int (by rw [nYi];show _<4294967296;omega)) dZ))
  refine qZ ?_;refine wps he0 (fun w1 hW hG=>?_) fun x32=>?_
  ·have g31:=gS (hG 7 dZ);exact m6 x31 _ g31 rfl (by simp [execOp,go_sem])
  refine qZ ?_;refine aj ?_;intro w5 hI;have hE:=he0.out.trans hI.ext;have G32:=gT (hI.facts 8);clear hI he0 hz0 hc0 hf0;refine mV2 hE ?_ HO HX;clear HO HX;intro HO HX;have hs_w5:=hE.size;simp only [pD];clear hc1 hc2 hc3
  go_upto_region 4 with (at_builtin;refine gW rfl (.tmp 11) (.tmp 19) 24 Tryz.underlying24 rfl (w.heap.size≤·) _ _ x32.2 _ x32.1 rfl HO.out rfl G32.out.1 G32.out.2 (by rw [HLj.out];omega) (fun k hk=>by omega) ?_;intro s' y3 q1 q2 q3)
  have HX3:=Hi (Ext.mods HX.out q2 (fun k h=>h));have HO3:Hid (ey y3 (w.heap.size≤·) s'.v ((List.range (j+1)).map (rM l))):=Hi (by rw [HNx.out];exact q1);clear q1 q2 q3;go_wp2
  go_roundg (gk-1)
  case measure=>omega
  case rel=>exact ⟨j+1,s',rfl,zo,by go_num,HX3.out,HO3.out⟩
theorem LIn.oneb{w:World}{s:SH}{qs:List Rat}{lo hi B:Nat}(h:LIn w s qs lo hi)(hB:hi≤B):∃ b,b≠B∧lo≤b∧LIn w s qs b (b+1):=by
 obtain ⟨rs,h1,h2,h3⟩:=h;rcases h3 with h0|⟨b,off,e,h4,h5⟩
 ·exact ⟨lo+B+1,zo,zo,rs,h1,h2,Or.inl h0⟩
 ·exact ⟨b,zo,h4,rs,h1,h2,Or.inr ⟨b,off,e,nXe _,Nat.lt_succ_self _⟩⟩
theorem lx(ao:Option Addr)(n cap:Nat)(l:List Rat)(S:Nat)(w:World)(h:aD w ⟨ao,n,cap⟩ l)(hn:n≤1000000)(hS:S≤8000000)(hz:SzL S l) :
  ak 138 [.slice ao n cap] w SH.v (fun x w'=>bW w.heap.size w' x (bg l)):=by
 have HX:=Hi (Ext.refl w);have LP:=Hi h.lin;have HSz:=Hi hz;have Hlen:=Hi h.len;simp only at Hlen;clear h hz;unfold ak;go_enter Tryz.func138,Tryz.ntmps138
 go_wp2_with fail
 refine cM (ce ao n cap l _ (LP.out.can.raw HSz.out zo) zo) fun x4 w4 hE G4=>?_
 replace HX:=hE.tr HX;have hs_w4:=hE.size;obtain ⟨pa,P,pc⟩:=x4;have hP:=G4.out.len;simp only at hP;obtain ⟨p,hp⟩:∃ p,p=tz l:=⟨_,rfl⟩;rw [←hp] at G4 hP;have HTZ:=Hi hp;have HSp:Hid (SzL S p):=Hi (by rw [hp];exact SzL.tz HSz.out);have hPn:P≤n:=by rw [←hP,hp,←Hlen.out];exact ae l
 have hHP:=Hi hP;have HG:Hid (LIn w4 ⟨pa,P,pc⟩ p w.heap.size w4.heap.size):=Hi G4.out;clear hp hP Hlen;clear LP;clear G4;simp only [SH.v];by_cases h0:P=0
 case pos =>
  subst h0;have HV:Hid (bg l=[]):=Hi (gY.2 (by rw [←HTZ.out];exact nXj.1 hHP.out));go_wp2
  go_ret
  exact ⟨⟨none,0,0⟩,rfl,HX.out,by rw [HV.out];exact bW.nil _ _⟩
 obtain ⟨m,rfl⟩:∃ m,P=m+1:=⟨P-1,zo⟩;have hz0:((m:Int)+1 == 0)=false:=by rw [nXs];omega
 have HL:Hid ((tz l).getLast?.getD 0=p.getD m 0):=Hi (by rw [←HTZ.out,List.getLast?_eq_getElem?,hHP.out,Nat.add_sub_cancel,←nXd]);have Zc:Hid (Sz S (p.getD m 0)):=Hi (HSp.out.at (by rw [hHP.out];omega));have Zb:Hid (Sz S (p.getD m 0).abs):=Hi Zc.out.abs;have ZI:Hid (Sz (1+S) (((1:Int):Rat) / (p.getD m 0).abs)):=Hi ((Sz.int dZ).div Zb.out);have HV:Hid (bg l=bX p (((1:Int):Rat) / (p.getD m 0).abs)):=Hi (by
  unfold bX;have h1:=i7 l;unfold bg at h1 ⊢;rw [HL.out,←HTZ.out] at h1 ⊢;exact h1.symm)
 obtain ⟨b,off,r,hao,hbl,⟨hc1,hc2,hc3⟩,hPc⟩:=HG.out.celx (k:=m) zo;obtain ⟨rneg,ra,rn,rc,rb,rm,rd⟩:=r;simp only at hc1 hc2 hc3;have HC:=Hi hPc;clear hPc h0;subst hao
 go_upto_region 4 with fail
 refine wpG 11 (fun opIx=>match opIx with
  | 1=>sR (((1:Int):Rat))
  | 8=>sR ((p.getD m 0).abs)
  | 9=>sR (((1:Int):Rat) / (p.getD m 0).abs)
  | 10=>.spec (SH) (default) (SH.v) (fun x w'=>bW w.heap.size w' x (bX p (((1:Int):Rat) / (p.getD m 0).abs)))
  | _=>.quiet) (fun|9=>[1,8]|10=>[9]|_=>[]) fun w0 he0 hz0 hc0 hf0=>?_
 refine wps he0 (fun w1 hW hG=>?_) fun x20=>?_
 ·exact spc [.int .i64 1] Tryz.func36 (ck 1 _ dZ dZ)
 refine qZ ?_;refine wps he0 (fun w1 hW hG=>?_) fun x21=>?_
 ·exact spc [RH.v ⟨rneg,ra,rn,rc,rb,rm,rd⟩] Tryz.func188 (vJ ⟨rneg,ra,rn,rc,rb,rm,rd⟩ _ _ ((HC.out.ext hW).raw Zc.out zo))
 refine qZ ?_;refine wps he0 (fun w1 hW hG=>?_) fun x22=>?_
 ·have g20:=gS (hG 1 dZ);have g21:=gS (hG 8 dZ);exact spc [x20.v,x21.v] Tryz.func35 (iM x20 x21 _ _ _ (g20.raw (Sz.int dZ) dZ) (g21.raw Zb.out zo))
 refine qZ ?_;refine wps he0 (fun w1 hW hG=>?_) fun x23=>?_
 ·have g22:=gS (hG 9 dZ);exact spc [.slice (some ⟨b,off,none⟩) (m+1:Nat) pc,x22.v] Tryz.func51 ((iL (some ⟨b,off,none⟩) (m+1) pc p x22 (((1:Int):Rat) / (p.getD m 0).abs) _ ((HG.out.ext hW).can.raw HSp.out zo) (g22.raw ZI.out zo) zo (HSp.out.mono zo) (ZI.out.mono zo)).wk (fun _ _ _ h=>h.mono (by have:=hW.size;omega)))
 refine qZ ?_;refine aj ?_;intro w5 hI;have hE:=he0.out.trans hI.ext;have G23:=gT (hI.facts 10);clear hI he0 hz0 hc0 hf0;replace HX:=hE.tr HX;simp only [pD];clear hc1 hc2 hc3;go_wp2
 go_ret
 exact ⟨x23,rfl,HX.out,by rw [HV.out];exact G23.out⟩
def ChR(w:World)(v:SH)(ms:List (List Rat)):Prop:=v.n=ms.length∧∀ k,k<ms.length→∃ L a n c,v.a=some ⟨L,0,none⟩∧L<w.heap.size∧w.cell? ⟨L,k,none⟩=some (.slice a n c)∧aD w ⟨a,n,c⟩ (ms.getD k [])
theorem ChR.ext{w w':World}{v:SH}{ms:List (List Rat)}(h:ChR w v ms)(he:Ext w w'):ChR w' v ms :=
 ⟨h.1,fun k hk=>let ⟨L,a,n,c,h1,h2,h3,h4⟩:=h.2 k hk;⟨L,a,n,c,h1,nXn h2 he.size,he.cell h3,h4.ext he⟩⟩
instance {w w':World} {v:SH} {ms:List (List Rat)}:Go.Front.Mv w w' (ChR w v ms) (ChR w' v ms):=⟨fun e h=>ChR.ext h e⟩

theorem ChM.r{w:World}{lo B:Nat}{va:Option Addr}{vn vc m:Nat}{ms:List (List Rat)}(h:ChM w lo B (.slice va vn vc) ms)(hm:m≤ms.length):ChR w ⟨va,m,vc⟩ (ms.take m):=by
 have h1:=(ChM.at (va:=va) (vn:=vn) (vc:=vc) h).2;refine ⟨by rw [nXk];show m=_;omega,fun k hk=>?_⟩;rw [nXk] at hk;obtain ⟨L,a,n,c,e1,e2,e3,e4⟩:=h1 k zo;refine ⟨L,a,n,c,e1,e2,e3,?_⟩;rw [show (ms.take m).getD k []=ms.getD k [] by rw [nXd,nXd,List.getElem?_take_of_lt zo]];exact e4
theorem ChM.le{w:World}{lo B n c:Nat}{va:Option Addr}{ms:List (List Rat)}(h:ChM w lo B (.slice va n c) ms):ms.length≤c:=by
 obtain ⟨xs,h1,h2,-⟩:=h;rcases h1 with ⟨e,rfl⟩|⟨L,cap,re,e,-,-,h3,-⟩
 ·rw [←h2];exact Nat.zero_le _
 ·simp only [Value.slice.injEq] at e;omega
theorem ChM.max{w:World}{lo B n c L:Nat}{ms:List (List Rat)}(h:ChM w lo B (.slice (some ⟨L,0,none⟩) n c) ms):c≤9223372036854775807:=by
 obtain ⟨xs,h1,h2,-⟩:=h;rcases h1 with ⟨e,rfl⟩|⟨L,cap,re,e,-,-,-,h3,-⟩
 ·simp at e
 ·simp only [Value.slice.injEq] at e;omega
theorem DF{w:World}{lo B:Nat}{xa xb:SH}{a b:List Rat}{ba bb:Nat}(hB:w.heap[B]?=some (.cells #[.slice xa.a xa.n xa.c,.slice xb.a xb.n xb.c] 24 (0,0)))(ha:LIn w xa a ba (ba+1))(hb:LIn w xb b bb (bb+1))(h1:ba≠B)(h2:bb≠B)(h3:lo≤ba)(h4:lo≤bb) :
  ChM w lo B (.slice (some ⟨B,0,none⟩) 2 2) [a,b]:=by
 refine ⟨[xa,xb],Or.inr ⟨B,2,#[],rfl,rfl,?_,nXe 2,dZ,rfl,rfl⟩,rfl,fun k hk=>?_⟩
 ·unfold SBk;rw [hB];rfl
 ·match k,hk with
  | 0,_=>exact ⟨ba,h1,h3,ha⟩
  | 1,_=>exact ⟨bb,h2,h4,hb⟩
def Bn:Rat:=((-1:Int):Rat)
def UEq(p q:List Rat):Prop:=Unit→bg p=bg q
def QrP(p q:List Rat)(x:SH×SH)(w:World):Prop:=aD w x.1 (bE p q)∧aD w x.2 (bC p q)
theorem QrP.ext{p q:List Rat}{x:SH×SH}{w w':World}(h:QrP p q x w)(he:Ext w w'):QrP p q x w':=⟨h.1.ext he,h.2.ext he⟩
instance {p q:List Rat} {x:SH×SH} {w w':World}:Go.Front.Mv w w' (QrP p q x w) (QrP p q x w'):=⟨fun e h=>QrP.ext h e⟩

def CnI(w wr:World)(K:Nat)(q:List Rat)(v:Value)(g:Nat):Prop:=∃ (N cap L fuel X:Nat) (ps:List (List Rat)) (a b:List Rat),v=.slice (some ⟨L,0,none⟩) (N+1+1:Nat) cap∧b.length=g∧w.heap.size≤L∧ChM wr w.heap.size L (.slice (some ⟨L,0,none⟩) (N+1+1:Nat) cap) (ps++[bg a,bg b])∧ps.length=N∧N+b.length≤1000∧RmI K a b X∧a≠[]∧a.length<fuel∧(ps++(chn fuel a b).map bg)=(remsV q).map bg∧cap≤9223372036854775807
theorem nC(pa:Option Addr)(P pc:Nat)(p:List Rat)(S D K:Nat)(w:World)(h:aD w ⟨pa,P,pc⟩ p)(hP:P≤500)(h0:tz p≠[])(hS:1≤S)(hD:0<D)(hD2:D<W32 ^ S)(hf:∀ x ∈ p,Fr S D x)(hK:KZ K S P)(hK2:K≤7000000) :
  ak 75 [.slice pa P pc] w SH.v (fun x w'=>ChR w' x (jp p)):=by
 have LP:=Hi h.lin;have HX:=Hi (Ext.refl w);have HPl:Hid (p.length=P):=Hi h.len;obtain ⟨X0,hSX,hI0⟩:=ko hS hD hf (by have:=h.len;simp only at this;omega) h0 (by have:=h.len;simp only at this;rw [this];exact hK);have HI0:=Hi hI0;clear hI0;have H0:=Hi h0;have hSK:S+2≤K:=by have:=HI0.out.small;omega
 have HSz:Hid (SzL S p):=Hi (ew hS hD hD2 hf);have HDF:Hid (∀ x ∈ tz (derL p),Fr (S+1) D x):=Hi (jo hf (by have:=h.len;simp only at this;omega));have hD3:D<W32 ^ (S+1):=nXn hD2 (nXp aw zo);have HDZ:Hid (SzL (S+1) (tz (derL p))):=Hi (ew zo hD hD3 HDF.out);have HDl:Hid ((tz (derL p)).length≤P):=Hi (by
  have h1:=HI0.out.2.2.2.2.2.2.1;rw [ay,ay,aI] at h1;have h2:=ae p;have h3:=HPl.out;rcases h1 with h1|h1
  ·exact absurd (cu.1 h1) h0
  ·omega)
 have HUD:Hid (bg (tz (derL p))=bg (av (derL p))):=Hi (by rw [jA];unfold bg;rw [aI]);have HUP:Hid (bg p=bg (av p)):=Hi (jA p).symm;clear h hf h0;unfold ak;go_enter Tryz.func75,Tryz.ntmps75
 go_wp2_with fail
 refine cM (lx pa P pc p S _ LP.out.can zo zo HSz.out) fun x8 w8 hE G8=>?_
 refine mV2 hE ?_ LP HX;clear LP HX;intro LP HX;have hs_w8:=hE.size
 go_wp2_with fail
 refine cM (oL pa P pc p _ LP.out.can zo (HSz.out.mono zo)) fun x10 w10 hE G10=>?_
 refine mV2 hE ?_ G8 HX;clear G8 HX;intro G8 HX;have hs_w10:=hE.size;obtain ⟨da,dn,dc⟩:=x10;have hdn:dn≤P:=by have h1:=G10.out.len;have h2:=HDl.out;simp only at h1;omega
 simp only [SH.v]
 go_wp2_with fail
 refine cM (lx da dn dc (tz (derL p)) (S+1) _ G10.out.can zo zo HDZ.out) fun x11 w11 hE G11=>?_
 refine mV2 hE ?_ G8 HX;clear G8 HX;intro G8 HX;rw [HUD.out] at G11;rw [HUP.out] at G8;obtain ⟨ba,hba,hba2,hla⟩:=LIn.oneb (B:=w11.heap.size) G8.out (nXe _);obtain ⟨bb,hbb,hbb2,hlb⟩:=LIn.oneb (B:=w11.heap.size) G11.out (nXe _);have LA:=Hi hla;have LB:=Hi hlb;have hs11:=HX.out.size;have hbb3:w.heap.size≤bb:=by have:=hs_w10;have:=hs_w8;omega
 clear hla hlb;clear G8;clear G10;clear G11;clear LP;obtain ⟨aa,an,ac⟩:=x8;obtain ⟨bao,bn,bc⟩:=x11;simp only [SH.v]
 go_upto_region 2 with fail
 refine nmA ?_;intro w12 hE BL hz_w12 hr_w12;refine mV3 hE ?_ HX LA LB;clear HX LA LB;intro HX LA LB;obtain ⟨L,hL⟩:∃ L,L=w11.heap.size:=⟨_,rfl⟩;rw [←hL] at BL hba hbb ⊢;have hLw:w.heap.size≤L:=zo;have HC:Hid (ChM w12 w.heap.size L (.slice (some ⟨L,0,none⟩) 2 2) [bg (av p),bg (av (derL p))]):=Hi (DF (xa:=⟨aa,an,ac⟩) (xb:=⟨bao,bn,bc⟩) BL.out LA.out LB.out hba hbb hba2 hbb3);have HLb:Hid ((av (derL p)).length≤900):=Hi (by rw [ay];have h2:=HDl.out;omega);clear hL;clear LA;clear LB
 (try clear c_BL f_BL l_BL);(try clear BL)
 go_wp2
 go_loopg [3] (av (derL p)).length (fun g v wr=>Ext w wr∧CnI w wr K p v g)
 case atStart=>exact ⟨HX.out,0,2,L,p.length+1,X0,[],av p,av (derL p),rfl,rfl,hLw,HC.out,rfl,by have:=HLb.out;omega,by have h:=HI0.out;rwa [nQ] at h,fun k=>H0.out (cu.1 k),by rw [ay];have:=ae p;omega,rfl,dZ⟩
 case round =>
  obtain ⟨g1,N,cap,L,fuel,X,ps,a,b,rfl,hbg,hLw,g2,hps,hNb,g3,ha0,hfu,g4,hcap⟩:=hrel;clear HX HC;have HX:=Hi g1;have HC:=Hi g2;have HI:=Hi g3;have HE:=Hi g4;have Ha:=Hi ha0;have hat:=(ChM.at (va:=some ⟨L,0,none⟩) (vn:=N+1+1) (vc:=cap) g2).2;obtain ⟨L1,aa,an,ac,e1,hl1,hcell1,hcan1⟩:=hat N (by simp;omega);obtain ⟨L2,bao,bn,bc,e2,hl2,hcell2,hcan2⟩:=hat (N+1) (by simp;omega);obtain rfl:L=L1:=by simpa using e1
  obtain rfl:L=L2:=by simpa using e2
  rw [show (ps++[bg a,bg b]).getD N []=bg a by rw [←hps];simp] at hcan1;rw [show (ps++[bg a,bg b]).getD (N+1) []=bg b by rw [←hps];simp] at hcan2;have LA:=Hi hcan1;have LB:=Hi hcan2;have hbl:b.length=bn:=by have h1:=hcan2.len;rw [kg,g3.2.1] at h1;exact h1
  have hal:a.length=an:=by have h1:=hcan1.len;rw [kg,g3.1] at h1;exact h1
  have hN2:((N:Int)+1+1)-2=(N:Int):=zo;have hN3:(N:Int)+1<(N:Int)+1+1:=zo;have hN4:(N:Int)<(N:Int)+1+1:=zo;have hNc:N+1+1≤cap:=by have h1:=ChM.le g2;simp at h1;omega
  have hNc1:(0:Int)≤(N:Int)+1∧(N:Int)+1≤(cap:Int):=zo;clear g1 g2 g3 g4 ha0 hat e1 e2 hcan1 hcan2;by_cases h0:bn=0
  case pos =>
   subst h0;have hb:b=[]:=nXj.1 hbl;have HV:Hid ((ps++[bg a,bg b]).take (N+1)=jp p):=Hi (by
    rw [oR,←HE.out,hb];obtain ⟨f2,rfl⟩:∃ f2,fuel=f2+1:=⟨fuel-1,zo⟩;rw [dY Ha.out,←hps];rw [List.take_append,nXm (Nat.le_succ _),show ps.length+1-ps.length=1 by omega];rfl)
   go_wp2
   go_ret
   exact ⟨⟨some ⟨L,0,none⟩,N+1,cap⟩,rfl,HX.out,by rw [←HV.out];exact ChM.r HC.out (by simp;omega)⟩
  have hbp:(0:Int)<(bn:Int):=zo;have Hb0:Hid (b≠[]):=Hi (by intro h;rw [h] at hbl;simp at hbl;omega);obtain ⟨e1,e2,e3,e4,e5,e6,e7,e8,e9⟩:=HI.out;obtain ⟨Da,u1,u2,u3⟩:=nI e3 e1 e5;obtain ⟨Db,v1,v2,v3⟩:=nI e4 e2 e5;have HT:Hid (tz a≠[]∧tz b≠[]):=Hi ⟨by rw [e1];exact Ha.out,by rw [e2];exact Hb0.out⟩;have HM0:Hid (tz (bg b)≠[]):=Hi (by rw [i7];exact fun h=>HT.out.2 (gY.1 h));have hdz:=HI.out.dsz;obtain ⟨s,r,f,hf,hdv⟩:=xG (xH e3 e4 e1 e2 Hb0.out);obtain ⟨hN,X2,hI2⟩:=HI.out.next Hb0.out hf hdv;rw [hN] at hI2;obtain ⟨c,hc⟩:∃ c,c=av ((bC a b).map (·*-1)):=⟨_,rfl⟩;rw [←hc] at hI2;have HNX:=Hi hI2;have HCc:=Hi hc;have hml:(bg a).length=an:=by rw [kg,e1];exact hal
  have HRS:Hid (SzL 7000000 (bC (bg a) (bg b))):=Hi ((sG u3 v3 HM0.out e5 e5 u1 u2 v1).mono (by rw [hml,←hal];omega));have HSS:Hid (SzL 7000001 (bX (bC (bg a) (bg b)) Bn)):=Hi ((lP HRS.out (show Sz 1 Bn from jg)).mono zo);have HUC:Hid (UEq (bX (bC (bg a) (bg b)) Bn) c):=Hi (fun _=>by rw [hc];exact zW HT.out.1 HT.out.2);have HRl:Hid ((bC (bg a) (bg b)).length≤1000):=Hi (by
   have h1:=(cx (bg a) HM0.out).1;rw [i7,kg,e2] at h1;omega)
  have hcb:c.length<b.length:=by
   rcases hI2.2.2.2.2.2.2.1 with h|h
   ·exact absurd h Hb0.out
   ·exact h
  have HD3:Hid (X+(an+1)*(X+1)≤7000000):=Hi (by rw [←hal];omega);have han:an≤100000:=by rw [←hal];exact e8
  have hbn:bn≤1000:=zo;have HU3:=Hi u3;have HV3:=Hi v3;obtain ⟨qs,hqs⟩:∃ qs,qs=ps++[bg a,bg b]:=⟨_,rfl⟩;have hql:qs.length=N+1+1:=by rw [hqs];simp;omega
  rw [←hqs] at HC;have HQS:=Hi hqs;have HQL:=Hi hql;have Hps:=Hi hps;have hcg:c.length<gk:=zo;have hcN:N+1+c.length≤1000:=zo;have HLc:Hid (c.length<a.length∧b.length<fuel-1):=Hi (by
   have h1:=e7;rcases h1 with h|h
   ·exact absurd h Ha.out
   ·omega)
  clear hps hbg hbl hal hml hcb hNb;clear hc hqs hdv hN hI2 e1 e2 e3 e4 e6 e7 e8 e9 u3 v3 hdz hql h0 hf
  go_upto_region 3 with fail
  refine aF [(17,15),(17,16)] _ (by simp only [gI,kH,List.push_toArray,List.cons_append,List.nil_append];exact rfl) (by intro c a d v w h;cases d <;> exact h) 17 (fun opIx=>match opIx with
   | 12=>.spec (SH×SH) ((default,default)) (QT) (fun x w'=>QrP (bg a) (bg b) x w')
   | _=>.quiet) (fun _=>[]) kZ kZ kZ (fun w0 he0 hz0 hc0 hf0=>?_)
  replace he0:=Hi he0;simp only [pT];refine qQ ?_;refine wps he0 (fun w1 hW hG=>?_) fun x40=>?_
  ·exact spc [.slice aa an ac,.slice bao bn bc] Tryz.func134 (rJ aa bao an ac bn bc (bg a) (bg b) X X Da Db _ (LA.out.ext hW) (LB.out.ext hW) zo zo e5 e5 u1 u2 v1 v2 HU3.out HV3.out HM0.out (by have:=HD3.out;omega))
  refine qZ ?_;refine aj ?_;intro w14 hI;have hE:=he0.out.trans hI.ext;have G40:=gT (hI.facts 12);clear hI he0 hz0 hc0 hf0;refine mV2 hE ?_ HX HC;clear HX HC;intro HX HC;have hs_w14:=hE.size;simp only [pD];obtain ⟨xq,⟨ra,rn,rc⟩⟩:=x40;have HR1:=Hi G40.out.2.lin;have hrl:=G40.out.2.len;have hrn:rn≤1000:=by have:=HRl.out;simp only at hrl;omega
  clear G40 hrl;simp only [QT] at *
  go_wp2_with fail
  refine cM (ck (-1) _ dZ dZ) fun x50 w50 hE G50=>?_
  refine mV3 hE ?_ HX HC HR1;clear HX HC HR1;intro HX HC HR1;have hs_w50:=hE.size
  go_wp2_with fail
  refine cM (iL ra rn rc (bC (bg a) (bg b)) x50 Bn _ (HR1.out.can.raw HRS.out zo) (show aP _ x50 Bn from G50.out.raw jg dZ) zo (HRS.out.mono zo) ((show Sz 1 Bn from jg).mono zo)) fun x51 w51 hE G51=>?_
  refine mV2 hE ?_ HX HC;clear HX HC;intro HX HC;have hs_w51:=hE.size;obtain ⟨sa,sn,sc⟩:=x51;have hsn:sn≤1000:=by
   have h1:=G51.out.len;have h2:=m7 (bC (bg a) (bg b)) Bn;have h3:=HRl.out;simp only at h1;omega
  simp only [SH.v]
  go_wp2_with fail
  refine cM (lx sa sn sc (bX (bC (bg a) (bg b)) Bn) 7000001 _ G51.out.can zo zo HSS.out) fun x52 w52 hE G52=>?_
  refine mV2 hE ?_ HX HC;clear HX HC;intro HX HC;have hs_w52:=hE.size;rw [HUC.out ()] at G52;obtain ⟨bm,hbm,hbm2,hlm⟩:=LIn.oneb (B:=w52.heap.size) G52.out (nXe _);have LM:=Hi hlm;clear hlm;obtain ⟨ma,mn,mc⟩:=x52;simp only [SH.v];clear G51;clear G52;clear G50;clear HR1;clear LA;clear LB
  go_wp2_with (at_builtin;refine gK rfl (.tmp 38) (.tmp 43) 93 Tryz.underlying93 rfl w.heap.size L (.slice (some ⟨L,0,none⟩) (N+1+1:Nat) cap) qs ⟨ma,mn,mc⟩ (bg c) bm rfl HC.out LM.out zo zo rfl (by rw [HQL.out];omega) ?_;intro L2 cap2 y1 q1 q2 q3 q4)
  have HX2:=Hi (q2.ext HX.out zo);have HC2:=Hi q1;have hL2:w.heap.size≤L2:=zo;clear q1 q2 q3 q4 HX HC;obtain ⟨f2,rfl⟩:∃ f2,fuel=f2+1:=⟨fuel-1,zo⟩;go_wp2
  go_roundg c.length
  case measure=>exact hcg
  case rel =>
   have hl:qs.length+1=N+1+1+1:=by rw [HQL.out]
   refine ⟨HX2.out,N+1,cap2,L2,f2,X2,ps++[bg a],b,c,?_,rfl,hL2,?_,?_,hcN,HNX.out,Hb0.out,?_,?_,?_⟩
   ·first|(rw [←hl];rfl)|simp [HQL.out]
   ·have h:=HC2.out;rw [hl,HQS.out] at h;rw [List.append_assoc] at h ⊢;exact h
   ·rw [nXi,Hps.out];rfl
   ·have:=HLc.out.2;omega
   ·have h:=HE.out;rw [eI Ha.out Hb0.out,←HCc.out,List.map_cons] at h;rw [List.append_assoc];exact h
   ·exact ChM.max HC2.out
structure Mz (ms:List (List Rat)) (x:Rat):Prop where
 ln:ms.length≤1000
 mm:∀ k,k<ms.length→(ms.getD k []).length≤100∧SzL 40000000 (ms.getD k [])∧∀ j,j≤(ms.getD k []).length→Sz 40000000 (evV ((ms.getD k []).drop j) x)
theorem ChR.at{w:World}{va:Option Addr}{vn vc k:Nat}{ms:List (List Rat)}(h:ChR w ⟨va,vn,vc⟩ ms)(hk:k<ms.length):∃ L a n c,va=some ⟨L,0,none⟩∧L<w.heap.size∧w.cell? ⟨L,k,none⟩=some (.slice a n c)∧aD w ⟨a,n,c⟩ (ms.getD k []):=h.2 k hk
theorem r9(v:SH)(ms:List (List Rat))(t:RH)(x:Rat)(w:World)(hc:ChR w v ms)(hz:Mz ms x)(ht:aA w t x)(hx:Sz 10000000 x) :
  ak 137 [v.v,t.v] w (fun _:Unit=>.int .i64 (d9 ms x)) (fun _ _=>True):=by
 obtain ⟨va,vn,vc⟩:=v;obtain ⟨tn,ta,tl,tc,tb,tm,td⟩:=t;have HX:=Hi (Ext.refl w);have HC:=Hi hc;have HT:=Hi ht;have ZX:=Hi hx;have HM:=Hi hz;obtain rfl:vn=ms.length:=hc.1;have hl:=hz.ln;clear hc ht hx hz;unfold ak;go_enter Tryz.func137,Tryz.ntmps137;simp only [SH.v]
 go_upto_region 1 with fail
 refine nmA ?_;intro w1 hE B3 hz_w1 hr_w1;refine mV3 hE ?_ HX HC HT;clear HX HC HT;intro HX HC HT;obtain ⟨b3,hb3⟩:∃ b3,b3=w.heap.size:=⟨_,rfl⟩;rw [←hb3] at B3 ⊢;have c_B3:=ab B3.out;have f_B3:=ah B3.out;clear hb3;go_wp2
 go_loopg [5,6,12] ms.length (fun g cv lv iv wr=>∃ (k cnt:Nat) (la:Int),k+g=ms.length∧iv=.int .i64 (k:Nat)∧cv=.int .i64 (cnt:Nat)∧lv=.int .i64 la∧Ext w wr∧Ext w1 wr∧cnt+vr la ((ms.drop k).map fun m=>Sg.sg (evV m x))=d9 ms x∧cnt≤k∧IsS la)
 case atStart=>exact ⟨0,0,0,zo,rfl,rfl,rfl,HX.out,Ext.refl _,by rw [Nat.zero_add];rfl,nXe _,Or.inr (Or.inl rfl)⟩
 case round =>
  obtain ⟨k,cnt,la,hk,rfl,rfl,rfl,g1,g2,g3,g4,g5⟩:=hrel;clear HX;have HX:=Hi g1;have HX7:=Hi g2;have HC2:=Hi (HC.out.ext g2);have HT2:=Hi (HT.out.ext g2);have B32:=Hi (g2.block B3.out);have HV:=Hi g3;have HLA:=Hi g5;clear g1 g2 g3 g5 c_B3 f_B3;replace b_B32:=bX3 B32;by_cases h0:gk=0
  case pos =>
   subst h0;obtain rfl:k=ms.length:=by omega
   have HE:Hid (cnt=d9 ms x):=Hi (by have:=HV.out;rw [List.drop_length,List.map_nil] at this;exact this);have hin:¬ ((ms.length:Nat):Int)<(ms.length:Nat):=zo;go_wp2
   go_ret
   exact ⟨(),by rw [HE.out];rfl,HX.out,trivial⟩
  have hin:(k:Int)<(ms.length:Nat):=zo;have hkn:k<ms.length:=zo;obtain ⟨L,a,n,c,hva,hLl,hcell,hcan⟩:=HC2.out.at (k:=k) hkn;subst hva;have HL:=Hi hcan;have HMk:=Hi (HM.out.mm k hkn);have hn:n≤100:=by have h1:=hcan.len;have h2:=HMk.out.1;simp only at h1;omega
  have HD:=Hi (tv (fun m=>Sg.sg (evV m x)) ms [] hkn);have HZ0:Hid (Sz 40000000 (evV (ms.getD k []) x)):=Hi (HMk.out.2.2 0 (Nat.zero_le _));clear hcan
  go_wp2_with fail
  refine cM (jZ a n c (ms.getD k []) ⟨tn,ta,tl,tc,tb,tm,td⟩ x _ HL.out HT2.out hn HMk.out.2.1 ZX.out HMk.out.2.2) fun x18 w18 hE G18=>?_
  refine mV2 hE ?_ HX HX7;clear HX HX7;intro HX HX7
  go_wp2_with fail
  refine cM (cf x18 (evV (ms.getD k []) x) _ (G18.out.raw HZ0.out dZ)) fun x19 w19 hE _=>?_
  refine mV2 hE ?_ HX HX7;clear HX HX7;intro HX HX7;rw [iF];rw [HD.out] at HV;have hs:=o8 (evV (ms.getD k []) x);obtain ⟨s,es⟩:∃ s,s=Sg.sg (evV (ms.getD k []) x):=⟨_,rfl⟩;rw [←es] at HV hs ⊢;have HS:=Hi hs;clear es HD hcell HZ0 HMk;clear HL;clear G18;obtain ⟨rl,hrl⟩:∃ rl,rl=(ms.drop (k+1)).map fun m=>Sg.sg (evV m x):=⟨_,rfl⟩
  rw [←hrl] at HV;have HRL:=Hi hrl;have hla:=HLA.out;clear hrl;have fin:∀ (cnt2:Nat) (s2:Int),cnt2+vr s2 rl=d9 ms x→cnt2+vr s2 ((ms.drop (k+1)).map fun m=>Sg.sg (evV m x))=d9 ms x:=fun cnt2 s2 h=>by rw [←HRL.out];exact h
  have FIN:=Hi fin;clear fin;rcases hs with rfl|rfl|rfl
  ·rcases hla with rfl|rfl|rfl
   ·have HV2:Hid (cnt+vr (-1) rl=d9 ms x):=Hi (by have:=HV.out;simpa [vr] using this);clear HV;go_wp2
    go_roundg (gk-1)
    case measure=>omega
    case rel=>exact ⟨k+1,cnt,-1,zo,by go_num,rfl,rfl,HX.out,HX7.out,FIN.out _ _ HV2.out,zo,HS.out⟩
   ·have HV2:Hid (cnt+vr (-1) rl=d9 ms x):=Hi (by have:=HV.out;simpa [vr] using this);clear HV;go_wp2
    go_roundg (gk-1)
    case measure=>omega
    case rel=>exact ⟨k+1,cnt,-1,zo,by go_num,rfl,rfl,HX.out,HX7.out,FIN.out _ _ HV2.out,zo,HS.out⟩
   ·have HV2:Hid ((cnt+1)+vr (-1) rl=d9 ms x):=Hi (by have:=HV.out;simp [vr] at this;omega);clear HV;go_wp2
    go_roundg (gk-1)
    case measure=>omega
    case rel=>exact ⟨k+1,cnt+1,-1,zo,by go_num,by go_num,rfl,HX.out,HX7.out,FIN.out _ _ HV2.out,zo,HS.out⟩
  ·have HV2:Hid (cnt+vr la rl=d9 ms x):=Hi (by have:=HV.out;rw [show vr la (0 :: rl)=vr la rl by simp [vr]] at this;exact this);clear HV;go_wp2
   go_roundg (gk-1)
   case measure=>omega
   case rel=>exact ⟨k+1,cnt,la,zo,by go_num,rfl,rfl,HX.out,HX7.out,FIN.out _ _ HV2.out,zo,HLA.out⟩
  ·rcases hla with rfl|rfl|rfl
   ·have HV2:Hid ((cnt+1)+vr 1 rl=d9 ms x):=Hi (by have:=HV.out;simp [vr] at this;omega);clear HV;go_wp2
    go_roundg (gk-1)
    case measure=>omega
    case rel=>exact ⟨k+1,cnt+1,1,zo,by go_num,by go_num,rfl,HX.out,HX7.out,FIN.out _ _ HV2.out,zo,HS.out⟩
   ·have HV2:Hid (cnt+vr 1 rl=d9 ms x):=Hi (by have:=HV.out;simpa [vr] using this);clear HV;go_wp2
    go_roundg (gk-1)
    case measure=>omega
    case rel=>exact ⟨k+1,cnt,1,zo,by go_num,rfl,rfl,HX.out,HX7.out,FIN.out _ _ HV2.out,zo,HS.out⟩
   ·have HV2:Hid (cnt+vr 1 rl=d9 ms x):=Hi (by have:=HV.out;simpa [vr] using this);clear HV;go_wp2
    go_roundg (gk-1)
    case measure=>omega
    case rel=>exact ⟨k+1,cnt,1,zo,by go_num,rfl,rfl,HX.out,HX7.out,FIN.out _ _ HV2.out,zo,HS.out⟩
end Go.Proofs.YtafgmcimcbhhjaaGreat
/- Eval of the reference's polynomials, of any form. -/
namespace Go.Proofs.YtafgmcimcbhhjaaGreat
open Go.RowKit Go.Front Go.Num Stab
attribute [local go_sem] XW.cell XW.frozen
theorem gi(ao:Option Addr)(n c:Nat)(l:List Rat)(t:RH)(x:Rat)(w:World)(h:ct w ⟨ao,n,c⟩ l)(ht:aP w t x)(hn:n≤100)(hl:SzL 40000000 l)(hx:Sz 10000000 x)(hE:∀ k,k≤l.length→Sz 40000000 (evV (l.drop k) x)) :
  ak 50 [.slice ao n c,t.v] w RH.v (fun y w'=>aA w' y (evV l x)):=by
 obtain ⟨tn,ta,tl,tc,tb,tm,td⟩:=t;have HX:=Hi (Ext.refl w);have H:=Hi h;have HT0:=Hi ht;have ZX:=Hi hx;have HLn:=Hi h.len;have HEs:=Hi hE;simp only at HLn;clear h ht hl hx hE;unfold ak;go_enter Tryz.func50,Tryz.ntmps50
 go_upto_region 1 with fail
 refine kE ?_;intro w1 hE B3 B4 hz_w1 hr_w1;replace HX:=hE.tr HX
 go_wp2_with fail
 refine cM (ck 0 _ dZ dZ) fun x7 w7 hE G7=>?_
 refine mV3 hE ?_ B3 B4 HX;clear B3 B4 HX;intro B3 B4 HX;have hs_w7:=hE.size
 go_upto_region 2 with fail
 refine nmA ?_;intro w8 hE B5 hz_w8 hr_w8;refine mV4 hE ?_ G7 B3 B4 HX;clear G7 B3 B4 HX;intro G7 B3 B4 HX;obtain ⟨b3,hb3⟩:∃ b,b=w.heap.size:=⟨_,rfl⟩;obtain ⟨b4,hb4⟩:∃ b,b=w.heap.size+1:=⟨_,rfl⟩;obtain ⟨b5,hb5⟩:∃ b,b=w7.heap.size:=⟨_,rfl⟩;have hw4:w.heap.size≤b4:=zo;have hw5:w.heap.size≤b5:=zo;have h35:b3≠b5:=zo;have h45:b4≠b5:=zo;rw [←hb4] at B4 ⊢;rw [←hb3] at B3 ⊢;rw [←hb5] at B5 ⊢;clear hb3 hb4 hb5;have HY:Hid (aA w8 x7 (evV (l.drop n) x)):=Hi (by rw [List.drop_eq_nil_of_le (by rw [HLn.out];exact nXe _)];exact G7.out);go_wp2
 go_loopg [6] n (fun g v wr=>∃ (y:RH),v=.int .i64 ((g:Int)-1)∧g≤n∧Ext w wr∧wr.heap[b3]?=some (.cells #[.bool tn,.slice ta tl tc,.slice tb tm td] 34 (0,0))∧wr.heap[b4]?=some (.cells #[.bool false,.slice none 0 0,.slice none 0 0] 34 (0,0))∧wr.heap[b5]?=some (.cells #[.bool y.neg,.slice y.a y.n y.c,.slice y.b y.m y.d] 34 (0,0))∧aA wr y (evV (l.drop g) x))
 case atStart=>exact ⟨x7,rfl,nXe _,HX.out,B3.out,B4.out,B5.out,HY.out⟩
 case round =>
  obtain ⟨⟨yn,ya,yl,yc,yb,ym,yd⟩,rfl,hg,g1,g4,g5,g6,g7⟩:=hrel;clear HX B3 B4 B5 HY G7;have HX:=Hi g1;have LA:=Hi (H.out.ext g1);have HT:=Hi (HT0.out.ext g1);have B3:=Hi g4;have B4:=Hi g5;have B5:=Hi g6;have HY:=Hi g7;clear g1 g4 g5 g6 g7;replace b_B3:=bX3 B3;replace b_B4:=bX3 B4;replace b_B5:=bX3 B5;by_cases h0:gk=0
  case pos =>
   subst h0;clear LA;clear HT;go_wp2;refine aU (F:=fun W=>bodyPost _ _ _ _ _ W) B4.out rfl ?_;intro w9 T;replace HX:=Hi (T.ext HX.out zo);replace HY:=Hi (HY.out.keep T.keep);replace B4:=Hi (T.bx);clear T;replace b_B4:=bX3 B4;exact nXa (v:=RH.v ⟨yn,ya,yl,yc,yb,ym,yd⟩) (by simp [results,Tryz.results50,go_sem,b_B4.1]) rfl ⟨⟨yn,ya,yl,yc,yb,ym,yd⟩,rfl,HX.out,HY.out⟩
  obtain ⟨k,rfl⟩:∃ k,gk=k+1:=⟨gk-1,zo⟩;have hk1:((k+1:Nat):Int)-1=(k:Nat):=zo;rw [hk1];have hkn:k<n:=zo;have hk0:(0:Int)≤(k:Nat):=zo;have hin:(k:Int)<n:=zo;have ZY:Hid (Sz 40000000 (evV (l.drop (k+1)) x)):=Hi (HEs.out (k+1) (by rw [HLn.out];omega));have HE:=Hi (my l x (k:=k) (by rw [HLn.out];exact hkn));obtain ⟨ba,oa,r,hao,hbl,⟨hc1,hc2,hc3⟩,hPc⟩:=LA.out.cells' (k:=k) hkn;obtain ⟨rneg,ra,rn,rc,rb,rm,rd⟩:=r;simp only at hc1 hc2 hc3;have HC:=Hi hPc;clear hPc;subst hao
  go_upto_region 5 with fail
  refine wpG 8 (fun opIx=>match opIx with
   | 2=>sR (evV (l.drop (k+1)) x*x)
   | 7=>sR (evV (l.drop (k+1)) x*x+l.getD k 0)
   | _=>.quiet) (fun|7=>[2]|_=>[]) fun w0 he0 hz0 hc0 hf0=>?_
  refine wps he0 (fun w1 hW hG=>?_) fun x30=>?_
  ·exact spc [RH.v ⟨yn,ya,yl,yc,yb,ym,yd⟩,RH.v ⟨tn,ta,tl,tc,tb,tm,td⟩] Tryz.func48 (fV _ _ _ _ _ ((HY.out.ext hW).raw ZY.out dZ) (HT.out.ext hW))
  refine qZ ?_;refine wps he0 (fun w1 hW hG=>?_) fun x31=>?_
  ·have g30:=gS (hG 2 dZ);exact spc [x30.v,RH.v ⟨rneg,ra,rn,rc,rb,rm,rd⟩] Tryz.func46 (fY x30 _ _ _ _ (g30.raw (ZY.out.mul ZX.out) dZ) (HC.out.ext hW))
  refine qZ ?_;refine aj ?_;intro w14 hI;have hE:=he0.out.trans hI.ext;have G31:=gT (hI.facts 7);clear hI he0 hz0 hc0 hf0;refine mV4 hE ?_ B3 B5 HX B4;clear B3 B5 HX B4;intro B3 B5 HX B4;replace b_B5:=bX3 B5;simp only [pD];clear hc1 hc2 hc3;rw [←HE.out] at G31;clear LA;clear HT;clear HC
  go_upto_region 4 with fail
  refine aU B5.out rfl ?_;intro w15 T;replace HX:=Hi (T.ext HX.out zo);replace B3:=Hi (T.rest _ _ zo B3.out);replace B4:=Hi (T.rest _ _ zo B4.out);replace B5:=Hi (T.bx);replace G31:=Hi (G31.out.keep T.keep);clear T;go_wp2
  go_roundg k
  case measure=>omega
  case rel=>exact ⟨x31,by go_num,zo,HX.out,B3.out,B4.out,B5.out,G31.out⟩
theorem ET(a b:Rat):(if a<b then b else a)=hiV a b:=by
 unfold hiV;by_cases h:a<b
 ·rw [if_pos h,if_neg (by grind)]
 ·rw [if_neg h];by_cases h2:b<a
  ·rw [if_pos h2]
  ·rw [if_neg h2];grind
theorem vA(s t:RH)(a b:Rat)(w:World)(hs:aP w s a)(ht:aP w t b):ak 95 [s.v,t.v] w RH.v (fun x w'=>aA w' x (loV a b)):=by
 have HX:=Hi (Ext.refl w);have HS:=Hi hs;have HT:=Hi ht;clear hs ht;unfold ak;go_enter Tryz.func95,Tryz.ntmps95;obtain ⟨sn,sa,sl,sc,sb,sm,sd⟩:=s;obtain ⟨tn,ta,tl,tc,tb,tm,td⟩:=t
 go_upto_region 1 with fail
 refine qz ?_;intro w1 hE B2 B3 B4 hz_w1 hr_w1;refine mV3 hE ?_ HX HS HT;clear HX HS HT;intro HX HS HT;replace b_B2:=bX3 B2;replace b_B3:=bX3 B3
 go_wp2_with fail
 refine cM (kk ⟨tn,ta,tl,tc,tb,tm,td⟩ ⟨sn,sa,sl,sc,sb,sm,sd⟩ b a _ HT.out HS.out) fun x7 w7 hE _=>?_
 refine mV6 hE ?_ B2 B3 B4 HX HS HT;clear B2 B3 B4 HX HS HT;intro B2 B3 B4 HX HS HT;replace b_B2:=bX3 B2;replace b_B3:=bX3 B3;by_cases h:b<a
 case pos =>
  have HV:Hid (loV a b=b):=Hi (if_pos h);rw [decide_eq_true h];clear h
  go_wp2_with fail
  refine cM (dB ⟨tn,ta,tl,tc,tb,tm,td⟩ b _ HT.out) fun x9 w9 hE G9=>?_
  refine mV2 hE ?_ B4 HX;clear B4 HX;intro B4 HX;replace b_B4:=bX3 B4;go_wp2;refine aU (F:=fun W=>bodyPost _ _ _ _ _ W) B4.out rfl ?_;intro w10 T;replace HX:=Hi (T.ext HX.out zo);replace B4:=Hi (T.bx);replace G9:=Hi (G9.out.keep T.keep);clear T;replace b_B4:=bX3 B4;exact nXa (v:=RH.v x9) (by simp [results,Tryz.results95,go_sem,b_B4.1]) rfl ⟨x9,rfl,HX.out,by rw [HV.out];exact G9.out⟩
 have HV:Hid (loV a b=a):=Hi (if_neg h);rw [decide_eq_false h];clear h
 go_wp2_with fail
 refine cM (dB ⟨sn,sa,sl,sc,sb,sm,sd⟩ a _ HS.out) fun x11 w11 hE G11=>?_
 refine mV2 hE ?_ HX B4;clear HX B4;intro HX B4;replace b_B4:=bX3 B4;go_wp2;refine aU (F:=fun W=>bodyPost _ _ _ _ _ W) B4.out rfl ?_;intro w12 T;replace HX:=Hi (T.ext HX.out zo);replace B4:=Hi (T.bx);replace G11:=Hi (G11.out.keep T.keep);clear T;replace b_B4:=bX3 B4;exact nXa (v:=RH.v x11) (by simp [results,Tryz.results95,go_sem,b_B4.1]) rfl ⟨x11,rfl,HX.out,by rw [HV.out];exact G11.out⟩
theorem vB(s t:RH)(a b:Rat)(w:World)(hs:aP w s a)(ht:aP w t b):ak 96 [s.v,t.v] w RH.v (fun x w'=>aA w' x (hiV a b)):=by
 have HX:=Hi (Ext.refl w);have HS:=Hi hs;have HT:=Hi ht;clear hs ht;unfold ak;go_enter Tryz.func96,Tryz.ntmps96;obtain ⟨sn,sa,sl,sc,sb,sm,sd⟩:=s;obtain ⟨tn,ta,tl,tc,tb,tm,td⟩:=t
 go_upto_region 1 with fail
 refine qz ?_;intro w1 hE B2 B3 B4 hz_w1 hr_w1;refine mV3 hE ?_ HX HS HT;clear HX HS HT;intro HX HS HT;replace b_B2:=bX3 B2;replace b_B3:=bX3 B3
 go_wp2_with fail
 refine cM (kk ⟨sn,sa,sl,sc,sb,sm,sd⟩ ⟨tn,ta,tl,tc,tb,tm,td⟩ a b _ HS.out HT.out) fun x7 w7 hE _=>?_
 refine mV6 hE ?_ B2 B3 B4 HX HS HT;clear B2 B3 B4 HX HS HT;intro B2 B3 B4 HX HS HT;replace b_B2:=bX3 B2;replace b_B3:=bX3 B3;by_cases h:a<b
 case pos =>
  have HV:Hid (hiV a b=b):=Hi (by rw [←ET,if_pos h]);rw [decide_eq_true h];clear h
  go_wp2_with fail
  refine cM (dB ⟨tn,ta,tl,tc,tb,tm,td⟩ b _ HT.out) fun x9 w9 hE G9=>?_
  refine mV2 hE ?_ B4 HX;clear B4 HX;intro B4 HX;replace b_B4:=bX3 B4;go_wp2;refine aU (F:=fun W=>bodyPost _ _ _ _ _ W) B4.out rfl ?_;intro w10 T;replace HX:=Hi (T.ext HX.out zo);replace B4:=Hi (T.bx);replace G9:=Hi (G9.out.keep T.keep);clear T;replace b_B4:=bX3 B4;exact nXa (v:=RH.v x9) (by simp [results,Tryz.results96,go_sem,b_B4.1]) rfl ⟨x9,rfl,HX.out,by rw [HV.out];exact G9.out⟩
 have HV:Hid (hiV a b=a):=Hi (by rw [←ET,if_neg h]);rw [decide_eq_false h];clear h
 go_wp2_with fail
 refine cM (dB ⟨sn,sa,sl,sc,sb,sm,sd⟩ a _ HS.out) fun x11 w11 hE G11=>?_
 refine mV2 hE ?_ HX B4;clear HX B4;intro HX B4;replace b_B4:=bX3 B4;go_wp2;refine aU (F:=fun W=>bodyPost _ _ _ _ _ W) B4.out rfl ?_;intro w12 T;replace HX:=Hi (T.ext HX.out zo);replace B4:=Hi (T.bx);replace G11:=Hi (G11.out.keep T.keep);clear T;replace b_B4:=bX3 B4;exact nXa (v:=RH.v x11) (by simp [results,Tryz.results96,go_sem,b_B4.1]) rfl ⟨x11,rfl,HX.out,by rw [HV.out];exact G11.out⟩
theorem eV(s t:RH)(a b:Rat)(w:World)(hs:aP w s a)(ht:aP w t b):ak 39 [IvV (s,t)] w IvV (fun x w'=>aA w' x.1 (loV a b)∧aA w' x.2 (hiV a b)):=by
 have HX:=Hi (Ext.refl w);have HS:=Hi hs;have HT:=Hi ht;clear hs ht;unfold ak;go_enter Tryz.func39,Tryz.ntmps39;obtain ⟨sn,sa,sl,sc,sb,sm,sd⟩:=s;obtain ⟨tn,ta,tl,tc,tb,tm,td⟩:=t
 go_upto_region 1 with fail
 refine kE ?_;intro w1 hE B1 B2 hz_w1 hr_w1;refine mV3 hE ?_ HX HS HT;clear HX HS HT;intro HX HS HT;replace b_B1:=bX3 B1;refine wpG 11 (fun opIx=>match opIx with
  | 4=>sR (loV a b)
  | 9=>sR (hiV a b)
  | _=>.quiet) (fun _=>[]) fun w0 he0 hz0 hc0 hf0=>?_
 refine wps he0 (fun w1 hW hG=>?_) fun x20=>?_
 ·exact spc [RH.v ⟨sn,sa,sl,sc,sb,sm,sd⟩,RH.v ⟨tn,ta,tl,tc,tb,tm,td⟩] Tryz.func95 (vA _ _ _ _ _ (HS.out.ext hW) (HT.out.ext hW))
 refine qZ ?_;refine wps he0 (fun w1 hW hG=>?_) fun x21=>?_
 ·exact spc [RH.v ⟨sn,sa,sl,sc,sb,sm,sd⟩,RH.v ⟨tn,ta,tl,tc,tb,tm,td⟩] Tryz.func96 (vB _ _ _ _ _ (HS.out.ext hW) (HT.out.ext hW))
 refine qZ ?_;refine aj ?_;intro w2 hI;have hE:=he0.out.trans hI.ext;have G20:=gT (hI.facts 4);have G21:=gT (hI.facts 9);clear hI he0 hz0 hc0 hf0;refine mV2 hE ?_ B2 HX;clear B2 HX;intro B2 HX;replace b_B2:=bX3 B2;simp only [pD];go_wp2;refine bh (F:=fun W=>bodyPost _ _ _ _ _ W) B2.out rfl ?_;intro w10 T;replace HX:=Hi (T.ext HX.out zo);replace B2:=Hi (T.bx);replace G20:=Hi (G20.out.keep T.keep);replace G21:=Hi (G21.out.keep T.keep);clear T;replace b_B2:=bX3 B2;exact nXa (v:=IvV (x20,x21)) (by simp [results,Tryz.results39,go_sem,b_B2.1]) rfl ⟨(x20,x21),rfl,HX.out,G20.out,G21.out⟩
theorem rB(s t:RH)(a b:Rat)(w:World)(hs:aP w s a)(ht:aP w t b):ak 52 [s.v,t.v] w IvV (fun x w'=>aA w' x.1 (loV a b)∧aA w' x.2 (hiV a b)):=by
 have HX:=Hi (Ext.refl w);have HS:=Hi hs;have HT:=Hi ht;clear hs ht;unfold ak;go_enter Tryz.func52,Tryz.ntmps52;obtain ⟨sn,sa,sl,sc,sb,sm,sd⟩:=s;obtain ⟨tn,ta,tl,tc,tb,tm,td⟩:=t
 go_upto_region 1 with fail
 refine qz ?_;intro w1 hE B2 B3 B4 hz_w1 hr_w1;refine mV3 hE ?_ HX HS HT;clear HX HS HT;intro HX HS HT;replace b_B2:=bX3 B2;replace b_B3:=bX3 B3
 go_wp2_with fail
 refine cM (eV ⟨sn,sa,sl,sc,sb,sm,sd⟩ ⟨tn,ta,tl,tc,tb,tm,td⟩ a b _ HS.out HT.out) fun x8 w8 hE G8=>?_
 refine mV2 hE ?_ B4 HX;clear B4 HX;intro B4 HX;replace b_B4:=bX3 B4;have HL:=Hi G8.out.1;have HH:=Hi G8.out.2;clear G8;go_wp2;refine bh (F:=fun W=>bodyPost _ _ _ _ _ W) B4.out rfl ?_;intro w10 T;replace HX:=Hi (T.ext HX.out zo);replace B4:=Hi (T.bx);replace HL:=Hi (HL.out.keep T.keep);replace HH:=Hi (HH.out.keep T.keep);clear T;replace b_B4:=bX3 B4;exact nXa (v:=IvV x8) (by simp [results,Tryz.results52,go_sem,b_B4.1]) rfl ⟨x8,rfl,HX.out,HL.out,HH.out⟩
end Go.Proofs.YtafgmcimcbhhjaaGreat
