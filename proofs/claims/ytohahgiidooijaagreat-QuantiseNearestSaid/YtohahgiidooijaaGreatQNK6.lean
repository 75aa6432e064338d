/- Bernstein coefficients and the algorithm of de Casteljau. Plain facts. -/
import Derived.Test.YtohahgiidooijaaGreatQNK1
import Derived.Test.YtohahgiidooijaaGreatQNK2
import Derived.Test.YtohahgiidooijaaGreatQNK5
import Derived.Test.YtohahgiidooijaaGreatQNJnR
set_option linter.unusedVariables false
namespace Go.Proofs.YtohahgiidooijaaGreat
open Go.RowKit Go.Front Go.Num Stab
def row(n:Nat)(f:Nat→Rat):List Rat:=(List.range n).map f
def cs(t:Rat)(b:Nat→Rat)(i:Nat):Rat:=(1-t)*b i+t*b (i+1)
def csn:Nat→Rat→(Nat→Rat)→Nat→Rat
 | 0,_,b=>b
 | n+1,t,b=>csn n t (cs t b)
def vl(n:Nat)(b:Nat→Rat)(t:Rat):Rat:=csn n t b 0
def hf:Rat:=((1:Int):Rat) / ((2:Int):Rat)
theorem hf2:hf+hf=1:=by decide +kernel
end Go.Proofs.YtohahgiidooijaaGreat
/- cut, parts of package sturm. Printed by gen/sturm.py. -/
namespace Go.Proofs.YtohahgiidooijaaGreat
open Go.RowKit Go.Front Go.Num Stab
attribute [local go_sem] XW.cell XW.frozen
end Go.Proofs.YtohahgiidooijaaGreat
/- What package bernstein and its reference compute. Plain facts. -/
namespace Go.Proofs.YtohahgiidooijaaGreat
open Go.RowKit Go.Front Go.Num Stab
def hq(p:List Rat)(a w:Rat):Nat→Nat→Rat
 | 0,_=>0
 | j+1,0=>hq p a w j 0*a+p.getD (p.length-1-j) 0
 | j+1,k+1=>hq p a w j (k+1)*a+hq p a w j k*w
def hc(p:List Rat)(a w F G:Rat)(j k:Nat):Rat:=F*G ^ (j-1)*hq p a w j k
end Go.Proofs.YtohahgiidooijaaGreat
/- Package bernstein: denominator, common, positive; interval.Width, Mid. -/
namespace Go.Proofs.YtohahgiidooijaaGreat
open Go.RowKit Go.Front Go.Num Stab
attribute [local go_sem] XW.cell XW.frozen
end Go.Proofs.YtohahgiidooijaaGreat
/- QuantiseNearest returns true. -/
namespace Go.Proofs.YtohahgiidooijaaGreat
open Go.RowKit Go.Front Go.Num
attribute [local go_sem] XW.cell XW.frozen
theorem dO(w:World):av 6 [] w (fun _:Unit=>.bool true) (fun _ _=>True) :=
 (kf w).mono fun e w' ⟨h1,h2⟩=>⟨(),h1,h2,trivial⟩
theorem jJ(s t:SH)(xs ys:List Int)(w:World)(hn:xs.length=s.n)(hm:ys.length=t.n)(h1:aA w s.a xs)(h2:aA w t.a ys)(hl1:xs.length≤20000000000000)(hl2:ys.length≤20000000000000) :
  av 13 [s.v,t.v] w (fun _:Unit=>.bool (decide (xs=ys))) (fun _ _=>True) :=
 (eM s.a t.a s.n t.n s.c t.c xs ys w hn hm h1 h2 hl1 hl2).mono fun e w' ⟨h1,h2⟩=>⟨(),h1,h2,trivial⟩
theorem mU(k:Int)(w:World):av 9 [.int .i64 k] w Wd.v (fun x _=>x.valid=true∧x.b≤9) :=
 (lP k w).mono fun e w' ⟨x,h1,h2,h3,h4⟩=>⟨x,h1,h4,h2,h3⟩
theorem jx(v m:Int)(w:World)(hm:1≤m)(hm2:m≤4611686018427387904):av 11 [.int .i64 v,.int .i64 m] w (fun _:Unit=>.int .i64 (v % m)) (fun _ _=>True) :=
 (dr v m w hm hm2).mono fun e w' ⟨h1,h2⟩=>⟨(),h1,h2 ▸ Ext.refl w,trivial⟩
def mb(x:Wd)(n:Nat)(p:SH×List Int)(w:World):Prop:=p.1.n=n∧p.2.length=n∧(∀ v ∈ p.2,x.low≤v∧v≤x.high)∧aA w p.1.a p.2
theorem mb.ext{x:Wd}{n:Nat}{p:SH×List Int}{w w':World}(h:mb x n p w)(he:Ext w w'):mb x n p w':=⟨h.1,h.2.1,h.2.2.1,h.2.2.2.ext he⟩
instance {x:Wd} {n:Nat} {p:SH×List Int} {w w':World}:Go.Front.Mv w w' (mb x n p w) (mb x n p w'):=⟨fun e h=>mb.ext h e⟩

theorem ld(x:Wd)(hv:x.valid=true)(lo:Option Addr)(lcap len:Nat)(l:List Int)(n:Nat)(w:World)(hl:aA w lo l)(hln:l.length=len)(hn:n≤1000) :
  av 10 [x.v,.slice lo len lcap,.int .i64 n] w (fun p:SH×List Int=>p.1.v) (mb x n):=by
 subst hln;exact (gZ x hv lo lcap l n w hl hn).mono fun e w' ⟨xs,ao,cap,h1,h2,h3,h4,h5⟩=>⟨(⟨ao,n,cap⟩,xs),h1,h5,rfl,h2,h3,h4⟩
theorem f6{x:Wd}{v:Int}(hx:x.valid=true)(h:x.low≤v∧v≤x.high):-8388608≤v∧v≤8388607:=by have:=ka hx;omega
theorem lg(x:Wd)(v:Int)(w:World)(hx:x.valid=true)(h:x.low≤v∧v≤x.high):av 12 [x.v,.int .i64 v] w RH.v (fun y w'=>aQ w' y (gL x.f.toNat v)):=by
 obtain ⟨e,hf⟩:=fZ hx;have hb:=f6 hx h;have:=gO x.b x.r x.o x.f.toNat v w (by rw [←e];exact hx) hf (by omega) (by omega);rw [←e] at this;exact this
theorem j3(x:Wd)(qs:List Rat):(eE x qs).1.length≤49:=by
 unfold eE cJ;split
 ·split
  ·split
   ·exact Nat.zero_le _
   ·split
    ·rw [nXk];omega
    ·exact Nat.zero_le _
  ·exact Nat.zero_le _
 ·exact Nat.zero_le _
theorem mi{x:Wd}{v:Int}(hx:x.valid=true)(h:x.low≤v∧v≤x.high):Sz 2 (gL x.f.toNat v):=by
 have hb:=f6 hx h;exact (Sz.int (by simp [W32];omega)).div (f8 (fZ hx).2)
theorem kj{xs:List Int}{g:Int→Rat}{j:Nat}(hj:j<xs.length):(xs.take (j+1)).map g=(xs.take j).map g++[g (xs.getD j 0)]:=by
 rw [List.take_add_one,List.map_append,nXc,List.getElem?_eq_getElem hj];rfl
set_option maxRecDepth 8000 in
set_option maxHeartbeats 16000000 in
theorem jQ(a0:Option Addr)(n0 cap0:Nat)(rs:List RH)(x:Wd)(a2:Option Addr)(cap2:Nat)(xs2:List Int)(z3:Int)(w:World)(hI:RS w ⟨a0,n0,cap0⟩ rs)(hR:∀ r ∈ rs,fP w r)(hI2:aA w a2 xs2)(hl2:xs2.length≤9223372036854775807) :
  av 3 [.slice a0 n0 cap0,x.v,.slice a2 xs2.length cap2,.int .i64 z3] w (fun _:Unit=>.bool true) (fun _ _=>True):=by
 have HX:=Hi (Ext.refl w);have HI:=Hi hI;have HR:=Hi hR;have HI2:=Hi hI2;have hle:=hI.le;have hmx:=hI.max;have Hlen:=Hi hI.len;simp only at hle hmx Hlen;clear hI hR hI2;unfold av;go_enter Tryz.func3,Tryz.ntmps3
 go_upto_region 1 with fail
 refine nmA ?_;intro w1 hE B1 hz_w1 hr_w1;replace HX:=hE.tr HX;have hs_w1:=hE.size;clear hE;replace b_B1:=bX3 B1;have hz1:w.heap.size<w1.heap.size:=by omega
 go_wp2
 go_loopg [9] n0 (fun g i wr=>∃ (j:Nat),j+g=n0∧i=.int .i64 (j:Nat)∧Ext w wr∧wr.heap[w.heap.size]?=some (.cells #[.int .i64 x.b,.int .i64 x.f,.int .i64 x.r,.int .i64 x.o] 24 (0,0))∧(∀ k,k<j→n0≤60∧(rs.getD k default).n≤4∧(rs.getD k default).m≤4))
 case atStart=>exact ⟨0,by omega,rfl,HX.out,B1.out,fun k hk=>by omega⟩
 case round =>
  obtain ⟨j,hj,rfl,g1,g2,g3⟩:=hrel;clear HX B1;have HX:=Hi g1;have B1:=Hi g2;have HS:=Hi g3;clear g1 g2 g3;replace b_B1:=bX3 B1;by_cases h0:gk=0
  case neg =>
   have hjn:(j:Int)<n0:=by omega
   by_cases h60:60<n0
   case pos =>
    go_wp2_with fail
    refine cM (dO _) fun x2 w2 hE _=>?_
    refine mV2 hE ?_ HX B1;clear HX B1;intro HX B1;have hs_w2:=hE.size;clear hE;replace b_B1:=bX3 B1;go_wp2
    go_ret
    exact ⟨(),rfl,HX.out,trivial⟩
   obtain ⟨bb,off,hao,⟨hc1,hc2,hc3⟩⟩:=(HI.out.ext HX.out).at (k:=j) (by omega);obtain ⟨r,hr⟩:∃ r,r=rs.getD j default:=⟨_,rfl⟩;rw [←hr] at hc1 hc2 hc3;have Hr:=Hi hr;clear hr;obtain ⟨rneg,ra,rn,rc,rb,rm,rd⟩:=r;simp only at hc1 hc2 hc3;subst hao;by_cases h4:4<rn
   case pos =>
    go_wp2_with fail
    refine cM (dO _) fun x2 w2 hE _=>?_
    refine mV2 hE ?_ HX B1;clear HX B1;intro HX B1;have hs_w2:=hE.size;clear hE;replace b_B1:=bX3 B1;go_wp2
    go_ret
    exact ⟨(),rfl,HX.out,trivial⟩
   by_cases h5:4<rm
   case pos =>
    go_wp2_with fail
    refine cM (dO _) fun x2 w2 hE _=>?_
    refine mV2 hE ?_ HX B1;clear HX B1;intro HX B1;have hs_w2:=hE.size;clear hE;replace b_B1:=bX3 B1;go_wp2
    go_ret
    exact ⟨(),rfl,HX.out,trivial⟩
   go_wp2
   go_roundg (gk-1)
   case measure=>omega
   case rel =>
    refine ⟨j+1,by omega,by go_num,HX.out,B1.out,fun k hk=>?_⟩;rcases Nat.lt_or_ge k j with h|h
    ·exact HS.out k h
    ·obtain rfl:k=j:=by omega
     rw [←Hr.out];exact ⟨by omega,by show rn≤4;omega,by show rm≤4;omega⟩
  subst h0;obtain rfl:j=n0:=by omega
  have hjj:¬ (j:Int)<j:=by omega
  have hSm:SmD 4 rs:=by
   intro r hr;obtain ⟨k,hk,rfl⟩:=List.getElem_of_mem hr;have:=HS.out k (by rw [←Hlen.out];exact hk);simpa [hk] using this.2
  obtain ⟨qs,hq1,hq2⟩:=lp HI.out HR.out hSm (by decide) (by decide);have HQ:=Hi hq1;have HZ:=Hi hq2;have Hql:=Hi hq1.len;simp only at Hql;clear hq1 hq2 hSm
  go_wp2_with fail
  refine cM (eP x 4 a0 j cap0 qs _ (HQ.out.ext HX.out) (fun _=>HZ.out) (by decide)) fun x21 w21 hE G21=>?_
  refine mV2 hE ?_ HX B1;clear HX B1;intro HX B1;have hs_w21:=hE.size;clear hE;replace b_B1:=bX3 B1;obtain ⟨P,hP⟩:∃ P,P=eE x qs:=⟨_,rfl⟩;have HPl:Hid (P.1.length≤49):=Hi (by rw [hP];exact j3 x qs);have HPe:=Hi hP;clear hP;rw [←HPe.out] at G21;obtain ⟨⟨sa1,sn1,sc1⟩,e1⟩:=x21;obtain ⟨he1,hn1,hi1⟩:=G21.out;simp only at he1 hn1 hi1;subst he1;have A1:=Hi hi1;have N1:=Hi hn1;clear G21 hi1 hn1
  go_wp2_with fail
  refine cM (i9 x 4 a0 j cap0 qs _ (HQ.out.ext HX.out) (fun _=>HZ.out) (by decide)) fun x22 w22 hE G22=>?_
  refine mV3 hE ?_ HX B1 A1;clear HX B1 A1;intro HX B1 A1;have hs_w22:=hE.size;clear hE;replace b_B1:=bX3 B1;rw [←HPe.out] at G22;obtain ⟨⟨sa2,sn2,sc2⟩,e2⟩:=x22;obtain ⟨he2,hn2,hi2⟩:=G22.out;simp only at he2 hn2 hi2;subst he2;have A2:=Hi hi2;have N2:=Hi hn2;clear G22 hi2 hn2
  go_wp2_with fail
  refine cM (mU z3 _) fun x23 w23 hE G23=>?_
  refine mV4 hE ?_ HX B1 A1 A2;clear HX B1 A1 A2;intro HX B1 A1 A2;have hs_w23:=hE.size;clear hE;replace b_B1:=bX3 B1;obtain ⟨hu,-⟩:=G23.out;have HU:=Hi hu;clear hu G23;obtain ⟨m,hm⟩:∃ m:Nat,(xs2.length:Int) % 8=(m:Int):=⟨((xs2.length:Int) % 8).toNat,by omega⟩;have hm8:m<8:=by omega
  have Hm:=Hi hm;clear hm
  go_upto_region 9 with fail
  refine nmA ?_;intro y8 hE B14 hz_y8 hr_y8;refine mV4 hE ?_ HX B1 A1 A2;clear HX B1 A1 A2;intro HX B1 A1 A2;have hs_y8:=hE.size;clear hE;replace b_B1:=bX3 B1;replace b_B14:=bX3 B14;obtain ⟨b14,hb14⟩:∃ k,k=w23.heap.size:=⟨_,rfl⟩;rw [←hb14] at B14 ⊢;have B14h:=B14;clear hb14
  (try clear b_B14);clear B14
  (try clear b_B1);clear B1
  have B14k:Hid (y8.heap[b14]?=some (.cells #[.int .i64 x23.b,.int .i64 x23.f,.int .i64 x23.r,.int .i64 x23.o] 24 (0,0))):=B14h;replace b_B14k:=bX3 B14k;refine wpG 7 (fun opIx=>match opIx with
   | 4=>.spec Unit () (fun _=>.int .i64 (m:Nat)) (fun _ _=>True)
   | 5=>.spec (SH×List Int) ((default,[])) (fun p:SH×List Int=>p.1.v) (mb x23 m)
   | _=>.quiet) (fun _=>[]) fun w0 he0 hz0 hc0 hf0=>?_
  refine wps he0.out rfl rfl (fun w1 hW hG=>?_) fun x41=>?_
  ·exact spc [.int .i64 xs2.length,.int .i64 8] Tryz.func11 ((by rw [←Hm.out];exact jx _ 8 _ (by decide) (by decide)))
  refine qZ ?_;refine wps he0.out rfl rfl (fun w1 hW hG=>?_) fun x42=>?_
  ·exact spc [x23.v,.slice a2 xs2.length cap2,.int .i64 (m:Nat)] Tryz.func10 (ld x23 HU.out a2 cap2 _ xs2 m _ (HI2.out.ext (HX.out.trans hW)) rfl (by omega))
  refine qZ ?_;refine am ?_;intro w9 hI;have hE:=he0.out.trans hI.ext;have G42:=gT (hI.facts 5);clear hI he0 hz0 hc0 hf0;refine mV4 hE ?_ A1 A2 B14k HX;clear A1 A2 B14k HX;intro A1 A2 B14k HX;have hs_w9:=hE.size;clear hE;replace b_B14k:=bX3 B14k;simp only [pD];obtain ⟨⟨ya,yn,yc⟩,ws⟩:=x42;obtain ⟨hw1,hw2,hw3,hw4⟩:=G42.out;simp only at hw1 hw2 hw3 hw4;subst hw1;have AW:=Hi hw4;have HWb:=Hi hw3;have HWl:=Hi hw2;clear G42 hw2 hw3 hw4;go_wp2;have h14:b14<w9.heap.size:=b_B14k.2.2
  go_loopg [16,17] yn (fun g v i wr=>∃ (k:Nat) (s:SH),v=s.v∧k+g=yn∧i=.int .i64 (k:Nat)∧Ext w9 wr∧dI wr (fun b=>w9.heap.size≤b) s.v ((ws.take k).map (gL x23.f.toNat)))
  case atStart=>exact ⟨0,⟨none,0,0⟩,rfl,by omega,rfl,Ext.refl _,dI.nil _ _⟩
  case round =>
   obtain ⟨k,⟨sa,sn,sc⟩,rfl,hk,rfl,g1,g2⟩:=hrel;have HXr:=Hi g1;have HO:=Hi g2;have HX':=Hi (HX.out.trans g1);have A1':=Hi (A1.out.ext g1);have A2':=Hi (A2.out.ext g1);have AW':=Hi (AW.out.ext g1);have B14:=Hi (g1.block B14k.out);have hszr:=g1.size;clear g1 g2;simp only [SH.v];replace b_B14:=bX3 B14;by_cases h0:gk=0
   case neg =>
    have hkn:(k:Int)<yn:=by omega
    obtain ⟨bb,off,hya,hcv⟩:=AW'.out.at (k:=k) (by rw [HWl.out];omega);subst hya;have hbl:=nXo _ _ hcv;simp only at hbl;obtain ⟨v,hv⟩:∃ v,v=ws.getD k 0:=⟨_,rfl⟩;rw [←hv] at hcv;have HVB:Hid (x23.low≤v∧v≤x23.high):=Hi (HWb.out v (by rw [hv,nXc,List.getElem?_eq_getElem (by rw [HWl.out];omega)];exact List.getElem_mem _));have HV:=Hi hv;clear hv
    go_upto_region 14 with fail
    refine wpG 8 (fun opIx=>match opIx with
     | 6=>.spec RH default RH.v (fun s w'=>aQ w' s (gL x23.f.toNat v))
     | 7=>.spec (Nat×RH) ((0,default)) (fun p=>.slice (some ⟨p.1,0,none⟩) 1 1) (fun p w'=>dJ w' p (gL x23.f.toNat v))
     | _=>.quiet) (fun|7=>[6]|_=>[]) fun w0 he0 hz0 hc0 hf0=>?_
    refine wps he0.out rfl rfl (fun w1 hW hG=>?_) fun x31=>?_
    ·exact spc [x23.v,.int .i64 v] Tryz.func12 (lg x23 v _ HU.out HVB.out)
    refine qZ ?_;refine wps he0.out rfl rfl (fun w1 hW hG=>?_) fun x32=>?_
    ·have g31:=(hG 6 (by decide):aM _ _).get fun _ e g=>g.ext e
     exact i4 x31 _ g31 rfl (by simp [execOp,go_sem])
    refine qZ ?_;refine am ?_;intro w14 hI;have hE:=he0.out.trans hI.ext;have G31:=gT (hI.facts 6);have G32:=gT (hI.facts 7);clear hI he0 hz0 hc0 hf0;replace HXr:=hE.tr HXr;replace HX':=Hi (HX'.out.trans hE);refine mV5 hE ?_ A1' A2' AW' HO B14;clear A1' A2' AW' HO B14;intro A1' A2' AW' HO B14;have hs_w14:=hE.size;clear hE;replace b_B14:=bX3 B14;simp only [pD];clear hcv
    go_upto_region 13 with (at_builtin;refine dR rfl (.tmp 75) (.tmp 82) 22 Tryz.underlying22 rfl (fun b=>w9.heap.size≤b) _ _ x32.2 _ x32.1 rfl HO.out rfl G32.out.1 G32.out.2 (by rw [nXk,nXj];omega) (fun k hk=>by show w9.heap.size≤k;omega) ?_;intro s' y3 q1 q2 q3)
    have HX3:=Hi (Ext.mods HXr.out q2 (fun k h=>h));have HO3:Hid (dI y3 (fun b=>w9.heap.size≤b) s'.v ((ws.take (k+1)).map (gL x23.f.toNat))):=Hi (by rw [kj (by rw [HWl.out];omega),←HV.out];exact q1);clear q1 q2 q3;go_wp2
    go_roundg (gk-1)
    case measure=>omega
    case rel=>exact ⟨k+1,s',rfl,by omega,by go_num,HX3.out,HO3.out⟩
   subst h0;obtain rfl:k=yn:=by omega
   have hkk:¬ (k:Int)<k:=by omega
   have HTk:Hid (ws.take k=ws):=Hi (nXl (by rw [HWl.out];exact nXd _));rw [HTk.out] at HO;have hsn:=dI.len (s:=⟨sa,sn,sc⟩) HO.out;rw [nXk,HWl.out] at hsn;simp only at hsn;subst hsn;have HYc:=dI.can (s:=⟨sa,k,sc⟩) HO.out;have HZy:Hid (SzL 2 (ws.map (gL x23.f.toNat))):=Hi (by
    intro q hq;obtain ⟨v,hv,rfl⟩:=nXw.1 hq;exact mi HU.out (HWb.out v hv))
   have HYr:=Hi (HYc.raw HZy.out (by decide));clear HYc;have HBk:Hid (eE x23 (ws.map (gL x23.f.toNat))=(ws,0)):=Hi (jr HU.out (by rw [HWl.out];omega) HWb.out);clear HO
   go_wp2_with fail
   refine cM (eP x23 2 sa k sc _ _ HYr.out (fun _=>HZy.out) (by decide)) fun x51 w51 hE G51=>?_
   replace HXr:=hE.tr HXr;replace HX':=Hi (HX'.out.trans hE);refine mV4 hE ?_ A1' A2' AW' B14;clear A1' A2' AW' B14;intro A1' A2' AW' B14;have hs_w51:=hE.size;clear hE;replace b_B14:=bX3 B14;rw [HBk.out] at G51;obtain ⟨⟨za,zn,zc⟩,e5⟩:=x51;obtain ⟨he5,hn5,hi5⟩:=G51.out;simp only at he5 hn5 hi5;subst he5;have A5:=Hi hi5;have N5:=Hi hn5;clear G51 hi5 hn5
   go_wp2_with fail
   refine cM (dO _) fun x52 w52 hE _=>?_
   replace HXr:=hE.tr HXr;replace HX':=Hi (HX'.out.trans hE);refine mV5 hE ?_ A1' A2' AW' B14 A5;clear A1' A2' AW' B14 A5;intro A1' A2' AW' B14 A5;have hs_w52:=hE.size;clear hE;replace b_B14:=bX3 B14
   go_wp2_with fail
   refine cM (jJ ⟨sa1,sn1,sc1⟩ ⟨sa2,sn2,sc2⟩ P.1 P.1 _ N1.out.symm N2.out.symm A1'.out A2'.out (by have:=HPl.out;omega) (by have:=HPl.out;omega)) fun x53 w53 hE _=>?_
   replace HXr:=hE.tr HXr;replace HX':=Hi (HX'.out.trans hE);refine mV5 hE ?_ A1' A2' AW' B14 A5;clear A1' A2' AW' B14 A5;intro A1' A2' AW' B14 A5;have hs_w53:=hE.size;clear hE;replace b_B14:=bX3 B14;rw [show decide (P.1=P.1)=true from decide_eq_true rfl]
   go_wp2_with fail
   refine cM (jJ ⟨za,zn,zc⟩ ⟨ya,k,yc⟩ ws ws _ N5.out.symm HWl.out A5.out AW'.out (by rw [HWl.out];omega) (by rw [HWl.out];omega)) fun x54 w54 hE _=>?_
   replace HXr:=hE.tr HXr;replace HX':=Hi (HX'.out.trans hE);refine mV5 hE ?_ A1' A2' AW' B14 A5;clear A1' A2' AW' B14 A5;intro A1' A2' AW' B14 A5;have hs_w54:=hE.size;clear hE;replace b_B14:=bX3 B14;rw [show decide (ws=ws)=true from decide_eq_true rfl];go_wp2
   go_ret
   exact ⟨(),rfl,HX'.out,trivial⟩
end Go.Proofs.YtohahgiidooijaaGreat
