/- check, small, Reflections of the reference 18. -/
import Derived.Test.YtofhkmcllihgmaaGreatQLK7
import Derived.Test.YtofhkmcllihgmaaGreatQLM11
import Derived.Test.YtofhkmcllihgmaaGreatQLM22
import Derived.Test.YtofhkmcllihgmaaGreatQLK1
import Derived.Test.YtofhkmcllihgmaaGreatQLK6
import Derived.Test.YtofhkmcllihgmaaGreatQLK4
set_option linter.unusedVariables false
namespace Go.Proofs.YtofhkmcllihgmaaGreat
open Go.RowKit Go.Front Go.Num
attribute [local go_sem] XW.cell XW.frozen
theorem tR(q:Rat):q.abs<((1:Int):Rat)↔-1<q∧q<1:=by
 rw [show ((1:Int):Rat)=1 from rfl];unfold Rat.abs;split <;> constructor <;> intros <;> grind
set_option maxRecDepth 4000 in
set_option maxHeartbeats 1000000 in
theorem kT(s:RH)(q:Rat)(w:World)(h:bi w s q):aq 225 [s.v] w (fun _:Unit=>.bool (decide (-1<q∧q<1))) (fun _ _=>True):=by
 obtain ⟨neg,ao,n,c,bo,m,d⟩:=s;have HR:=Hi h;have HS:=Hi h.szk;have HC:Hid (decide (q.abs<((1:Int):Rat))=decide (-1<q∧q<1)):=Hi (decide_eq_decide.2 (tR q));have HX:=Hi (Ext.refl w);have Z1:Hid (Sz 1 ((1:Int):Rat)):=Hi (Sz.int (by decide));clear h;unfold aq;go_enter Tryz.func225,Tryz.ntmps225
 go_upto_region 1 with fail
 refine nmA ?_;intro w1 hE B1 hz_w1 hr_w1;refine mV2 hE ?_ HR HX;clear HR HX;intro HR HX;have hs_w1:=hE.size;clear hE;replace b_B1:=bX3 B1
 go_wp2_with fail
 refine cM (nZ ⟨neg,ao,n,c,bo,m,d⟩ q _ HR.out) fun x2 w2 hE G2=>?_
 refine mV3 hE ?_ B1 HR HX;clear B1 HR HX;intro B1 HR HX;have hs_w2:=hE.size;clear hE;replace b_B1:=bX3 B1
 go_wp2_with fail
 refine cM (fI 1 _ (by decide) (by decide)) fun x3 w3 hE G3=>?_
 refine mV4 hE ?_ G2 B1 HR HX;clear G2 B1 HR HX;intro G2 B1 HR HX;have hs_w3:=hE.size;clear hE;replace b_B1:=bX3 B1
 go_wp2_with fail
 refine cM (mX x2 x3 _ _ _ (G2.out.raw HS.out.abs (by decide)) (G3.out.raw Z1.out (by decide))) fun x4 w4 hE _=>?_
 refine mV5 hE ?_ G3 G2 B1 HR HX;clear G3 G2 B1 HR HX;intro G3 G2 B1 HR HX;have hs_w4:=hE.size;clear hE;replace b_B1:=bX3 B1;rw [HC.out];go_wp2
 go_ret
 exact ⟨(),dm (Bool.decide_and _ _).symm,HX.out,trivial⟩
end Go.Proofs.YtofhkmcllihgmaaGreat
/- StepUp, Stable, Inside of the reference 18. -/
set_option linter.unusedVariables false
namespace Go.Proofs.YtofhkmcllihgmaaGreat
open Go.RowKit Go.Front Go.Num
attribute [local go_sem] XW.cell XW.frozen
def upE(c:List Rat)(r:Rat)(m i:Nat):Rat:=c.getD i 0+r*c.getD (m-i) 0
theorem t7{c:List Rat}{j:Nat}(r:Rat)(hc:c.length=j+1):(List.range (j+2)).map (upE c r (j+1))=Stab.up c r:=by
 rw [←qe r hc];apply List.map_congr_left;intro i _;unfold upE;rw [Stab.snoc0_getD,Stab.snoc0_getD]
set_option maxRecDepth 8000 in
set_option maxHeartbeats 4000000 in
theorem j2(ao:Option Addr)(n cap:Nat)(ks:List Rat)(w:World)(h:bW w ⟨ao,n,cap⟩ ks)(hok:vW ks) :
  aq 134 [.slice ao n cap] w RF (fun x w'=>x.2=(upV ks).1∧aI w' x.1 (upV ks).2):=by
 have H:=Hi h;have HX:=Hi (Ext.refl w);have Hlen:=Hi h.len;have hle:=h.le;have hmx:=h.max;simp only at hle hmx Hlen;have HZ:=Hi hok.1;have HU:Hid (∀ j,j≤n→SzL 8388608 (Stab.ups (ks.take j))):=Hi (fun j hj=>hok.2 j (by rw [Hlen.out];exact hj));clear h hok;unfold aq;by_cases h48:48<n
 case pos =>
  have h48i:(48:Int)<n:=by omega
  have HV:Hid (upV ks=(12,[])):=Hi (by unfold upV;rw [if_pos (by rw [Hlen.out];exact h48)]);go_enter Tryz.func134,Tryz.ntmps134;go_wp2;exact bodyPost_ret (v:=RF (⟨none,0,0⟩,12)) (by simp [results,Tryz.results134,go_sem,RF]) rfl ⟨(⟨none,0,0⟩,12),rfl,HX.out,by rw [HV.out],by rw [HV.out];exact (bv.nil 0 _).can⟩
 have h48i:¬ (48:Int)<n:=by omega
 have HV:Hid (upV ks=if ∀ r ∈ ks,-1<r∧r<1 then (0,tz (Stab.ups ks)) else (14,[])):=Hi (by unfold upV;rw [if_neg (by rw [Hlen.out];exact h48)]);go_enter Tryz.func134,Tryz.ntmps134
 go_wp2_with fail
 refine cM (fI 1 _ (by decide) (by decide)) fun x1 w1 hE G1=>?_
 replace HX:=hE.tr HX;have hs_w1:=hE.size;clear hE
 go_upto_region 4 with fail
 refine nmA ?_;intro w2 hE B2 hz_w2 hr_w2;refine mV2 hE ?_ G1 HX;clear G1 HX;intro G1 HX;have hs_w2:=hE.size;clear hE;replace b_B2:=bX3 B2;have LA:Hid (aI w2 ⟨some ⟨w1.heap.size,0,none⟩,1,1⟩ (Stab.ups (ks.take 0))):=Hi (mG B2.out G1.out)
 (try clear b_B2);clear B2
 clear G1;go_wp2
 go_loopg [4,16] n (fun g u z wr=>∃ (j:Nat) (x:SH),u=x.v∧j+g=n∧z=.int .i64 (j:Nat)∧Ext w wr∧aI wr x (Stab.ups (ks.take j))∧∀ r ∈ ks.take j,-1<r∧r<1)
 case atStart=>exact ⟨0,⟨some ⟨w1.heap.size,0,none⟩,1,1⟩,rfl,by omega,rfl,HX.out,LA.out,fun r hr=>by simp at hr⟩
 case round =>
  obtain ⟨j,⟨sa,sn,sc⟩,rfl,hj,rfl,g1,g2,g3⟩:=hrel;clear HX LA;have HX:=Hi g1;have LA:=Hi g2;have HS:=Hi g3;have hsn:=g2.len;rw [Stab.ups_length,List.length_take,Hlen.out,Nat.min_eq_left (by omega)] at hsn;simp only at hsn;subst hsn;have ZA:=Hi (HU.out j (by omega));clear g1 g2 g3;simp only [SH.v];by_cases h0:gk=0
  case pos =>
   subst h0;obtain rfl:j=n:=by omega
   have HT:Hid (ks.take j=ks):=Hi (List.take_of_length_le (by rw [Hlen.out];exact Nat.le_refl _));have HV2:Hid (upV ks=(0,tz (Stab.ups (ks.take j)))):=Hi (by
    rw [HV.out,HT.out,if_pos];have:=HS.out
    rwa [HT.out] at this)
   have hjn:¬ (j:Int)<j:=by omega
   go_wp2_with fail
   refine cM (ft sa (j+1) sc _ _ (LA.out.raw ZA.out (by decide)) (by omega)) fun x20 w20 hE G20=>?_
   refine mV2 hE ?_ HX LA;clear HX LA;intro HX LA;have hs_w20:=hE.size;clear hE;go_wp2;exact bodyPost_ret (v:=RF (x20,0)) (by simp [results,Tryz.results134,go_sem,RF]) rfl ⟨(x20,0),rfl,HX.out,by rw [HV2.out],by rw [HV2.out];exact G20.out.can⟩
  have hjn:(j:Int)<n:=by omega
  obtain ⟨r,hr⟩:∃ r,r=ks.getD j 0:=⟨_,rfl⟩;have hmem:ks.getD j 0 ∈ ks:=by
   rw [show ks.getD j 0=ks[j]'(by rw [Hlen.out];omega) by simp [show j<ks.length by rw [Hlen.out];omega]];exact List.getElem_mem _
  have ZR:Hid (Sz 8388608 r):=Hi (by rw [hr];exact HZ.out _ hmem);obtain ⟨b,off,q,hao,hbl,⟨hc1,hc2,hc3⟩,hP⟩:=(H.out.ext HX.out).cells' (k:=j) (by omega);rw [←hr] at hP;obtain ⟨rneg,ra,rn,rc,rb,rm,rd⟩:=q;simp only at hc1 hc2 hc3;have RP:=Hi hP;clear hP;subst hao
  go_upto_region 7 with fail
  refine nmA ?_;intro y1 hE B6 hz_y1 hr_y1;refine mV3 hE ?_ HX LA RP;clear HX LA RP;intro HX LA RP;have hs_y1:=hE.size;clear hE;replace b_B6:=bX3 B6;clear hc1 hc2 hc3 hbl
  go_wp2_with fail
  refine cM (kT ⟨rneg,ra,rn,rc,rb,rm,rd⟩ r _ RP.out) fun x2 w2 hE _=>?_
  refine mV4 hE ?_ B6 HX LA RP;clear B6 HX LA RP;intro B6 HX LA RP;have hs_w2:=hE.size;clear hE;replace b_B6:=bX3 B6;by_cases hsm:-1<r∧r<1
  case neg =>
   have HV2:Hid (upV ks=(14,[])):=Hi (by rw [HV.out,if_neg (fun h=>hsm (by rw [hr];exact h _ hmem))]);rw [decide_eq_false hsm];go_wp2;exact bodyPost_ret (v:=RF (⟨none,0,0⟩,14)) (by simp [results,Tryz.results134,go_sem,RF]) rfl ⟨(⟨none,0,0⟩,14),rfl,HX.out,by rw [HV2.out],by rw [HV2.out];exact (bv.nil 0 _).can⟩
  rw [decide_eq_true hsm];have HS2:Hid (∀ r ∈ ks.take (j+1),-1<r∧r<1):=Hi (by
   rw [←b0 (by rw [Hlen.out];omega)];intro x hx;rcases List.mem_append.1 hx with h1|h1
   ·exact HS.out x h1
   ·obtain rfl:x=ks.getD j 0:=by simpa using h1
    rw [←hr];exact hsm)
  obtain ⟨c,hc⟩:∃ c,c=Stab.ups (ks.take j):=⟨_,rfl⟩;have HC:Hid ((List.range (j+2)).map (upE c r (j+1))=Stab.ups (ks.take (j+1))):=Hi (by
   rw [pY (by rw [Hlen.out];omega),←hc,←hr];exact t7 r (by rw [hc,Stab.ups_length,List.length_take,Hlen.out];omega))
  rw [←hc] at LA ZA;clear hsm hc hmem hr HS;have HWy:Hid (w.heap.size≤w2.heap.size):=Hi HX.out.size;go_wp2
  go_loopg [7,8] (j+2) (fun g u z wr2=>∃ (i:Nat) (x:SH),u=x.v∧i+g=j+2∧z=.int .i64 (i:Nat)∧Ext w2 wr2∧bA wr2 (w2.heap.size≤·) x.v ((List.range i).map (upE c r (j+1))))
  case atStart=>exact ⟨0,⟨none,0,0⟩,rfl,by omega,rfl,Ext.refl _,bA.nil _ _⟩
  case round =>
   obtain ⟨i,⟨xa,xn,xc⟩,rfl,hi,rfl,g1,g2⟩:=hrel;have HE:=Hi g1;have HO:=Hi g2;clear g1 g2;simp only [SH.v];refine mV2 HE.out ?_ LA RP;clear LA RP;intro LA RP;replace HX:=Hi (HX.out.trans HE.out);replace B6:=Hi (HE.out.block B6.out);have hszr:=HE.out.size;clear b_B6;replace b_B6:=bX3 B6;by_cases h1:gk=0
   case pos =>
    subst h1;obtain rfl:i=j+2:=by omega
    have hig:¬ ((j:Int)+2≤(j:Int)+1):=by omega
    have hig':¬ (((j+2:Nat):Int)≤(j:Int)+1):=by omega
    have LN:Hid (aI wr ⟨xa,xn,xc⟩ (Stab.ups (ks.take (j+1)))):=Hi (by rw [←HC.out];exact bA.can (s:=⟨xa,xn,xc⟩) HO.out);go_wp2
    go_roundg (n-(j+1))
    case measure=>omega
    case rel=>exact ⟨j+1,⟨xa,xn,xc⟩,rfl,by omega,by go_num,HX.out,LN.out,HS2.out⟩
   obtain ⟨i2,hi2⟩:∃ i2,i2=j+1-i:=⟨_,rfl⟩;have hI2:(j:Int)+1-(i:Int)=(i2:Nat):=by omega
   have hi2b:i2≤100:=by omega
   have hig:(i:Int)≤(j:Int)+1:=by omega
   have ZI:=Hi (ZA.out.getD (by decide) i);have ZJ:=Hi (ZA.out.getD (by decide) i2);have HNx:Hid ((List.range (i+1)).map (upE c r (j+1))=(List.range i).map (upE c r (j+1))++[c.getD i 0+r*c.getD i2 0]):=Hi (by rw [bf,hi2];rfl);have HLn:Hid (((List.range i).map (upE c r (j+1))).length≤1073741824):=Hi (by rw [List.length_map,List.length_range];omega);clear hi2
   go_upto_region 13 with fail
   refine wpG 14 (fun opIx=>match opIx with
    | 3=>.spec RH default RH.v (fun s w'=>au w' s (c.getD i 0))
    | 10=>.spec RH default RH.v (fun s w'=>au w' s (c.getD i2 0))
    | 11=>.spec RH default RH.v (fun s w'=>au w' s (r*c.getD i2 0))
    | 12=>.spec RH default RH.v (fun s w'=>au w' s (c.getD i 0+r*c.getD i2 0))
    | 13=>.spec (Nat×RH) ((0,default)) (fun p=>.slice (some ⟨p.1,0,none⟩) 1 1) (fun p w'=>gB w' p (c.getD i 0+r*c.getD i2 0))
    | _=>.quiet) (fun|11=>[10]|12=>[3,11]|13=>[12]|_=>[]) fun w0 he0 hz0 hc0 hf0=>?_
   refine wps he0.out rfl rfl (fun w1 hW hG=>?_) fun x30=>?_
   ·exact spc [.slice sa (j+1) sc,.int .i64 (i:Nat)] Tryz.func143 (pF sa (j+1) sc c i _ ((LA.out.ext hW).raw ZA.out (by decide)) (by omega))
   refine qZ ?_;refine wps he0.out rfl rfl (fun w1 hW hG=>?_) fun x31=>?_
   ·exact spc [.slice sa (j+1) sc,.int .i64 (i2:Nat)] Tryz.func143 (pF sa (j+1) sc c i2 _ ((LA.out.ext hW).raw ZA.out (by decide)) (by omega))
   refine qZ ?_;refine wps he0.out rfl rfl (fun w1 hW hG=>?_) fun x32=>?_
   ·have g31:=(hG 10 (by decide):ay _ _).get fun _ e g=>g.ext e
    exact spc [RH.v ⟨rneg,ra,rn,rc,rb,rm,rd⟩,x31.v] Tryz.func38 (ib _ x31 _ _ _ (RP.out.ext hW) (g31.raw ZJ.out (by decide)))
   refine qZ ?_;refine wps he0.out rfl rfl (fun w1 hW hG=>?_) fun x33=>?_
   ·have g30:=(hG 3 (by decide):ay _ _).get fun _ e g=>g.ext e
    have g32:=(hG 11 (by decide):ay _ _).get fun _ e g=>g.ext e
    exact spc [x30.v,x32.v] Tryz.func31 (ij x30 x32 _ _ _ (g30.raw ZI.out (by decide)) (g32.raw (ZR.out.mul ZJ.out) (by decide)))
   refine qZ ?_;refine wps he0.out rfl rfl (fun w1 hW hG=>?_) fun x35=>?_
   ·have g33:=(hG 12 (by decide):ay _ _).get fun _ e g=>g.ext e
    exact mO x33 _ g33 rfl (by simp [execOp,go_sem])
   refine qZ ?_;refine wpF_nil ?_;intro w16 hI;have hE:=he0.out.trans hI.ext;have G30:=gT (hI.facts 3);have G31:=gT (hI.facts 10);have G32:=gT (hI.facts 11);have G33:=gT (hI.facts 12);have G35:=gT (hI.facts 13);clear hI he0 hz0 hc0 hf0;refine mV6 hE ?_ HE HO HX B6 LA RP;clear HE HO HX B6 LA RP;intro HE HO HX B6 LA RP;have hs_w16:=hE.size;clear hE;replace b_B6:=bX3 B6;simp only [pD]
   go_wp2_with (at_builtin;refine bY rfl (.tmp 30) (.tmp 43) 41 Tryz.underlying41 rfl (w2.heap.size≤·) _ _ x35.2 _ x35.1 rfl HO.out rfl G35.out.1 G35.out.2 HLn.out (fun k hk=>by omega) ?_;intro s' y17 q1 q2 q3)
   have HE3:=Hi (Ext.mods HE.out q2 (fun k h=>h));have HO3:Hid (bA y17 (w2.heap.size≤·) s'.v ((List.range (i+1)).map (upE c r (j+1)))):=Hi (by rw [HNx.out];exact q1);clear q1 q2 q3;go_wp2
   go_roundg (gk-1)
   case measure=>omega
   case rel=>exact ⟨i+1,s',rfl,by omega,by go_num,HE3.out,HO3.out⟩
end Go.Proofs.YtofhkmcllihgmaaGreat
/- Filter of make. -/
set_option linter.unusedVariables false
namespace Go.Proofs.YtofhkmcllihgmaaGreat
open Go.RowKit Go.Front Go.Num
attribute [local go_sem] XW.cell XW.frozen
set_option maxRecDepth 8000 in
set_option maxHeartbeats 4000000 in
theorem ni(bo ko:Option Addr)(bc kc:Nat)(bs ks:List Int)(w:World)(hb:br w bo bs)(rb:InR bs)(lb:bs.length≤9223372036854775807)(cb:bs.length≤bc)(mb:bc≤9223372036854775807)
 (hk:br w ko ks)(rk:InR ks)(lk:ks.length≤9223372036854775807)(ck:ks.length≤kc)(mk:kc≤9223372036854775807) :
  aq 56 [.slice bo bs.length bc,.slice ko ks.length kc] w FH.v (fun f w'=>vi w' f (o5 bs) (pV ks)):=by
 have HX:=Hi (Ext.refl w);have HC1:Hid (∀ w1,Ext w w1→aq 135 [.slice ko ks.length kc,.int .i64 ((3:Nat):Int)] w1 SH.v (fun s w'=>bv w1.heap.size w' s (keL ks))):=Hi (fun w1 hE=>qW ko kc 3 ks w1 (hk.ext hE) rk lk (by decide) ck mk);have HC2:Hid (∀ w1,Ext w w1→aq 19 [.slice bo bs.length bc,.int .i64 ((3:Nat):Int)] w1 SH.v (fun s w'=>bv w1.heap.size w' s (o5 bs))):=Hi (fun w1 hE=>qB bo bc 3 bs w1 (hb.ext hE) rb lb (by decide) cb mb);have V1:=Hi (tu ks);have ZK:=Hi (uA ks);have LK:=Hi (jD ks);obtain ⟨n,hn⟩:∃ n,n=bs.length:=⟨_,rfl⟩;obtain ⟨m,hm⟩:∃ m,m=ks.length:=⟨_,rfl⟩;obtain ⟨k,hk'⟩:∃ k,k=keL ks:=⟨_,rfl⟩;rw [←hm,←hk'] at HC1;rw [←hn] at HC2;rw [←hk'] at V1 ZK LK;rw [←hn,←hm];clear hn hm hk' hb rb lb cb hk rk lk ck;unfold aq;go_enter Tryz.func56,Tryz.ntmps56
 go_upto_region 1 with fail
 refine nmA ?_;intro w1 hE B4 hz_w1 hr_w1;replace HX:=hE.tr HX;have hs_w1:=hE.size;clear hE;replace b_B4:=bX3 B4
 go_wp2_with fail
 refine cM (HC1.out _ HX.out) fun x2 w2 hE G2=>?_
 refine mV2 hE ?_ B4 HX;clear B4 HX;intro B4 HX;have hs_w2:=hE.size;clear hE;replace b_B4:=bX3 B4;obtain ⟨a2,n2,c2⟩:=x2;have hn2:=G2.out.len;have hl2:=LK.out;simp only at hn2;rw [hn2] at hl2;clear hn2;simp only [SH.v]
 go_wp2_with fail
 refine cM (j2 a2 n2 c2 k _ (G2.out.can.raw ZK.out (by decide)) (vX ZK.out (by have:=LK.out;omega))) fun x3 w3 hE G3=>?_
 refine mV3 hE ?_ G2 B4 HX;clear G2 B4 HX;intro G2 B4 HX;have hs_w3:=hE.size;clear hE;replace b_B4:=bX3 B4;obtain ⟨⟨a3,n3,c3⟩,e3⟩:=x3;obtain ⟨he,hl⟩:=G3.out;rw [V1.out] at he hl;simp only at he hl;subst he;have L3:=Hi hl;clear hl G3;simp only [RF,SH.v]
 go_wp2_with fail
 refine cM (HC2.out _ HX.out) fun x4 w4 hE G4=>?_
 refine mV4 hE ?_ G2 B4 HX L3;clear G2 B4 HX L3;intro G2 B4 HX L3;have hs_w4:=hE.size;clear hE;replace b_B4:=bX3 B4;obtain ⟨a4,n4,c4⟩:=x4;simp only [SH.v];go_wp2;refine eZ (F:=fun W=>bodyPost _ _ _ _ _ W) B4.out rfl ?_;intro w5 T;have L5:=aI.put2 L3.out B4.out T;clear L3;replace HX:=Hi (T.ext HX.out (by omega));replace B4:=Hi (T.bx);replace G2:=Hi (G2.out.put T (by omega));replace G4:=Hi (G4.out.put T (by omega));have hs_w5:=nle T.size;have hr_w5:=nle T.size.symm;clear T;replace b_B4:=bX3 B4;exact bodyPost_ret (v:=FH.v ⟨⟨a4,n4,c4⟩,⟨a3,n3,c3⟩⟩) (by simp [results,Tryz.results56,go_sem,b_B4.1]) rfl ⟨⟨⟨a4,n4,c4⟩,⟨a3,n3,c3⟩⟩,rfl,HX.out,G4.out.can,L5⟩
end Go.Proofs.YtofhkmcllihgmaaGreat
/- Series, Parallel, Run of the filters of make: what they return. Plain facts. -/
set_option linter.unusedVariables false
namespace Go.Proofs.YtofhkmcllihgmaaGreat
open Go.RowKit Go.Front Go.Num Stab
structure vS (b a:List Rat):Prop where
 lb:b.length≤4
 la:a.length≤4
 zb:FrB 7 b
 za:FrB 7 a
 tb:tz b=b
 ta:tz a=a
 head:a.getD 0 0=1
theorem vI(xs ks:List Int):vS (o5 xs) (pV ks):=⟨my xs,rj ks,ri xs,rt ks,tq xs,tv ks,o6 ks⟩
theorem vS.vf{b a:List Rat}(h:vS b a):VF b a:=⟨by rw [h.tb];have:=h.lb;omega,by rw [h.ta];have:=h.la;omega,h.head⟩
theorem js{b a:List Rat}(x:List Rat)(h:VF b a):jT b a x=(0,bg b a (seq x) x.length):=by unfold jT;rw [if_pos h]
theorem nT{sb sa sx lb la sb' sa' sx' lb' la':Nat}(h1:sb≤sb')(h2:sa≤sa')(h3:sx≤sx')(h4:lb≤lb')(h5:la≤la'):jt sb sa sx lb la≤jt sb' sa' sx' lb' la':=by
 unfold jt;have a1:=Nat.mul_le_mul h4 (show sb+sx+1≤sb'+sx'+1 by omega);have a2:=Nat.mul_le_mul h5 (show sa+1≤sa'+1 by omega);omega
theorem f4{sb sa sx lb la sb' sa' sx' lb' la' N M K:Nat}(h1:sb≤sb')(h2:sa≤sa')(h3:sx≤sx')(h4:lb≤lb')(h5:la≤la')(h6:N≤M)(h7:jt sb' sa' sx' lb' la'*2 ^ M≤K):jt sb sa sx lb la*2 ^ N≤K :=
 Nat.le_trans (Nat.mul_le_mul (nT h1 h2 h3 h4 h5) (Nat.pow_le_pow_right (by decide) h6)) h7
theorem kX{b a x:List Rat}{sb sa sx lb la N K:Nat}(hb:SzL sb b)(ha:SzL sa a)(hx:SzL sx x)(h1:1≤sb)(h2:1≤sa)(h3:1≤sx)(hlb:b.length≤lb)(hla:a.length≤la)(hK:jt sb sa sx lb la*2 ^ N≤K):SzL K (bg b a (seq x) N):=by
 intro q hq;obtain ⟨i,hi,rfl⟩:=List.mem_iff_getElem.1 hq;rw [aR] at hi;have h:=rR (x:=seq x) hb ha h1 h2 (fun i=>hx.getD h3 i) hlb hla N i hi;rw [List.getD_eq_getElem?_getD,List.getElem?_eq_getElem (by rw [aR];exact hi)] at h;exact h.mono (Nat.le_trans (Nat.mul_le_mul_left _ (Nat.pow_le_pow_right (by decide) (by omega))) hK)
end Go.Proofs.YtofhkmcllihgmaaGreat
