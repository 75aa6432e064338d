/- Package bernstein: basis. -/
import Derived.Test.YtofhkmcllihgmaaGreatQUK4
import Derived.Test.YtofhkmcllihgmaaGreatQUK1
import Derived.Test.YtofhkmcllihgmaaGreatQUK3
set_option linter.unusedVariables false
namespace Go.Proofs.YtofhkmcllihgmaaGreat
open Go.RowKit Go.Front Go.Num Stab
attribute [local go_sem] XW.cell XW.frozen
theorem pB(n:Nat)(f:Nat→Rat):row (n+1) f=row n f++[f n]:=by
 unfold row;rw [List.range_succ,List.map_append];rfl
theorem sY{w:World}{N:Nat}{D:Nat→Prop}{r:RH}{q:Rat}(h:RBk w N [r] #[])(hr:aw w r q)(hD:D N):bZ w D (.slice (some ⟨N,0,none⟩) 1 1) [q] :=
 ⟨[r],Or.inr ⟨N,1,#[],rfl,hD,h,Nat.le_refl _,by decide,by simp,rfl⟩,rfl,fun k hk=>by
  have hk:k<1:=hk;obtain rfl:k=0:=by omega
  exact hr⟩
theorem aX.mods{w w':World}{D:Nat→Prop}{L:Nat}{os:List Rat}(h:aX w L os)(m:aJ D w w')(k:dB w w')(hL:¬ D L):aX w' L os:=by
 obtain ⟨rs,re,h1,h0,h2⟩:=h;exact ⟨rs,re,m.blk hL h1,h0,h2.keep k⟩
theorem At(k:Nat):((fc k:Nat):Rat)*(((k+1:Nat):Int):Rat)=((fc (k+1):Nat):Rat):=by
 show _=((fc k*(k+1):Nat):Rat);rw [Rat.natCast_mul];rfl
def fcf(k:Nat):Rat:=((fc k:Nat):Rat)
def bs1(n:Nat)(c:Nat→Rat)(m i:Nat):Rat:=if i<m then bsv n c i else c i
theorem xS(n N m:Nat)(c:Nat→Rat):(row N (bs1 n c m)).set m (bsv n c m)=row N (bs1 n c (m+1)):=by
 rw [jL];refine aR (fun i _=>?_);unfold bs1;by_cases h:i=m
 ·rw [if_pos h,if_pos (by omega),h]
 ·rw [if_neg h];by_cases h2:i<m
  ·rw [if_pos h2,if_pos (by omega)]
  ·rw [if_neg h2,if_neg (by omega)]
def bs2(v:Nat→Rat)(m j i:Nat):Rat:=if j<i then bsf (m+1) v i else bsf m v i
theorem xR{v:Nat→Rat}{m j N:Nat}(h:m<j+1):(row N (bs2 v m (j+1))).set (j+1) (bsf m v (j+1)+bsf m v j)=row N (bs2 v m j):=by
 rw [jL];refine aR (fun i _=>?_);unfold bs2;by_cases h1:i=j+1
 ·rw [if_pos h1,if_pos (by omega),h1,qG h,Nat.add_sub_cancel]
 ·rw [if_neg h1];by_cases h2:j+1<i
  ·rw [if_pos h2,if_pos (by omega)]
  ·rw [if_neg h2,if_neg (by omega)]
theorem uV{v:Nat→Rat}{m n:Nat}:row (n+1) (bs2 v m n)=row (n+1) (bsf m v):=aR (fun i hi=>by unfold bs2;rw [if_neg (by omega)])
theorem AS{v:Nat→Rat}{m n:Nat}:row (n+1) (bs2 v m m)=row (n+1) (bsf (m+1) v):=aR (fun i hi=>by
 unfold bs2;by_cases h:m<i
 ·rw [if_pos h]
 ·rw [if_neg h,qH (by omega)])
set_option maxRecDepth 8000 in
set_option maxHeartbeats 8000000 in
theorem rU(L N n cp:Nat)(c:Nat→Rat)(S:Nat)(w:World)(h:aX w L (row N c))(hN:N=n+1)(h8:n≤8)(hcp:N≤cp)(hcm:cp≤9223372036854775807)(hz:∀ k,Wz S (c k))(hS1:1≤S)(hS:S≤1000000) :
  Calls Tryz.prog 205 #[.slice (some ⟨L,0,none⟩) N cp] w (fun e w'=>∃ x:RH,e=.returned x.v∧Mut L w w'∧aX w' L (row N (bt (bsv n c)))∧aw w' x (fcf n)):=by
 have HX:=Hi (Ext.refl w);have HR:=Hi h;have hLw:=h.lt;have HZ:=Hi hz;clear h hz;go_enter Tryz.func205,Tryz.ntmps205
 go_upto_region 2 with fail
 refine nmA ?_;intro w1 hE B2 hz_w1 hr_w1
 revert HX HR;refine mV2 hE ?_;intro HX HR
 have hs_w1:=hE.size;clear hE;replace b_B2:=b3 B2
 go_wp2_with fail
 refine cM (fL 1 _ (by decide) (by decide)) fun x3 w3 hE G3=>?_
 revert B2 HX HR;refine mV3 hE ?_;intro B2 HX HR
 have hs_w3:=hE.size;clear hE;replace b_B2:=b3 B2
 go_upto_region 3 with fail
 refine nmA ?_;intro w4 hE BF hz_w4 hr_w4
 revert G3 B2 HX HR;refine mV4 hE ?_;intro G3 B2 HX HR
 have hs_w4:=hE.size;clear hE;replace b_B2:=b3 B2;replace b_BF:=b3 BF;have HO:Hid (bZ w4 (fun k=>w.heap.size<k) (.slice (some ⟨w3.heap.size,0,none⟩) 1 1) (row 1 fcf)):=Hi (sY (lJ BF.out rfl) G3.out (by show w.heap.size<w3.heap.size;omega));obtain ⟨b2,hb2⟩:∃ b2,b2=w.heap.size:=⟨_,rfl⟩;have hw2:w.heap.size≤b2:=by omega
 have hw2':b2≤w.heap.size:=by omega
 rw [←hb2] at B2 ⊢;obtain ⟨s4,hs4⟩:∃ s:SH,s.v=.slice (some ⟨w3.heap.size,0,none⟩) 1 1:=⟨⟨_,_,_⟩,rfl⟩;rw [←hs4] at HO ⊢;clear hb2 hs4 b_B2 b_BF BF G3;go_wp2
 go_loopg [4,15] n (fun g v i wr=>∃ (j:Nat) (s:SH),v=s.v∧j+g=n∧i=.int .i64 (j:Nat)∧Ext w wr∧aX wr L (row N c)∧wr.heap[b2]?=some (.cells #[.bool false,.slice none 0 0,.slice none 0 0] 30 (0,0))∧bZ wr (fun k=>w.heap.size<k) s.v (row (j+1) fcf))
 case atStart=>exact ⟨0,s4,rfl,by omega,rfl,HX.out,HR.out,B2.out,HO.out⟩
 case round =>
  obtain ⟨j,⟨sa,sn,sc⟩,rfl,hj,rfl,g1,g2,g3,g4⟩:=hrel;clear HX HR B2 HO;have HX:=Hi g1;have HR:=Hi g2;have B2:=Hi g3;have HO:=Hi g4;have hszr:=g1.size;have hsn:=bZ.len (s:=⟨sa,sn,sc⟩) g4;rw [aF] at hsn;simp only at hsn;subst hsn;clear g1 g2 g3 g4;simp only [SH.v];replace b_B2:=b3 B2;by_cases h0:gk=0
  case neg =>
   have hjn:(j:Int)<n:=by omega
   have HJI:Hid ((j:Int)+1=((j+1:Nat):Int)):=Hi (by omega);have HV:Hid ((row (j+1) fcf).getD j 0=((fc j:Nat):Rat)):=Hi (bM _ (by omega));obtain ⟨b,off,r,hao,hbl,⟨hc1,hc2,hc3⟩,hP⟩:=(bZ.can (s:=⟨sa,j+1,sc⟩) HO.out).lin.celx (k:=j) (by omega);obtain ⟨rneg,ra,rn,rc,rb,rm,rd⟩:=r;simp only at hc1 hc2 hc3;subst hao;rw [HV.out] at hP;have RP:=Hi hP;clear hP;have ZP:Hid (Sz 1 ((fc j:Nat):Rat)):=Hi ((oE (by omega)).sz (by omega))
   go_upto_region 6 with fail
   refine wpG 10 (fun opIx=>match opIx with
    | 7=>.spec RH default RH.v (fun s w'=>aw w' s ((((j+1:Nat):Int):Rat)))
    | 8=>.spec RH default RH.v (fun s w'=>aw w' s (((fc j:Nat):Rat)*(((j+1:Nat):Int):Rat)))
    | 9=>.spec (Nat×RH) ((0,default)) (fun p=>.slice (some ⟨p.1,0,none⟩) 1 1) (fun p w'=>fs w' p (((fc j:Nat):Rat)*(((j+1:Nat):Int):Rat)))
    | _=>.quiet) (fun|8=>[7]|9=>[8]|_=>[]) fun w0 he0 hz0 hc0 hf0=>?_
   refine wps he0.out rfl rfl (fun w1 hW hG=>?_) fun x30=>?_
   ·exact spc [.int .i64 ((j:Int)+1)] Tryz.func137 ((by rw [HJI.out];exact fL ((j+1:Nat):Int) _ (by omega) (by omega)))
   refine qZ ?_;refine wps he0.out rfl rfl (fun w1 hW hG=>?_) fun x31=>?_
   ·have g30:=(hG 7 (by decide):ay _ _).get fun _ e g=>g.ext e
    exact spc [RH.v ⟨rneg,ra,rn,rc,rb,rm,rd⟩,x30.v] Tryz.func139 (bj _ x30 _ _ _ ((RP.out.ext hW).raw ZP.out (by decide)) (g30.raw (Sz.int (by rw [Int.natAbs_natCast];show _<4294967296;omega)) (by decide)))
   refine qZ ?_;refine wps he0.out rfl rfl (fun w1 hW hG=>?_) fun x32=>?_
   ·have g31:=(hG 8 (by decide):ay _ _).get fun _ e g=>g.ext e
    exact fX x31 _ g31 rfl (by simp [execOp,go_sem])
   refine qZ ?_;refine wpF_nil ?_;intro w5 hI;have hE:=he0.out.trans hI.ext;have G30:=gT (hI.facts 7);have G31:=gT (hI.facts 8);have G32:=gT (hI.facts 9);clear hI he0 hz0 hc0 hf0;refine mV5 hE ?_ HX HR B2 HO RP;clear HX HR B2 HO RP;intro HX HR B2 HO RP;have hs_w5:=hE.size;clear hE;replace b_B2:=b3 B2;simp only [pD];clear hc1 hc2 hc3
   go_upto_region 7 with (at_builtin;refine cS rfl (.tmp 18) (.tmp 27) 22 Tryz.underlying22 rfl (fun k=>w.heap.size<k) _ _ x32.2 _ x32.1 rfl HO.out rfl G32.out.1 G32.out.2 (by rw [aF];omega) (fun k hk=>by show w.heap.size<k;omega) ?_;intro s' y3 q1 q2 q3)
   have HX3:=Hi (Ext.mods HX.out q2 (fun k h=>by have h:w.heap.size<k:=h;omega));have HR3:=Hi (HR.out.mods q2 q3 (by show ¬ w.heap.size<L;omega));have HB3:=Hi (q2.blk (by show ¬ w.heap.size<b2;omega) B2.out);have HO3:Hid (bZ y3 (fun k=>w.heap.size<k) s'.v (row (j+1+1) fcf)):=Hi (by rw [pB,show fcf (j+1)=((fc j:Nat):Rat)*(((j+1:Nat):Int):Rat) from (At j).symm];exact q1);clear q1 q2 q3;go_wp2
   go_roundg (gk-1)
   case measure=>omega
   case rel=>exact ⟨j+1,s',rfl,by omega,by go_num,HX3.out,HR3.out,HB3.out,HO3.out⟩
  subst h0;obtain rfl:j=n:=by omega
  have hin:¬ (j:Int)<j:=by omega
  have HM:=Hi (Mut.of_ext (L:=L) HX.out);have HF:=Hi ((bZ.new (B:=w.heap.size+1) HO.out (fun k _ h=>h)));have HF0:Hid (LIn wr ⟨sa,j+1,sc⟩ (row (j+1) fcf) (w.heap.size+1) wr.heap.size):=HF;obtain ⟨H9,hH9⟩:∃ H,H=wr.heap.size:=⟨_,rfl⟩;rw [←hH9] at HF0;have hH9':H9≤wr.heap.size:=by omega
  clear hH9 HF HO HX;have HR0:Hid (aX wr L (row N (bs1 j c 0))):=Hi (by rw [show row N (bs1 j c 0)=row N c from aR (fun i _=>by unfold bs1;rw [if_neg (Nat.not_lt_zero i)])];exact HR.out);go_wp2
  go_loopg [32] N (fun g i wq=>∃ (m:Nat),m+g=N∧i=.int .i64 (m:Nat)∧Mut L w wq∧H9≤wq.heap.size∧aX wq L (row N (bs1 j c m))∧wq.heap[b2]?=some (.cells #[.bool false,.slice none 0 0,.slice none 0 0] 30 (0,0))∧LIn wq ⟨sa,j+1,sc⟩ (row (j+1) fcf) (w.heap.size+1) H9)
  case atStart=>exact ⟨0,by omega,rfl,HM.out,hH9',HR0.out,B2.out,HF0.out⟩
  case round =>
   obtain ⟨m,hm,rfl,g1,g2,g3,g4,g5⟩:=hrel;clear HM HR HR0 B2 HF0 hH9' hszr;have HM:=Hi g1;have HR:=Hi g3;have B2:=Hi g4;have HF:=Hi g5;have hszr:=g1.size;have hszh:=g2;clear g1 g2 g3 g4 g5;replace b_B2:=b3 B2;by_cases h0:gk=0
   case neg =>
    have hin:(m:Int)<N:=by omega
    obtain ⟨k2,hk2⟩:∃ k2:Nat,k2+m=j:=⟨j-m,by omega⟩;have hsub:(j:Int)-(m:Int)=(k2:Nat):=by omega
    have hin2:(m:Int)<((j+1:Nat):Int):=by omega
    have hin3:(k2:Int)<((j+1:Nat):Int):=by omega
    obtain ⟨r,⟨f1,f2,f3⟩,hrc⟩:=aX.cells HR.out (k:=m) (by rw [aF];omega);rw [bM _ (by omega),show bs1 j c m m=c m from if_neg (Nat.lt_irrefl m)] at hrc;have HRC:=Hi hrc;clear hrc;have hfz:=aX.frozen HR.out;have hLl:=aX.lt HR.out;obtain ⟨rn,ra,rl,rc,rb,rm,rd⟩:=r;simp only at f1 f2 f3;obtain ⟨b,off,r2,hao,hbl,⟨hc1,hc2,hc3⟩,hP⟩:=HF.out.celx (k:=m) (by omega);obtain ⟨b',off',r3,hao',hbl',⟨hd1,hd2,hd3⟩,hP'⟩:=HF.out.celx (k:=k2) (by omega);subst hao;obtain ⟨rfl,rfl⟩:b=b'∧off=off':=by simpa using hao'
    clear hao';rw [bM _ (by omega)] at hP hP';obtain ⟨r2n,r2a,r2l,r2c,r2b,r2m,r2d⟩:=r2;obtain ⟨r3n,r3a,r3l,r3c,r3b,r3m,r3d⟩:=r3;simp only at hc1 hc2 hc3 hd1 hd2 hd3;have HP:=Hi hP;have HP':=Hi hP';clear hP hP';have Zc:Hid (Sz S (c m)):=Hi ((HZ.out m).sz hS1);have Z1:Hid (Sz 1 (fcf m)):=Hi ((oE (by omega)).sz (by omega));have Z2:Hid (Sz 1 (fcf k2)):=Hi ((oE (by omega)).sz (by omega));have HV:Hid (c m*(fcf m*fcf k2)=bsv j c m):=Hi (by unfold bsv fcf;rw [show j-m=k2 by omega])
    go_upto_region 11 with fail
    refine wpG 18 (fun opIx=>match opIx with
     | 16=>.spec RH default RH.v (fun s w'=>aw w' s (fcf m*fcf k2))
     | 17=>.spec RH default RH.v (fun s w'=>aw w' s (c m*(fcf m*fcf k2)))
     | _=>.quiet) (fun|17=>[16]|_=>[]) fun w0 he0 hz0 hc0 hf0=>?_
    refine wps he0.out rfl rfl (fun w1 hW hG=>?_) fun x40=>?_
    ·exact spc [RH.v ⟨r2n,r2a,r2l,r2c,r2b,r2m,r2d⟩,RH.v ⟨r3n,r3a,r3l,r3c,r3b,r3m,r3d⟩] Tryz.func139 (bj _ _ _ _ _ ((HP.out.ext hW).raw Z1.out (by decide)) ((HP'.out.ext hW).raw Z2.out (by decide)))
    refine qZ ?_;refine wps he0.out rfl rfl (fun w1 hW hG=>?_) fun x41=>?_
    ·have g40:=(hG 16 (by decide):ay _ _).get fun _ e g=>g.ext e
     exact spc [RH.v ⟨rn,ra,rl,rc,rb,rm,rd⟩,x40.v] Tryz.func139 (bj _ x40 _ _ _ ((HRC.out.ext hW).raw Zc.out (by omega)) (g40.raw (Z1.out.mul Z2.out) (by decide)))
    refine qZ ?_;refine wpF_nil ?_;intro y5 hI;have hE:=he0.out.trans hI.ext;have G40:=gT (hI.facts 16);have G41:=gT (hI.facts 17);clear hI he0 hz0 hc0 hf0;replace HM:=Hi (Mut.trans HM.out (Mut.of_ext hE));refine mV3 hE ?_ HR B2 HF;clear HR B2 HF;intro HR B2 HF;have hs_y5:=hE.size;clear hE;replace b_B2:=b3 B2;simp only [pD];clear f1 f2 f3 hfz hLl hc1 hc2 hc3 hd1 hd2 hd3;rw [HV.out] at G41;obtain ⟨r4,⟨f1,f2,f3⟩,-⟩:=aX.cells HR.out (k:=m) (by rw [aF];omega);have hfz:=aX.frozen HR.out
    go_upto_region 12 with fail
    refine j1 (k:=m) HR.out (by rw [aF];omega) G41.out ?_;rintro y6 ⟨cs,T⟩ TN;rw [xS] at TN;clear f1 f2 f3 hfz;clear HR;replace HM:=Hi (Mut.put HM.out T (by first|exact Or.inl rfl|exact Or.inr (by omega)));replace HF:=Hi (HF.out.put T (by omega));replace B2:=Hi (T.rest _ _ (by omega) B2.out);replace G40:=Hi (G40.out.keep T.keep);replace G41:=Hi (G41.out.keep T.keep);have hs_y6:=nle T.size;have hr_y6:=nle T.size.symm;clear T;replace b_B2:=b3 B2;have HR:=Hi TN;clear TN;go_wp2
    go_roundg (gk-1)
    case measure=>omega
    case rel=>exact ⟨m+1,by omega,by go_num,HM.out,by omega,HR.out,B2.out,HF.out⟩
   subst h0;obtain rfl:m=N:=by omega
   have hin:¬ (m:Int)<m:=by omega
   have HW:=Hi (yX (n:=j) h8 HZ.out);obtain ⟨v,hv⟩:∃ v,v=bsv j c:=⟨_,rfl⟩;have HR0:Hid (aX wr L (row (j+1) (bsf 0 v))):=Hi (by
    rw [←hN,hv,show row m (bsf 0 (bsv j c))=row m (bs1 j c m) from aR (fun i hi=>by unfold bs1;rw [if_pos hi,qF])];exact HR.out)
   rw [←hv] at HW;have HVV:=Hi hv;subst hN;clear hv HR;go_wp2
   go_loopg [7] j (fun g i wq=>∃ (m:Nat),m+g=j∧i=.int .i64 ((m:Int)+1)∧Mut L w wq∧H9≤wq.heap.size∧aX wq L (row (j+1) (bsf m v))∧wq.heap[b2]?=some (.cells #[.bool false,.slice none 0 0,.slice none 0 0] 30 (0,0))∧LIn wq ⟨sa,j+1,sc⟩ (row (j+1) fcf) (w.heap.size+1) H9)
   case atStart=>exact ⟨0,by omega,rfl,HM.out,hszh,HR0.out,B2.out,HF.out⟩
   case round =>
    obtain ⟨m,hm,rfl,g1,g2,g3,g4,g5⟩:=hrel;clear HM HR0 B2 HF hszh hszr;have HM:=Hi g1;have HR:=Hi g3;have B2:=Hi g4;have HF:=Hi g5;have hszr:=g1.size;have hszh:=g2;clear g1 g2 g3 g4 g5;replace b_B2:=b3 B2;by_cases h0:gk=0
    case pos =>
     subst h0;obtain rfl:m=j:=by omega
     have hin:¬ (m:Int)+1≤(m:Int):=by omega
     have hin3:(m:Int)<((m+1:Nat):Int):=by omega
     have HRf:Hid (aX wr L (row (m+1) (bt v))):=Hi (by rw [←show row (m+1) (bsf m v)=row (m+1) (bt v) from aR (fun i hi=>mj (by omega))];exact HR.out);obtain ⟨b,off,r2,hao,hbl,⟨hc1,hc2,hc3⟩,hP⟩:=HF.out.celx (k:=m) (by omega);subst hao;rw [bM _ (by omega)] at hP;obtain ⟨r2n,r2a,r2l,r2c,r2b,r2m,r2d⟩:=r2;simp only at hc1 hc2 hc3;have HP:=Hi hP;clear hP;go_wp2;refine aI (F:=fun W=>bodyPost _ _ _ _ _ W) B2.out rfl ?_;intro y8 T;replace HM:=Hi (Mut.put HM.out T (by first|exact Or.inl rfl|exact Or.inr (by omega)));replace HR:=Hi (HR.out.put T (by omega));replace HF:=Hi (HF.out.put T (by omega));replace B2:=Hi (T.bx);replace HRf:=Hi (HRf.out.put T (by omega));replace HP:=Hi (HP.out.keep T.keep);have hs_y8:=nle T.size;have hr_y8:=nle T.size.symm;clear T;replace b_B2:=b3 B2;exact bodyPost_ret (v:=RH.v ⟨r2n,r2a,r2l,r2c,r2b,r2m,r2d⟩) (by simp [results,Tryz.results205,go_sem,ae B2.out]) rfl ⟨⟨r2n,r2a,r2l,r2c,r2b,r2m,r2d⟩,rfl,HM.out,by rw [←HVV.out];exact HRf.out,HP.out⟩
    obtain ⟨g0,rfl⟩:∃ g0,gk=g0+1:=⟨gk-1,by omega⟩;have hin:(m:Int)+1≤(j:Int):=by omega
    have HR0:Hid (aX wr L (row (j+1) (bs2 v m j))):=Hi (by rw [uV];exact HR.out);clear HR;have HST:Hid ((j:Int)=(m:Int)+((j-m:Nat):Int)):=Hi (by omega);go_wp2
    go_loopg [8] (j-m) (fun g i wq=>i=.int .i64 ((m:Int)+(g:Nat))∧g≤j-m∧Mut L w wq∧H9≤wq.heap.size∧aX wq L (row (j+1) (bs2 v m (m+g)))∧wq.heap[b2]?=some (.cells #[.bool false,.slice none 0 0,.slice none 0 0] 30 (0,0))∧LIn wq ⟨sa,j+1,sc⟩ (row (j+1) fcf) (w.heap.size+1) H9)
    case atStart=>exact ⟨congrArg _ HST.out,Nat.le_refl _,HM.out,hszh,by rw [show m+(j-m)=j by omega];exact HR0.out,B2.out,HF.out⟩
    case round =>
     obtain ⟨rfl,hg,g1,g2,g3,g4,g5⟩:=hrel;clear HM HR0 B2 HF hszh hszr;have HM:=Hi g1;have HR:=Hi g3;have B2:=Hi g4;have HF:=Hi g5;have hszr:=g1.size;have hszh:=g2;clear g1 g2 g3 g4 g5;replace b_B2:=b3 B2;by_cases h1:gk=0
     case pos =>
      subst h1;have hin2:¬ (m:Int)+1≤(m:Int)+((0:Nat):Int):=by omega
      have HRn:Hid (aX wr L (row (j+1) (bsf (m+1) v))):=Hi (by rw [←AS];exact HR.out);go_wp2
      go_roundg g0
      case measure=>omega
      case rel=>exact ⟨m+1,by omega,by go_num,HM.out,hszh,HRn.out,B2.out,HF.out⟩
     obtain ⟨g,rfl⟩:∃ g,gk=g+1:=⟨gk-1,by omega⟩;obtain ⟨k2,hk2⟩:∃ k2,k2=m+g:=⟨_,rfl⟩;obtain ⟨i1,hi1⟩:∃ i1,i1=k2+1:=⟨_,rfl⟩;have hi0:(m:Int)+((g+1:Nat):Int)=(i1:Nat):=by omega
     rw [hi0];clear hi0;replace HR:Hid (aX wr L (row (j+1) (bs2 v m (k2+1)))):=Hi (by rw [hk2];exact HR.out);have hsub:(i1:Int)-1=(k2:Nat):=by omega
     have hkj:i1≤j:=by omega
     have hin2:(m:Int)+1≤(i1:Nat):=by omega
     have hin3:(i1:Int)<((j+1:Nat):Int):=by omega
     have hin4:(k2:Int)<((j+1:Nat):Int):=by omega
     have hin5:(0:Int)≤(k2:Int):=by omega
     obtain ⟨r,⟨f1,f2,f3⟩,hrc⟩:=aX.cells HR.out (k:=i1) (by rw [aF];omega);obtain ⟨r',⟨e1,e2,e3⟩,hrc'⟩:=aX.cells HR.out (k:=k2) (by rw [aF];omega);rw [bM _ (by omega),show bs2 v m (k2+1) i1=bsf m v i1 from if_neg (by omega)] at hrc;rw [bM _ (by omega),show bs2 v m (k2+1) k2=bsf m v k2 from if_neg (by omega)] at hrc';have HI1:=Hi hi1;have HK2:=Hi hk2;have hm1:m<i1:=by omega
     clear hi1 hk2;have HP:=Hi hrc;have HP':=Hi hrc';clear hrc hrc';obtain ⟨rn,ra,rl,rc,rb,rm,rd⟩:=r;obtain ⟨r2n,r2a,r2l,r2c,r2b,r2m,r2d⟩:=r';simp only at f1 f2 f3 e1 e2 e3;have hfz:=aX.frozen HR.out;have hLl:=aX.lt HR.out;have Z1:Hid (Sz (S+2+m) (bsf m v i1)):=Hi ((HW.out m i1 (by omega)).sz (by omega));have Z2:Hid (Sz (S+2+m) (bsf m v k2)):=Hi ((HW.out m k2 (by have:=HI1.out;omega)).sz (by omega))
     go_upto_region 19 with fail
     refine wpG 12 (fun opIx=>match opIx with
      | 11=>.spec RH default RH.v (fun s w'=>aw w' s (bsf m v i1+bsf m v k2))
      | _=>.quiet) (fun _=>[]) fun w0 he0 hz0 hc0 hf0=>?_
     refine wps he0.out rfl rfl (fun w1 hW hG=>?_) fun x50=>?_
     ·exact spc [RH.v ⟨rn,ra,rl,rc,rb,rm,rd⟩,RH.v ⟨r2n,r2a,r2l,r2c,r2b,r2m,r2d⟩] Tryz.func138 (fh _ _ _ _ _ ((HP.out.ext hW).raw Z1.out (by omega)) ((HP'.out.ext hW).raw Z2.out (by omega)))
     refine qZ ?_;refine wpF_nil ?_;intro y5 hI;have hE:=he0.out.trans hI.ext;have G50:=gT (hI.facts 11);clear hI he0 hz0 hc0 hf0;replace HM:=Hi (Mut.trans HM.out (Mut.of_ext hE));refine mV3 hE ?_ B2 HF HR;clear B2 HF HR;intro B2 HF HR;have hs_y5:=hE.size;clear hE;replace b_B2:=b3 B2;simp only [pD];clear f1 f2 f3 e1 e2 e3 hfz hLl;obtain ⟨r4,⟨f1,f2,f3⟩,-⟩:=aX.cells HR.out (k:=i1) (by rw [aF];omega);have hfz:=aX.frozen HR.out
     go_upto_region 18 with fail
     refine j1 (k:=i1) HR.out (by rw [aF];omega) G50.out ?_;rintro y6 ⟨cs,T⟩ TN;rw [HI1.out,xR (by have:=HI1.out;omega)] at TN;clear f1 f2 f3 hfz;clear HR;replace HM:=Hi (Mut.put HM.out T (by first|exact Or.inl rfl|exact Or.inr (by omega)));replace HF:=Hi (HF.out.put T (by omega));replace B2:=Hi (T.rest _ _ (by omega) B2.out);replace G50:=Hi (G50.out.keep T.keep);have hs_y6:=nle T.size;have hr_y6:=nle T.size.symm;clear T;replace b_B2:=b3 B2;have HR:=Hi TN;clear TN;go_wp2
     go_roundg g
     case measure=>omega
     case rel=>exact ⟨congrArg _ (by have:=HI1.out;have:=HK2.out;omega),by omega,HM.out,by omega,by rw [←HK2.out];exact HR.out,B2.out,HF.out⟩
end Go.Proofs.YtofhkmcllihgmaaGreat
/- Py5 -/
set_option linter.unusedVariables false
namespace Go.Proofs.YtofhkmcllihgmaaGreat
open Go.RowKit Go.Front Go.Num Stab
attribute [local go_sem] XW.cell XW.frozen
theorem Bt(x:Rat):x-0=x:=by rw [Rat.sub_eq_add_neg,Rat.neg_zero,Rat.add_zero]
theorem wz{w1:World}{b:Nat}{T:TypeId}{c0 c1 c2 v0 v1 v2:Value}{F:World→Prop}(hb:w1.heap[b]?=some (.cells #[c0,c1,c2] T (0,0)))(hn:#[c0,c1,c2].toList.all eX=true)
 (H:∀ w2 w3,dN w1 b T #[v0,v1,v2] w2→Ext w2 w3→F w3) :
  F (((w1.setCell ⟨b,0,none⟩ v0).setCell ⟨b,1,none⟩ v1).setCell ⟨b,2,none⟩ v2).drew :=
 aI (v0:=v0) (v1:=v1) (v2:=v2) (F:=fun W=>F W.drew) hb hn fun w2 T2=>H w2 _ T2 (Ext.drew _)
def DvP(p q:List Rat)(S U:Nat)(s r:List Rat)(f:Rat):Prop :=
 f≠0∧Wz (1+(p.length+1-q.length)*U) f∧(∀ x ∈ s,Wz (S+(p.length+1-q.length)*(U+1)) x)∧(∀ x ∈ r,Wz (S+(p.length+1-q.length)*(U+1)) x)∧tz r=r∧r.length<q.length∧s.length≤p.length∧∀ n,f*seq p n=cv (seq s) (seq q) n+seq r n
theorem DvI.done{p q:List Rat}{S U j:Nat}{sl r:List Rat}{f:Rat}(h:DvI p q S U j sl r f)(hl:r.length<q.length):DvP p q S U sl r f:=by
 have hj:j≤p.length+1-q.length:=by have:=h.jl;omega
 have h1:j*U≤(p.length+1-q.length)*U:=Nat.mul_le_mul_right _ hj;have h2:j*(U+1)≤(p.length+1-q.length)*(U+1):=Nat.mul_le_mul_right _ hj;exact ⟨h.fne,h.fw.mono (by omega),fun x hx=>(h.sw x hx).mono (by omega),fun x hx=>(h.rz x hx).mono (by omega),h.tzr,hl,by have:=h.sl;omega,h.eq⟩
theorem DvP.short{p q:List Rat}{S U:Nat}(hp:∀ x ∈ p,Wz S x)(ht:tz p=p)(hl:p.length<q.length):DvP p q S U [] p 1:=by
 refine ⟨by decide,Wz.one.mono (by omega),fun x hx=>by simp at hx,fun x hx=>(hp x hx).mono (by omega),ht,hl,Nat.zero_le _,fun n=>?_⟩;have:seq ([]:List Rat)=fun _=>0:=funext fun i=>by unfold seq;simp
 rw [this,l9];grind
abbrev DT(x:SH×SH×RH):Value:=.tuple #[x.1.v,x.2.1.v,x.2.2.v]
end Go.Proofs.YtofhkmcllihgmaaGreat
