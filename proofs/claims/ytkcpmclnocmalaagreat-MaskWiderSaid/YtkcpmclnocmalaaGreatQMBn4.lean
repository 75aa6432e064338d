import Derived.Test.YtkcpmclnocmalaaGreatQMK15
set_option linter.unusedVariables false
namespace Go.Proofs.YtkcpmclnocmalaaGreat
open Go.RowKit Go.Front Go.Num Stab
attribute [local go_sem] XW.cell XW.frozen
theorem qJ(n:Nat)(f:Nat→Rat):row (n+1) f=row n f++[f n]:=by
 unfold row;rw [List.range_succ,List.map_append];rfl
theorem uG{w:World}{N:Nat}{D:Nat→Prop}{r:RH}{q:Rat}(h:RBk w N [r] #[])(hr:aA w r q)(hD:D N):dX w D (.slice (some ⟨N,0,none⟩) 1 1) [q] :=
 ⟨[r],Or.inr ⟨N,1,#[],rfl,hD,h,nXe _,dZ,by simp,rfl⟩,rfl,fun k hk=>by
  have hk:k<1:=hk;obtain rfl:k=0:=by omega
  exact hr⟩
theorem aH.mods{w w':World}{D:Nat→Prop}{L:Nat}{os:List Rat}(h:aH w L os)(m:aL D w w')(k:dJ w w')(hL:¬ D L):aH w' L os:=by
 obtain ⟨rs,re,h1,h0,h2⟩:=h;exact ⟨rs,re,m.blk hL h1,h0,h2.keep k⟩
theorem Cg(k:Nat):((fc k:Nat):Rat)*(((k+1:Nat):Int):Rat)=((fc (k+1):Nat):Rat):=by
 show _=((fc k*(k+1):Nat):Rat);rw [Rat.natCast_mul];rfl
def fcf(k:Nat):Rat:=((fc k:Nat):Rat)
def bs1(n:Nat)(c:Nat→Rat)(m i:Nat):Rat:=if i<m then bsv n c i else c i
theorem zU(n N m:Nat)(c:Nat→Rat):(row N (bs1 n c m)).set m (bsv n c m)=row N (bs1 n c (m+1)):=by
 rw [kx];refine bh (fun i _=>?_);unfold bs1;by_cases h:i=m
 ·rw [if_pos h,if_pos zo,h]
 ·rw [if_neg h];by_cases h2:i<m
  ·rw [if_pos h2,if_pos zo]
  ·rw [if_neg h2,if_neg zo]
def bs2(v:Nat→Rat)(m j i:Nat):Rat:=if j<i then bsf (m+1) v i else bsf m v i
theorem zT{v:Nat→Rat}{m j N:Nat}(h:m<j+1):(row N (bs2 v m (j+1))).set (j+1) (bsf m v (j+1)+bsf m v j)=row N (bs2 v m j):=by
 rw [kx];refine bh (fun i _=>?_);unfold bs2;by_cases h1:i=j+1
 ·rw [if_pos h1,if_pos zo,h1,se h,Nat.add_sub_cancel]
 ·rw [if_neg h1];by_cases h2:j+1<i
  ·rw [if_pos h2,if_pos zo]
  ·rw [if_neg h2,if_neg zo]
theorem wS{v:Nat→Rat}{m n:Nat}:row (n+1) (bs2 v m n)=row (n+1) (bsf m v):=bh (fun i hi=>by unfold bs2;rw [if_neg zo])
theorem CJ{v:Nat→Rat}{m n:Nat}:row (n+1) (bs2 v m m)=row (n+1) (bsf (m+1) v):=bh (fun i hi=>by
 unfold bs2;by_cases h:m<i
 ·rw [if_pos h]
 ·rw [if_neg h,sf zo])
set_option maxRecDepth 8000 in
set_option maxHeartbeats 8000000 in
theorem tt(L N n cp:Nat)(c:Nat→Rat)(S:Nat)(w:World)(h:aH w L (row N c))(hN:N=n+1)(h8:n≤8)(hcp:N≤cp)(hcm:cp≤9223372036854775807)(hz:∀ k,Wz S (c k))(hS1:1≤S)(hS:S≤1000000) :
  Calls Tryz.prog 246 #[.slice (some ⟨L,0,none⟩) N cp] w (fun e w'=>∃ x:RH,e=.returned x.v∧Mut L w w'∧aH w' L (row N (bt (bsv n c)))∧aA w' x (fcf n)):=by
 have HX:=Hi (Ext.refl w);have HR:=Hi h;have hLw:=h.lt;have HZ:=Hi hz;clear h hz;go_enter Tryz.func246,Tryz.ntmps246
 go_upto_region 2 with fail
 refine nmA ?_;intro w1 hE B2 hz_w1 hr_w1;refine mV2 hE ?_ HX HR;clear HX HR;intro HX HR;have hs_w1:=hE.size;replace b_B2:=bX3 B2
 go_wp2_with fail
 refine cM (bO 1 _ dZ dZ) fun x3 w3 hE G3=>?_
 refine mV3 hE ?_ B2 HX HR;clear B2 HX HR;intro B2 HX HR;have hs_w3:=hE.size;replace b_B2:=bX3 B2
 go_upto_region 3 with fail
 refine nmA ?_;intro w4 hE BF hz_w4 hr_w4;refine mV4 hE ?_ G3 B2 HX HR;clear G3 B2 HX HR;intro G3 B2 HX HR;have hs_w4:=hE.size;replace b_B2:=bX3 B2;replace b_BF:=bX3 BF;have HO:Hid (dX w4 (fun k=>w.heap.size<k) (.slice (some ⟨w3.heap.size,0,none⟩) 1 1) (row 1 fcf)):=Hi (uG (mP BF.out rfl) G3.out (by show w.heap.size<w3.heap.size;omega));obtain ⟨b2,hb2⟩:∃ b2,b2=w.heap.size:=⟨_,rfl⟩;have hw2:w.heap.size≤b2:=zo;have hw2':b2≤w.heap.size:=zo;rw [←hb2] at B2 ⊢;obtain ⟨s4,hs4⟩:∃ s:SH,s.v=.slice (some ⟨w3.heap.size,0,none⟩) 1 1:=⟨⟨_,_,_⟩,rfl⟩;rw [←hs4] at HO ⊢;clear hb2 hs4 b_B2 b_BF BF G3;go_wp2
 go_loopg [4,15] n (fun g v i wr=>∃ (j:Nat) (s:SH),v=s.v∧j+g=n∧i=.int .i64 (j:Nat)∧Ext w wr∧aH wr L (row N c)∧wr.heap[b2]?=some (.cells #[.bool false,.slice none 0 0,.slice none 0 0] 37 (0,0))∧dX wr (fun k=>w.heap.size<k) s.v (row (j+1) fcf))
 case atStart=>exact ⟨0,s4,rfl,zo,rfl,HX.out,HR.out,B2.out,HO.out⟩
 case round =>
  obtain ⟨j,⟨sa,sn,sc⟩,rfl,hj,rfl,g1,g2,g3,g4⟩:=hrel;clear HX HR B2 HO;have HX:=Hi g1;have HR:=Hi g2;have B2:=Hi g3;have HO:=Hi g4;have hszr:=g1.size;have hsn:=dX.len (s:=⟨sa,sn,sc⟩) g4;rw [aM] at hsn;simp only at hsn;subst hsn;clear g1 g2 g3 g4;simp only [SH.v];replace b_B2:=bX3 B2;by_cases h0:gk=0
  case neg =>
   have hjn:(j:Int)<n:=zo;have HJI:Hid ((j:Int)+1=((j+1:Nat):Int)):=Hi zo;have HV:Hid ((row (j+1) fcf).getD j 0=((fc j:Nat):Rat)):=Hi (bZ _ zo);obtain ⟨b,off,r,hao,hbl,⟨hc1,hc2,hc3⟩,hP⟩:=(dX.can (s:=⟨sa,j+1,sc⟩) HO.out).lin.celx (k:=j) zo;obtain ⟨rneg,ra,rn,rc,rb,rm,rd⟩:=r;simp only at hc1 hc2 hc3;subst hao;rw [HV.out] at hP;have RP:=Hi hP;clear hP;have ZP:Hid (Sz 1 ((fc j:Nat):Rat)):=Hi ((te zo).sz zo)
   go_upto_region 6 with fail
   refine wpG 10 (fun opIx=>match opIx with
    | 7=>sR ((((j+1:Nat):Int):Rat))
    | 8=>sR (((fc j:Nat):Rat)*(((j+1:Nat):Int):Rat))
    | 9=>.spec (Nat×RH) ((0,default)) (fun p=>.slice (some ⟨p.1,0,none⟩) 1 1) (fun p w'=>jr w' p (((fc j:Nat):Rat)*(((j+1:Nat):Int):Rat)))
    | _=>.quiet) (fun|8=>[7]|9=>[8]|_=>[]) fun w0 he0 hz0 hc0 hf0=>?_
   refine wps he0 (fun w1 hW hG=>?_) fun x30=>?_
   ·exact spc [.int .i64 ((j:Int)+1)] Tryz.func63 ((by rw [HJI.out];exact bO ((j+1:Nat):Int) _ zo zo))
   refine qZ ?_;refine wps he0 (fun w1 hW hG=>?_) fun x31=>?_
   ·have g30:=gS (hG 7 dZ);exact spc [RH.v ⟨rneg,ra,rn,rc,rb,rm,rd⟩,x30.v] Tryz.func108 (aK _ x30 _ _ _ ((RP.out.ext hW).raw ZP.out dZ) (g30.raw (Sz.int (by rw [nYi];show _<4294967296;omega)) dZ))
   refine qZ ?_;refine wps he0 (fun w1 hW hG=>?_) fun x32=>?_
   ·have g31:=gS (hG 8 dZ);exact lS x31 _ g31 rfl (by simp [execOp,go_sem])
   refine qZ ?_;refine aq ?_;intro w5 hI;have hE:=he0.out.trans hI.ext;have G30:=gT (hI.facts 7);have G31:=gT (hI.facts 8);have G32:=gT (hI.facts 9);clear hI he0 hz0 hc0 hf0;refine mV5 hE ?_ HX HR B2 HO RP;clear HX HR B2 HO RP;intro HX HR B2 HO RP;have hs_w5:=hE.size;replace b_B2:=bX3 B2;simp only [pD];clear hc1 hc2 hc3
   go_upto_region 7 with (at_builtin;refine eC rfl (.tmp 18) (.tmp 27) 23 Tryz.underlying23 rfl (fun k=>w.heap.size<k) _ _ x32.2 _ x32.1 rfl HO.out rfl G32.out.1 G32.out.2 (by rw [aM];omega) (fun k hk=>by show w.heap.size<k;omega) ?_;intro s' y3 q1 q2 q3)
   have HX3:=Hi (Ext.mods HX.out q2 (fun k h=>by have h:w.heap.size<k:=h;omega));have HR3:=Hi (HR.out.mods q2 q3 (by show ¬ w.heap.size<L;omega));have HB3:=Hi (q2.blk (by show ¬ w.heap.size<b2;omega) B2.out);have HO3:Hid (dX y3 (fun k=>w.heap.size<k) s'.v (row (j+1+1) fcf)):=Hi (by rw [qJ,show fcf (j+1)=((fc j:Nat):Rat)*(((j+1:Nat):Int):Rat) from (Cg j).symm];exact q1);clear q1 q2 q3;go_wp2
   go_roundg (gk-1)
   case measure=>omega
   case rel=>exact ⟨j+1,s',rfl,zo,by go_num,HX3.out,HR3.out,HB3.out,HO3.out⟩
  subst h0;obtain rfl:j=n:=by omega
  have hin:¬ (j:Int)<j:=zo;have HM:=Hi (Mut.of_ext (L:=L) HX.out);have HF:=Hi ((dX.new (B:=w.heap.size+1) HO.out (fun k _ h=>h)));have HF0:Hid (LIn wr ⟨sa,j+1,sc⟩ (row (j+1) fcf) (w.heap.size+1) wr.heap.size):=HF;obtain ⟨H9,hH9⟩:∃ H,H=wr.heap.size:=⟨_,rfl⟩;rw [←hH9] at HF0;have hH9':H9≤wr.heap.size:=zo;clear hH9 HF HO HX;have HR0:Hid (aH wr L (row N (bs1 j c 0))):=Hi (by rw [show row N (bs1 j c 0)=row N c from bh (fun i _=>by unfold bs1;rw [if_neg (Nat.not_lt_zero i)])];exact HR.out);go_wp2
  go_loopg [32] N (fun g i wq=>∃ (m:Nat),m+g=N∧i=.int .i64 (m:Nat)∧Mut L w wq∧H9≤wq.heap.size∧aH wq L (row N (bs1 j c m))∧wq.heap[b2]?=some (.cells #[.bool false,.slice none 0 0,.slice none 0 0] 37 (0,0))∧LIn wq ⟨sa,j+1,sc⟩ (row (j+1) fcf) (w.heap.size+1) H9)
  case atStart=>exact ⟨0,zo,rfl,HM.out,hH9',HR0.out,B2.out,HF0.out⟩
  case round =>
   obtain ⟨m,hm,rfl,g1,g2,g3,g4,g5⟩:=hrel;clear HM HR HR0 B2 HF0 hH9' hszr;have HM:=Hi g1;have HR:=Hi g3;have B2:=Hi g4;have HF:=Hi g5;have hszr:=g1.size;have hszh:=g2;clear g1 g2 g3 g4 g5;replace b_B2:=bX3 B2;by_cases h0:gk=0
   case neg =>
    have hin:(m:Int)<N:=zo;obtain ⟨k2,hk2⟩:∃ k2:Nat,k2+m=j:=⟨j-m,zo⟩;have hsub:(j:Int)-(m:Int)=(k2:Nat):=zo;have hin2:(m:Int)<((j+1:Nat):Int):=zo;have hin3:(k2:Int)<((j+1:Nat):Int):=zo;obtain ⟨r,⟨f1,f2,f3⟩,hrc⟩:=aH.cells HR.out (k:=m) (by rw [aM];omega);rw [bZ _ zo,show bs1 j c m m=c m from if_neg (Nat.lt_irrefl m)] at hrc;have HRC:=Hi hrc;clear hrc;have hfz:=aH.frozen HR.out;have hLl:=aH.lt HR.out;obtain ⟨rn,ra,rl,rc,rb,rm,rd⟩:=r;simp only at f1 f2 f3;obtain ⟨b,off,r2,hao,hbl,⟨hc1,hc2,hc3⟩,hP⟩:=HF.out.celx (k:=m) zo;obtain ⟨b',off',r3,hao',hbl',⟨hd1,hd2,hd3⟩,hP'⟩:=HF.out.celx (k:=k2) zo;subst hao;obtain ⟨rfl,rfl⟩:b=b'∧off=off':=by simpa using hao'
    clear hao';rw [bZ _ zo] at hP hP';obtain ⟨r2n,r2a,r2l,r2c,r2b,r2m,r2d⟩:=r2;obtain ⟨r3n,r3a,r3l,r3c,r3b,r3m,r3d⟩:=r3;simp only at hc1 hc2 hc3 hd1 hd2 hd3;have HP:=Hi hP;have HP':=Hi hP';clear hP hP';have Zc:Hid (Sz S (c m)):=Hi ((HZ.out m).sz hS1);have Z1:Hid (Sz 1 (fcf m)):=Hi ((te zo).sz zo);have Z2:Hid (Sz 1 (fcf k2)):=Hi ((te zo).sz zo);have HV:Hid (c m*(fcf m*fcf k2)=bsv j c m):=Hi (by unfold bsv fcf;rw [show j-m=k2 by omega])
    go_upto_region 11 with fail
    refine wpG 18 (fun opIx=>match opIx with
     | 16=>sR (fcf m*fcf k2)
     | 17=>sR (c m*(fcf m*fcf k2))
     | _=>.quiet) (fun|17=>[16]|_=>[]) fun w0 he0 hz0 hc0 hf0=>?_
    refine wps he0 (fun w1 hW hG=>?_) fun x40=>?_
    ·exact spc [RH.v ⟨r2n,r2a,r2l,r2c,r2b,r2m,r2d⟩,RH.v ⟨r3n,r3a,r3l,r3c,r3b,r3m,r3d⟩] Tryz.func108 (aK _ _ _ _ _ ((HP.out.ext hW).raw Z1.out dZ) ((HP'.out.ext hW).raw Z2.out dZ))
    refine qZ ?_;refine wps he0 (fun w1 hW hG=>?_) fun x41=>?_
    ·have g40:=gS (hG 16 dZ);exact spc [RH.v ⟨rn,ra,rl,rc,rb,rm,rd⟩,x40.v] Tryz.func108 (aK _ x40 _ _ _ ((HRC.out.ext hW).raw Zc.out zo) (g40.raw (Z1.out.mul Z2.out) dZ))
    refine qZ ?_;refine aq ?_;intro y5 hI;have hE:=he0.out.trans hI.ext;have G40:=gT (hI.facts 16);have G41:=gT (hI.facts 17);clear hI he0 hz0 hc0 hf0;replace HM:=Hi (Mut.trans HM.out (Mut.of_ext hE));refine mV3 hE ?_ HR B2 HF;clear HR B2 HF;intro HR B2 HF;have hs_y5:=hE.size;replace b_B2:=bX3 B2;simp only [pD];clear f1 f2 f3 hfz hLl hc1 hc2 hc3 hd1 hd2 hd3;rw [HV.out] at G41;obtain ⟨r4,⟨f1,f2,f3⟩,-⟩:=aH.cells HR.out (k:=m) (by rw [aM];omega);have hfz:=aH.frozen HR.out
    go_upto_region 12 with fail
    refine eW (k:=m) HR.out (by rw [aM];omega) G41.out ?_;rintro y6 ⟨cs,T⟩ TN;rw [zU] at TN;clear f1 f2 f3 hfz;clear HR;replace HM:=Hi (Mut.put HM.out T (by first|exact Or.inl rfl|exact Or.inr zo));replace HF:=Hi (HF.out.put T zo);replace B2:=Hi (T.rest _ _ zo B2.out);replace G40:=Hi (G40.out.keep T.keep);replace G41:=Hi (G41.out.keep T.keep);have hs_y6:=nle T.size;have hr_y6:=nle T.size.symm;clear T;replace b_B2:=bX3 B2;have HR:=Hi TN;clear TN;go_wp2
    go_roundg (gk-1)
    case measure=>omega
    case rel=>exact ⟨m+1,zo,by go_num,HM.out,zo,HR.out,B2.out,HF.out⟩
   subst h0;obtain rfl:m=N:=by omega
   have hin:¬ (m:Int)<m:=zo;have HW:=Hi (AU (n:=j) h8 HZ.out);obtain ⟨v,hv⟩:∃ v,v=bsv j c:=⟨_,rfl⟩;have HR0:Hid (aH wr L (row (j+1) (bsf 0 v))):=Hi (by
    rw [←hN,hv,show row m (bsf 0 (bsv j c))=row m (bs1 j c m) from bh (fun i hi=>by unfold bs1;rw [if_pos hi,r9])];exact HR.out)
   rw [←hv] at HW;have HVV:=Hi hv;subst hN;clear hv HR;go_wp2
   go_loopg [7] j (fun g i wq=>∃ (m:Nat),m+g=j∧i=.int .i64 ((m:Int)+1)∧Mut L w wq∧H9≤wq.heap.size∧aH wq L (row (j+1) (bsf m v))∧wq.heap[b2]?=some (.cells #[.bool false,.slice none 0 0,.slice none 0 0] 37 (0,0))∧LIn wq ⟨sa,j+1,sc⟩ (row (j+1) fcf) (w.heap.size+1) H9)
   case atStart=>exact ⟨0,zo,rfl,HM.out,hszh,HR0.out,B2.out,HF.out⟩
   case round =>
    obtain ⟨m,hm,rfl,g1,g2,g3,g4,g5⟩:=hrel;clear HM HR0 B2 HF hszh hszr;have HM:=Hi g1;have HR:=Hi g3;have B2:=Hi g4;have HF:=Hi g5;have hszr:=g1.size;have hszh:=g2;clear g1 g2 g3 g4 g5;replace b_B2:=bX3 B2;by_cases h0:gk=0
    case pos =>
     subst h0;obtain rfl:m=j:=by omega
     have hin:¬ (m:Int)+1≤(m:Int):=zo;have hin3:(m:Int)<((m+1:Nat):Int):=zo;have HRf:Hid (aH wr L (row (m+1) (bt v))):=Hi (by rw [←show row (m+1) (bsf m v)=row (m+1) (bt v) from bh (fun i hi=>nB zo)];exact HR.out);obtain ⟨b,off,r2,hao,hbl,⟨hc1,hc2,hc3⟩,hP⟩:=HF.out.celx (k:=m) zo;subst hao;rw [bZ _ zo] at hP;obtain ⟨r2n,r2a,r2l,r2c,r2b,r2m,r2d⟩:=r2;simp only at hc1 hc2 hc3;have HP:=Hi hP;clear hP;go_wp2;refine aN (F:=fun W=>bodyPost _ _ _ _ _ W) B2.out rfl ?_;intro y8 T;replace HM:=Hi (Mut.put HM.out T (by first|exact Or.inl rfl|exact Or.inr zo));replace HR:=Hi (HR.out.put T zo);replace HF:=Hi (HF.out.put T zo);replace B2:=Hi (T.bx);replace HRf:=Hi (HRf.out.put T zo);replace HP:=Hi (HP.out.keep T.keep);have hs_y8:=nle T.size;have hr_y8:=nle T.size.symm;clear T;replace b_B2:=bX3 B2;exact nXa (v:=RH.v ⟨r2n,r2a,r2l,r2c,r2b,r2m,r2d⟩) (by simp [results,Tryz.results246,go_sem,ae B2.out]) rfl ⟨⟨r2n,r2a,r2l,r2c,r2b,r2m,r2d⟩,rfl,HM.out,by rw [←HVV.out];exact HRf.out,HP.out⟩
    obtain ⟨g0,rfl⟩:∃ g0,gk=g0+1:=⟨gk-1,zo⟩;have hin:(m:Int)+1≤(j:Int):=zo;have HR0:Hid (aH wr L (row (j+1) (bs2 v m j))):=Hi (by rw [wS];exact HR.out);clear HR;have HST:Hid ((j:Int)=(m:Int)+((j-m:Nat):Int)):=Hi zo;go_wp2
    go_loopg [8] (j-m) (fun g i wq=>i=.int .i64 ((m:Int)+(g:Nat))∧g≤j-m∧Mut L w wq∧H9≤wq.heap.size∧aH wq L (row (j+1) (bs2 v m (m+g)))∧wq.heap[b2]?=some (.cells #[.bool false,.slice none 0 0,.slice none 0 0] 37 (0,0))∧LIn wq ⟨sa,j+1,sc⟩ (row (j+1) fcf) (w.heap.size+1) H9)
    case atStart=>exact ⟨congrArg _ HST.out,nXe _,HM.out,hszh,by rw [show m+(j-m)=j by omega];exact HR0.out,B2.out,HF.out⟩
    case round =>
     obtain ⟨rfl,hg,g1,g2,g3,g4,g5⟩:=hrel;clear HM HR0 B2 HF hszh hszr;have HM:=Hi g1;have HR:=Hi g3;have B2:=Hi g4;have HF:=Hi g5;have hszr:=g1.size;have hszh:=g2;clear g1 g2 g3 g4 g5;replace b_B2:=bX3 B2;by_cases h1:gk=0
     case pos =>
      subst h1;have hin2:¬ (m:Int)+1≤(m:Int)+((0:Nat):Int):=zo;have HRn:Hid (aH wr L (row (j+1) (bsf (m+1) v))):=Hi (by rw [←CJ];exact HR.out);go_wp2
      go_roundg g0
      case measure=>omega
      case rel=>exact ⟨m+1,zo,by go_num,HM.out,hszh,HRn.out,B2.out,HF.out⟩
     obtain ⟨g,rfl⟩:∃ g,gk=g+1:=⟨gk-1,zo⟩;obtain ⟨k2,hk2⟩:∃ k2,k2=m+g:=⟨_,rfl⟩;obtain ⟨i1,hi1⟩:∃ i1,i1=k2+1:=⟨_,rfl⟩;have hi0:(m:Int)+((g+1:Nat):Int)=(i1:Nat):=zo;rw [hi0];clear hi0;replace HR:Hid (aH wr L (row (j+1) (bs2 v m (k2+1)))):=Hi (by rw [hk2];exact HR.out);have hsub:(i1:Int)-1=(k2:Nat):=zo;have hkj:i1≤j:=zo;have hin2:(m:Int)+1≤(i1:Nat):=zo;have hin3:(i1:Int)<((j+1:Nat):Int):=zo;have hin4:(k2:Int)<((j+1:Nat):Int):=zo;have hin5:(0:Int)≤(k2:Int):=zo;obtain ⟨r,⟨f1,f2,f3⟩,hrc⟩:=aH.cells HR.out (k:=i1) (by rw [aM];omega);obtain ⟨r',⟨e1,e2,e3⟩,hrc'⟩:=aH.cells HR.out (k:=k2) (by rw [aM];omega);rw [bZ _ zo,show bs2 v m (k2+1) i1=bsf m v i1 from if_neg zo] at hrc;rw [bZ _ zo,show bs2 v m (k2+1) k2=bsf m v k2 from if_neg zo] at hrc';have HI1:=Hi hi1;have HK2:=Hi hk2;have hm1:m<i1:=zo;clear hi1 hk2;have HP:=Hi hrc;have HP':=Hi hrc';clear hrc hrc';obtain ⟨rn,ra,rl,rc,rb,rm,rd⟩:=r;obtain ⟨r2n,r2a,r2l,r2c,r2b,r2m,r2d⟩:=r';simp only at f1 f2 f3 e1 e2 e3;have hfz:=aH.frozen HR.out;have hLl:=aH.lt HR.out;have Z1:Hid (Sz (S+2+m) (bsf m v i1)):=Hi ((HW.out m i1 zo).sz zo);have Z2:Hid (Sz (S+2+m) (bsf m v k2)):=Hi ((HW.out m k2 (by have:=HI1.out;omega)).sz zo)
     go_upto_region 19 with fail
     refine wpG 12 (fun opIx=>match opIx with
      | 11=>sR (bsf m v i1+bsf m v k2)
      | _=>.quiet) (fun _=>[]) fun w0 he0 hz0 hc0 hf0=>?_
     refine wps he0 (fun w1 hW hG=>?_) fun x50=>?_
     ·exact spc [RH.v ⟨rn,ra,rl,rc,rb,rm,rd⟩,RH.v ⟨r2n,r2a,r2l,r2c,r2b,r2m,r2d⟩] Tryz.func104 (dw _ _ _ _ _ ((HP.out.ext hW).raw Z1.out zo) ((HP'.out.ext hW).raw Z2.out zo))
     refine qZ ?_;refine aq ?_;intro y5 hI;have hE:=he0.out.trans hI.ext;have G50:=gT (hI.facts 11);clear hI he0 hz0 hc0 hf0;replace HM:=Hi (Mut.trans HM.out (Mut.of_ext hE));refine mV3 hE ?_ B2 HF HR;clear B2 HF HR;intro B2 HF HR;have hs_y5:=hE.size;replace b_B2:=bX3 B2;simp only [pD];clear f1 f2 f3 e1 e2 e3 hfz hLl;obtain ⟨r4,⟨f1,f2,f3⟩,-⟩:=aH.cells HR.out (k:=i1) (by rw [aM];omega);have hfz:=aH.frozen HR.out
     go_upto_region 18 with fail
     refine eW (k:=i1) HR.out (by rw [aM];omega) G50.out ?_;rintro y6 ⟨cs,T⟩ TN;rw [HI1.out,zT (by have:=HI1.out;omega)] at TN;clear f1 f2 f3 hfz;clear HR;replace HM:=Hi (Mut.put HM.out T (by first|exact Or.inl rfl|exact Or.inr zo));replace HF:=Hi (HF.out.put T zo);replace B2:=Hi (T.rest _ _ zo B2.out);replace G50:=Hi (G50.out.keep T.keep);have hs_y6:=nle T.size;have hr_y6:=nle T.size.symm;clear T;replace b_B2:=bX3 B2;have HR:=Hi TN;clear TN;go_wp2
     go_roundg g
     case measure=>omega
     case rel=>exact ⟨congrArg _ (by have:=HI1.out;have:=HK2.out;omega),zo,HM.out,zo,by rw [←HK2.out];exact HR.out,B2.out,HF.out⟩
end Go.Proofs.YtkcpmclnocmalaaGreat
