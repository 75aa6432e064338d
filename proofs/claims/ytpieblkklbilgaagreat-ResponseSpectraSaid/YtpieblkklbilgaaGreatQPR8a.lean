/- cheb, T, sum, FromBasis of the reference 08. -/
import Derived.Test.YtpieblkklbilgaaGreatQPR5b
import Derived.Test.YtpieblkklbilgaaGreatQPM12
import Derived.Test.YtpieblkklbilgaaGreatQPM13
import Derived.Test.YtpieblkklbilgaaGreatQPM11
import Derived.Test.YtpieblkklbilgaaGreatQPM10
set_option linter.unusedVariables false
set_option maxRecDepth 8000
set_option maxHeartbeats 4000000
namespace Go.Proofs.YtpieblkklbilgaaGreat
open Go.RowKit Go.Front Go.Num
attribute [local go_sem] XW.cell XW.frozen
theorem ad5_getD (ps qs:List Rat) (i:Nat):(add5V ps qs).getD i 0=ps.getD i 0+qs.getD i 0:=by
 unfold add5V
 rw [tz_getD',range_getD]
 split
 ·rfl
 ·rw [getD_over' (by omega),getD_over' (by omega)]
  grind
theorem ad5_tz (ps qs:List Rat):tz (add5V ps qs)=add5V ps qs:=by unfold add5V;exact tz_idem _
theorem sc5_getD (l:List Rat) (c:Rat) (i:Nat):(scale5V l c).getD i 0=l.getD i 0 * c:=by
 unfold scale5V
 rw [tz_getD']
 by_cases h:i < l.length
 ·simp [h]
 ·rw [getD_over' (by simp;omega),getD_over' (by omega)];grind
theorem sb5_getD (ps qs:List Rat) (i:Nat):(sub5V ps qs).getD i 0=ps.getD i 0 - qs.getD i 0:=by
 unfold sub5V
 rw [ad5_getD,sc5_getD]
 show _+_ * (-1)=_
 grind
def twoX:List Rat:=[((0:Int):Rat),((2:Int):Rat)]
theorem twoX_mul (b:List Rat) (i:Nat):(mul5V b twoX).getD i 0=if 0 < i then 2 * b.getD (i - 1) 0 else 0:=by
 have e:(mul5V b twoX).getD i 0=Stab.ap (tz b) (Stab.seq (tz twoX)) i:=congrFun (mul5_seq b twoX) i
 rw [e,show tz twoX=twoX by decide +kernel,Stab.ap_swap]
 show ((0:Int):Rat) * (tz b).getD i 0+Stab.sh (fun n=>((2:Int):Rat) * (tz b).getD n 0+Stab.sh (fun _=>0) n) i=_
 cases i with
 | zero =>
  rw [if_neg (by omega)]
  show (0:Rat) * _+0=0
  grind
 | succ i =>
  rw [if_pos (by omega)]
  show (0:Rat) * _+((2:Rat) * (tz b).getD i 0+Stab.sh (fun _=>0) i)=2 * b.getD i 0
  have hz:(tz b).getD i 0=b.getD i 0:=tz_getD' _ _
  rw [hz,show Stab.sh (fun _=>(0:Rat)) i=0 by rw [Stab.sh_zero]]
  grind
theorem cheb_step (j:Nat):sub5V (mul5V (chP (j+1)).1 twoX) (chP j).1=(chP (j+2)).1:=by
 have e1:tz (sub5V (mul5V (chP (j+1)).1 twoX) (chP j).1)=sub5V (mul5V (chP (j+1)).1 twoX) (chP j).1:=ad5_tz _ _
 rw [← e1,← chA_tz (j+2)]
 apply tz_ext
 intro i
 rw [sb5_getD,twoX_mul]
 show _=(nbV (chP (j+1)).1 (chP (j+1)).2).getD i 0
 rw [nb_getD,chB_succ]
theorem chA_sz {n:Nat} (hn:n≤60):SzL 4 (chP n).1:=(chP_sz hn).1
theorem chA_sz1:(chP 1).1=[((0:Int):Rat),((1:Int):Rat)]:=by decide +kernel
theorem cheb8_any (n:Nat) (w:World) (hn:n≤58):Does 211 [.int .i64 (n:Nat)] w SH.v (fun x w'=>NewL w.heap.size w' x (chP n).1):=by
 have HX:=Hi (Ext.refl w)
 have ZX:Hid (SzL 4 twoX):=Hi ((szB (by decide +kernel)).mono (by decide))
 unfold Does
 go_enter Tryz.func211,Tryz.ntmps211
 go_wp2_with fail
 refine Calls.mono (rof3_any 1 _ (by decide) (by decide)) ?_
 rintro e w1 ⟨x1,rfl,hE,g1⟩
 have G1:=Hi g1
 clear g1
 replace HX:=hE.tr HX
 have hs_w1:=hE.size
 clear hE
 go_wp2_with fail
 refine nm_alloc (F:=fun W=>Calls _ _ _ W _) ?_
 intro y2 hE hB0 hz
 have hz_y2:=nle hz
 have hr_y2:=nle hz.symm
 clear hz
 replace HX:=hE.tr HX
 replace G1:=Hi (G1.out.ext hE)
 have hs_y2:=hE.size
 clear hE
 have B2:=Hi hB0
 clear hB0
 obtain ⟨c_B2,f_B2,l_B2⟩:=blk3 B2.out
 change Calls _ _ _ _ _
 have L2:Hid (CanL y2 ⟨some ⟨w1.heap.size,0,none⟩,1,1⟩ (chP 0).1):=Hi (canL_1 B2.out G1.out)
 (try clear c_B2 f_B2 l_B2);clear B2
 clear G1
 refine Calls.mono (rof3_any 0 _ (by decide) (by decide)) ?_
 rintro e w3 ⟨x3,rfl,hE,g3⟩
 have G3:=Hi g3
 clear g3
 replace HX:=hE.tr HX
 replace L2:=Hi (L2.out.ext hE)
 have hs_w3:=hE.size
 clear hE
 go_wp2_with fail
 refine Calls.mono (rof3_any 1 _ (by decide) (by decide)) ?_
 rintro e w4 ⟨x4,rfl,hE,g4⟩
 have G4:=Hi g4
 clear g4
 replace HX:=hE.tr HX
 replace L2:=Hi (L2.out.ext hE)
 replace G3:=Hi (G3.out.ext hE)
 have hs_w4:=hE.size
 clear hE
 go_upto_region 2 with fail
 refine nm_alloc ?_
 intro y5 hE hB0 hz
 have hz_y5:=nle hz
 have hr_y5:=nle hz.symm
 clear hz
 replace HX:=hE.tr HX
 replace L2:=Hi (L2.out.ext hE)
 replace G3:=Hi (G3.out.ext hE)
 replace G4:=Hi (G4.out.ext hE)
 have hs_y5:=hE.size
 clear hE
 have B5:=Hi hB0
 clear hB0
 obtain ⟨c_B5,f_B5,l_B5⟩:=blk3 B5.out
 have L5:Hid (CanL y5 ⟨some ⟨w4.heap.size,0,none⟩,2,2⟩ (chP 1).1):=Hi (by rw [chA_sz1];exact canL_2 B5.out G3.out G4.out)
 (try clear c_B5 f_B5 l_B5);clear B5
 clear G3
 clear G4
 go_wp2
 go_loopg [0,3,4] n (fun g z u v wr=>∃ (j:Nat) (s t:SH),u=s.v∧v=t.v∧j+g=n∧z=.int .i64 (g:Nat)∧Ext w wr∧CanL wr s (chP j).1∧CanL wr t (chP (j+1)).1)
 case atStart=>exact ⟨0,⟨some ⟨w1.heap.size,0,none⟩,1,1⟩,⟨some ⟨w4.heap.size,0,none⟩,2,2⟩,rfl,rfl,by omega,rfl,HX.out,L2.out,L5.out⟩
 case round =>
  obtain ⟨j,⟨sa,sn,sc⟩,⟨ta,tn,tc⟩,rfl,rfl,hj,rfl,g1,g2,g3⟩:=hrel
  clear HX L2 L5
  have HX:=Hi g1
  have LS:=Hi g2
  have LT:=Hi g3
  clear g1 g2 g3
  have hs:=LS.out.len
  have ht:=LT.out.len
  rw [chA_len] at hs ht
  simp only at hs ht
  subst hs ht
  simp only [SH.v]
  have hsz:=HX.out.size
  by_cases h0:gk=0
  case pos =>
   subst h0
   obtain rfl:j=n:=by omega
   go_wp2_with fail
   refine Calls.mono (trim5_any sa (j+1) sc (chP j).1 _ (LS.out.raw (chA_sz (by omega)) (by decide)) (by omega)) ?_
   rintro e w20 ⟨x20,rfl,hE,g20⟩
   have G20:=Hi g20
   clear g20
   replace HX:=hE.tr HX
   replace LS:=Hi (LS.out.ext hE)
   replace LT:=Hi (LT.out.ext hE)
   have hs_w20:=hE.size
   clear hE
   rw [chA_tz] at G20
   go_wp2
   go_ret
   exact ⟨x20,rfl,HX.out,G20.out.mono hsz⟩
  obtain ⟨g0,rfl⟩:∃ g0,gk=g0+1:=⟨gk - 1,by omega⟩
  have ZT:=Hi (chA_sz (n:=j+1) (by omega))
  have ZS:=Hi (chA_sz (n:=j) (by omega))
  have ZM:Hid (SzL 8388608 (mul5V (chP (j+1)).1 twoX)):=Hi ((mul5_sz (by decide) ZT.out ZX.out).mono (by rw [chA_len];omega))
  have LM:Hid ((mul5V (chP (j+1)).1 twoX).length≤1000):=Hi (by have:=mul5_len (chP (j+1)).1 twoX;rw [chA_len] at this;have h2:twoX.length=2:=rfl;omega)
  go_wp2_with fail
  refine Calls.mono (rof3_any 0 _ (by decide) (by decide)) ?_
  rintro e w1 ⟨x1,rfl,hE,g1⟩
  have G1:=Hi g1
  clear g1
  replace HX:=hE.tr HX
  replace LS:=Hi (LS.out.ext hE)
  replace LT:=Hi (LT.out.ext hE)
  have hs_w1:=hE.size
  clear hE
  go_wp2_with fail
  refine Calls.mono (rof3_any 2 _ (by decide) (by decide)) ?_
  rintro e w2 ⟨x2,rfl,hE,g2⟩
  have G2:=Hi g2
  clear g2
  replace HX:=hE.tr HX
  replace LS:=Hi (LS.out.ext hE)
  replace LT:=Hi (LT.out.ext hE)
  replace G1:=Hi (G1.out.ext hE)
  have hs_w2:=hE.size
  clear hE
  go_wp2_with fail
  refine nm_alloc (F:=fun W=>Calls _ _ _ W _) ?_
  intro y3 hE hB0 hz
  have hz_y3:=nle hz
  have hr_y3:=nle hz.symm
  clear hz
  replace HX:=hE.tr HX
  replace LS:=Hi (LS.out.ext hE)
  replace LT:=Hi (LT.out.ext hE)
  replace G1:=Hi (G1.out.ext hE)
  replace G2:=Hi (G2.out.ext hE)
  have hs_y3:=hE.size
  clear hE
  have B3:=Hi hB0
  clear hB0
  obtain ⟨c_B3,f_B3,l_B3⟩:=blk3 B3.out
  change Calls _ _ _ _ _
  have L3:Hid (CanL y3 ⟨some ⟨w2.heap.size,0,none⟩,2,2⟩ twoX):=Hi (canL_2 B3.out G1.out G2.out)
  (try clear c_B3 f_B3 l_B3);clear B3
  clear G1
  clear G2
  refine Calls.mono (mul5_any ta (some ⟨w2.heap.size,0,none⟩) (j+1+1) tc 2 2 (chP (j+1)).1 twoX 4 _ (LT.out.raw ZT.out (by decide)) (L3.out.raw ZX.out (by decide)) (by omega) (by decide) ZT.out ZX.out (by decide)) ?_
  rintro e w4 ⟨x4,rfl,hE,g4⟩
  have G4:=Hi g4
  clear g4
  replace HX:=hE.tr HX
  replace LS:=Hi (LS.out.ext hE)
  replace LT:=Hi (LT.out.ext hE)
  replace L3:=Hi (L3.out.ext hE)
  have hs_w4:=hE.size
  clear hE
  obtain ⟨ma,mn,mc⟩:=x4
  have hmn:mn≤1000:=by have h1:=G4.out.len;have h2:=LM.out;rw [h1] at h2;exact h2
  simp only [SH.v]
  go_wp2_with fail
  refine Calls.mono (sub5_any ma sa mn mc (j+1) sc _ (chP j).1 _ (G4.out.can.raw ZM.out (by decide)) (LS.out.raw ZS.out (by decide)) (by omega) (by omega) ZM.out (ZS.out.mono (by decide))) ?_
  rintro e w5 ⟨x5,rfl,hE,g5⟩
  have G5:=Hi g5
  clear g5
  replace HX:=hE.tr HX
  replace LS:=Hi (LS.out.ext hE)
  replace LT:=Hi (LT.out.ext hE)
  replace L3:=Hi (L3.out.ext hE)
  replace G4:=Hi (G4.out.ext hE)
  have hs_w5:=hE.size
  clear hE
  rw [cheb_step] at G5
  go_wp2
  go_roundg g0
  case measure=>omega
  case rel=>exact ⟨j+1,⟨ta,j+1+1,tc⟩,x5,rfl,rfl,by omega,by go_num,HX.out,LT.out,G5.out.can⟩
theorem sum_step {c:List Rat} {j:Nat} (hj:j < c.length):add5V (fbV (c.take j)) (scale5V (chP j).1 (c.getD j 0))=fbV (c.take (j+1)):=by
 rw [← ad5_tz,← fbV_tz (c.take (j+1))]
 apply tz_ext
 intro i
 rw [ad5_getD,sc5_getD,fbV_getD,fbV_getD,← take_snoc hj,fbS_snoc,List.length_take,Nat.min_eq_left (by omega)]
 show _+Tf j i * _=_+_ * Tf j i
 grind
theorem fbV_szk {s n:Nat} {c:List Rat} (h:SzL s c) (hs:1≤s) (hl:c.length≤n) (hn:n≤60):SzL (1+n * (s+5)) (fbV c):=by
 unfold fbV
 refine SzL.tz ?_
 intro q hq
 obtain ⟨i,-,rfl⟩:=List.mem_map.1 hq
 unfold fbS
 refine (sm_sz (t:=s+4) (fun k hk=>(h.getD hs k).mul (Tf_sz (by omega)))).mono ?_
 have:=Nat.mul_le_mul_right (s+4+1) hl
 show 1+c.length * (s+4+1)≤1+n * (s+4+1)
 omega
theorem fbV_len_le (c:List Rat):(fbV c).length≤c.length:=by
 unfold fbV
 refine Nat.le_trans (tz_len_le _) ?_
 simp
theorem sum8_any (ao:Option Addr) (n cap s:Nat) (cs:List Rat) (w:World) (h:RawL w ⟨ao,n,cap⟩ cs) (hn:n≤50) (hz:SzL s cs) (hs1:1≤s) (hs:s≤100000) :
  Does 209 [.slice ao n cap] w SH.v (fun x w'=>CanL w' x (fbV cs)):=by
 have H:=Hi h
 have HX:=Hi (Ext.refl w)
 have hle:=h.le
 have hmx:=h.max
 have Hlen:=Hi h.len
 simp only at hle hmx Hlen
 have HZ:=Hi hz
 clear h hz
 unfold Does
 go_enter Tryz.func209,Tryz.ntmps209
 go_wp2
 go_loopg [3,7] n (fun g u z wr=>∃ (j:Nat) (x:SH),u=x.v∧j+g=n∧z=.int .i64 (j:Nat)∧Ext w wr∧CanL wr x (fbV (cs.take j)))
 case atStart=>exact ⟨0,⟨none,0,0⟩,rfl,by omega,rfl,HX.out,(NewL.nil 0 _).can⟩
 case round =>
  obtain ⟨j,⟨xa,xn,xc⟩,rfl,hj,rfl,g1,g2⟩:=hrel
  clear HX
  have HX:=Hi g1
  have LX:=Hi g2
  clear g1 g2
  simp only [SH.v]
  by_cases h0:gk=0
  case pos =>
   subst h0
   obtain rfl:j=n:=by omega
   have HE:Hid (cs.take j=cs):=Hi (List.take_of_length_le (by rw [Hlen.out];exact Nat.le_refl _))
   rw [HE.out] at LX
   go_wp2
   go_ret
   exact ⟨⟨xa,xn,xc⟩,rfl,HX.out,LX.out⟩
  have hjn:(j:Int) < n:=by omega
  have hxn:xn≤50:=by have h1:=LX.out.len;have h2:=fbV_len_le (cs.take j);rw [List.length_take] at h2;simp only at h1;omega
  have ZX:Hid (SzL 8388608 (fbV (cs.take j))):=Hi ((fbV_szk (n:=50) (fun q hq=>HZ.out q (List.mem_of_mem_take hq)) hs1 (by rw [List.length_take];omega) (by decide)).mono (by omega))
  have ZT:=Hi (chA_sz (n:=j) (by omega))
  have ZC:=Hi (HZ.out.getD hs1 j)
  have HN:Hid (add5V (fbV (cs.take j)) (scale5V (chP j).1 (cs.getD j 0))=fbV (cs.take (j+1))):=Hi (sum_step (by rw [Hlen.out];omega))
  have ZS:Hid (SzL 8388608 (scale5V (chP j).1 (cs.getD j 0))):=Hi ((scale5_sz ZT.out ZC.out).mono (by omega))
  have LS:Hid ((scale5V (chP j).1 (cs.getD j 0)).length≤60):=Hi (by have:=scale5_len (chP j).1 (cs.getD j 0);rw [chA_len] at this;omega)
  obtain ⟨b,off,r,hao,hbl,⟨hc1,hc2,hc3⟩,hP⟩:=(H.out.ext HX.out).cells' (k:=j) (by omega)
  obtain ⟨rneg,ra,rn,rc,rb,rm,rd⟩:=r
  simp only at hc1 hc2 hc3
  subst hao
  have RP:=Hi hP
  clear hP
  go_upto_region 5 with fail
  refine wp_region_front 9 (fun opIx=>match opIx with
   | 2=>.spec (SH) (default) (SH.v) (fun x w'=>CanL w' x (chP j).1)
   | 7=>.spec (SH) (default) (SH.v) (fun x w'=>CanL w' x (scale5V (chP j).1 (cs.getD j 0)))
   | 8=>.spec (SH) (default) (SH.v) (fun x w'=>CanL w' x (fbV (cs.take (j+1))))
   | _=>.quiet) (fun | 7=>[2] | 8=>[7] | _=>[]) (by kernel_rfl) (by kernel_rfl) (fun w0 he0 hz0 hc0 hf0=>?_)
  replace he0:=Hi he0
  simp only [pT]
  repeat (refine wpq fun K h=>?_;go_big_quiet_op;refine h _ ?_;clear h K)
  refine wps he0.out rfl rfl (fun w1 hW hG=>?_) fun x2=>?_
  ·exact spc [.int .i64 (j:Nat)] Tryz.func211 ((cheb8_any j _ (by omega)).weak (fun _ _ _ h=>h.can))
  simp only [pS]
  repeat (refine wpq fun K h=>?_;go_big_quiet_op;refine h _ ?_;clear h K)
  refine wps he0.out rfl rfl (fun w1 hW hG=>?_) fun x7=>?_
  ·have g2:=(hG 2 (by decide):Since _ _).get fun _ e g=>g.ext e
   exact spc [x2.v,RH.v ⟨rneg,ra,rn,rc,rb,rm,rd⟩] Tryz.func73 ((scale5_any x2.a x2.n x2.c (chP j).1 ⟨rneg,ra,rn,rc,rb,rm,rd⟩ _ _ (g2.raw ZT.out (by decide)) (RP.out.ext hW) (by have h1:=g2.len;rw [chA_len] at h1;omega) (ZT.out.mono (by decide)) (ZC.out.mono (by omega))).weak (fun _ _ _ h=>h.can))
  simp only [pS]
  repeat (refine wpq fun K h=>?_;go_big_quiet_op;refine h _ ?_;clear h K)
  refine wps he0.out rfl rfl (fun w1 hW hG=>?_) fun x8=>?_
  ·have g7:=(hG 7 (by decide):Since _ _).get fun _ e g=>g.ext e
   exact spc [.slice xa xn xc,x7.v] Tryz.func71 ((add5_any xa x7.a xn xc x7.n x7.c _ _ _ ((LX.out.ext hW).raw ZX.out (by decide)) (g7.raw ZS.out (by decide)) (by omega) (by have h1:=g7.len;have h2:=LS.out;rw [h1] at h2;omega) ZX.out ZS.out).weak (fun _ _ _ h=>by rw [← HN.out];exact h.can))
  simp only [pS]
  repeat (refine wpq fun K h=>?_;go_big_quiet_op;refine h _ ?_;clear h K)
  refine wpF_nil ?_
  intro w5 hI
  have hE:=he0.out.trans hI.ext
  have G2:=Hi ((hI.facts 2:Since _ _).get fun _ e g=>g.ext e)
  have G7:=Hi ((hI.facts 7:Since _ _).get fun _ e g=>g.ext e)
  have G8:=Hi ((hI.facts 8:Since _ _).get fun _ e g=>g.ext e)
  clear hI he0 hz0 hc0 hf0
  replace HX:=hE.tr HX
  replace LX:=Hi (LX.out.ext hE)
  have hs_w5:=hE.size
  clear hE
  simp only [pD]
  go_wp2
  go_roundg (gk - 1)
  case measure=>omega
  case rel=>exact ⟨j+1,x8,rfl,by omega,by go_num,HX.out,G8.out⟩
end Go.Proofs.YtpieblkklbilgaaGreat
