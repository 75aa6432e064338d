/- Magnitude, times of the reference 20. -/
import Derived.Test.YtpieblkklbilgaaGreatQPR5e
import Derived.Test.YtpieblkklbilgaaGreatQPR20a
import Derived.Test.YtpieblkklbilgaaGreatQPR8b
import Derived.Test.YtpieblkklbilgaaGreatQPDl
set_option linter.unusedVariables false
set_option maxRecDepth 8000
set_option maxHeartbeats 4000000
namespace Go.Proofs.YtpieblkklbilgaaGreat
open Go.RowKit Go.Front Go.Num Stab
attribute [local go_sem] XW.cell XW.frozen
def tmF (l:List Rat) (k:Nat):Rat:=l.getD k 0 * (((k:Nat):Int):Rat)
def tmV (l:List Rat):List Rat:=tz ((List.range l.length).map (tmF l))
theorem tmF_snoc (l:List Rat) (j:Nat):(List.range (j+1)).map (tmF l)=(List.range j).map (tmF l) ++ [l.getD j 0 * (((j:Nat):Int):Rat)]:=range_snoc' (tmF l) j
theorem tm_trn (l:List Rat):tmV l=tz (trnV (tz l)):=by
 unfold tmV
 refine tz_ext fun i=>?_
 have h1:=tz_len_le l
 unfold trnV
 rw [pd_range,pd_range]
 by_cases hi:i < (tz l).length
 ·rw [if_pos hi,if_pos (by omega),tz_getD']
  unfold tmF
  exact Rat.mul_comm _ _
 ·rw [if_neg hi]
  split
  ·unfold tmF
   rw [← tz_getD' l,pd_over (by omega),Rat.zero_mul]
  ·rfl
theorem tm_cross (l:List Rat):crossV (tmV l) l=crossV (trnV (tz l)) (tz l):=by
 rw [← cross_tz (trnV (tz l)) (tz l),← tm_trn,tz_idem,← cross_tz (tmV l) l]
 congr 1
 unfold tmV
 rw [tz_idem]
theorem times20_any (ao:Option Addr) (n cap:Nat) (l:List Rat) (w:World) (h:RawL w ⟨ao,n,cap⟩ l) (hn:n≤1000000) (hz:SzL 8388608 l) :
  Does 144 [.slice ao n cap] w SH.v (fun s w'=>NewL w.heap.size w' s (tmV l)):=by
 have H:=Hi h
 have HX:=Hi (Ext.refl w)
 have hle:=h.le
 have hmx:=h.max
 have Hlen:=Hi h.len
 simp only at hle hmx Hlen
 have HZ:=Hi hz
 clear h hz
 unfold Does
 go_enter Tryz.func144,Tryz.ntmps144
 go_wp2
 go_loopg [3,8] n (fun g v i wr=>∃ (j:Nat) (s:SH),v=s.v∧j+g=n∧i=.int .i64 (j:Nat)∧Ext w wr∧OwnQ wr (w.heap.size≤·) s.v ((List.range j).map (tmF l)))
 case atStart=>exact ⟨0,⟨none,0,0⟩,rfl,by omega,rfl,HX.out,OwnQ.nil _ _⟩
 case round =>
  obtain ⟨j,⟨sa,sn,sc⟩,rfl,hj,rfl,g1,g4⟩:=hrel
  clear HX
  have HX:=Hi g1
  have HO:=Hi g4
  have hsz:=g1.size
  clear g1 g4
  simp only [SH.v]
  have HLj:Hid (((List.range j).map (tmF l)).length=j):=Hi (by simp)
  by_cases h0:gk=0
  case pos =>
   subst h0
   obtain rfl:j=n:=by omega
   have hsn:=OwnQ.len (s:=⟨sa,sn,sc⟩) HO.out
   rw [HLj.out] at hsn
   simp only at hsn
   subst hsn
   have HSz:Hid (SzL 16777216 ((List.range j).map (tmF l))):=Hi (by
    intro q hq
    obtain ⟨k,hk,rfl⟩:=List.mem_map.1 hq
    have hk:=List.mem_range.1 hk
    have h1:Sz 8388608 (l.getD k 0):=HZ.out.at (by rw [Hlen.out];omega)
    exact (h1.mul (Sz.int (z:=((k:Nat):Int)) (by rw [Int.natAbs_natCast];show _ < 4294967296;omega))).mono (by decide))
   have HV:Hid (tz ((List.range j).map (tmF l))=tmV l):=Hi (by unfold tmV;rw [Hlen.out])
   go_wp2_with fail
   refine Calls.mono (trim5_any sa j sc _ _ ((OwnQ.can (s:=⟨sa,j,sc⟩) HO.out).raw HSz.out (by decide)) (by omega)) ?_
   rintro e w22 ⟨x22,rfl,hE,g22⟩
   have G22:=Hi g22
   clear g22
   replace HX:=hE.tr HX
   replace HO:=Hi (HO.out.ext hE)
   have hs_w22:=hE.size
   clear hE
   go_wp2
   go_ret
   exact ⟨x22,rfl,HX.out,by rw [← HV.out];exact G22.out.mono hsz⟩
  have hjn:(j:Int) < n:=by omega
  obtain ⟨b,off,r,hao,hbl,⟨hc1,hc2,hc3⟩,hP⟩:=(H.out.ext HX.out).cells' (k:=j) (by omega)
  obtain ⟨rneg,ra,rn,rc,rb,rm,rd⟩:=r
  simp only at hc1 hc2 hc3
  subst hao
  have RP:=Hi hP
  clear hP
  have ZP:Hid (Sz 8388608 (l.getD j 0)):=Hi (HZ.out.at (by rw [Hlen.out];omega))
  have HNx:=Hi (tmF_snoc l j)
  go_upto_region 5 with fail
  refine nm_alloc ?_
  intro y1 hE hB0 hz
  have hz_y1:=nle hz
  have hr_y1:=nle hz.symm
  clear hz
  replace HX:=hE.tr HX
  replace HO:=Hi (HO.out.ext hE)
  replace RP:=Hi (RP.out.ext hE)
  have hs_y1:=hE.size
  clear hE
  have B5:=Hi hB0
  clear hB0
  obtain ⟨c_B5,f_B5,l_B5⟩:=blk3 B5.out
  clear hc1 hc2 hc3
  go_upto_region 5 with fail
  refine wp_region_front 6 (fun opIx=>match opIx with
   | 3=>.spec RH default RH.v (fun s w'=>CanR w' s ((((j:Nat):Int):Rat)))
   | 4=>.spec RH default RH.v (fun s w'=>CanR w' s (l.getD j 0 * (((j:Nat):Int):Rat)))
   | 5=>.spec (Nat × RH) ((0,default)) (fun p=>.slice (some ⟨p.1,0,none⟩) 1 1) (fun p w'=>BuiltR w' p (l.getD j 0 * (((j:Nat):Int):Rat)))
   | _=>.quiet) (fun | 4=>[3] | 5=>[4] | _=>[]) (by kernel_rfl) (by kernel_rfl) (fun w0 he0 hz0 hc0 hf0=>?_)
  replace he0:=Hi he0
  simp only [pT]
  repeat (refine wpq fun K h=>?_;go_big_quiet_op;refine h _ ?_;clear h K)
  refine wps he0.out rfl rfl (fun w1 hW hG=>?_) fun x30=>?_
  ·exact spc [.int .i64 (j:Nat)] Tryz.func66 (rof3_any ((j:Nat):Int) _ (by omega) (by omega))
  simp only [pS]
  repeat (refine wpq fun K h=>?_;go_big_quiet_op;refine h _ ?_;clear h K)
  refine wps he0.out rfl rfl (fun w1 hW hG=>?_) fun x31=>?_
  ·have g30:=(hG 3 (by decide):Since _ _).get fun _ e g=>g.ext e
   exact spc [RH.v ⟨rneg,ra,rn,rc,rb,rm,rd⟩,x30.v] Tryz.func38 (rmul3_any ⟨rneg,ra,rn,rc,rb,rm,rd⟩ x30 _ _ _ (RP.out.ext hW) (g30.raw (Sz.int (by rw [Int.natAbs_natCast];show _ < 4294967296;omega)) (by decide)))
  simp only [pS]
  repeat (refine wpq fun K h=>?_;go_big_quiet_op;refine h _ ?_;clear h K)
  refine wps he0.out rfl rfl (fun w1 hW hG=>?_) fun x32=>?_
  ·have g31:=(hG 4 (by decide):Since _ _).get fun _ e g=>g.ext e
   exact spec_build x31 _ g31 rfl (by simp [execOp,go_sem])
  simp only [pS]
  repeat (refine wpq fun K h=>?_;go_big_quiet_op;refine h _ ?_;clear h K)
  refine wpF_nil ?_
  intro w5 hI
  have hE:=he0.out.trans hI.ext
  have G30:=Hi ((hI.facts 3:Since _ _).get fun _ e g=>g.ext e)
  have G31:=Hi ((hI.facts 4:Since _ _).get fun _ e g=>g.ext e)
  have G32:=Hi ((hI.facts 5:Since _ _).get fun _ e g=>g.ext e)
  clear hI he0 hz0 hc0 hf0
  replace HX:=hE.tr HX
  replace HO:=Hi (HO.out.ext hE)
  replace RP:=Hi (RP.out.ext hE)
  replace B5:=hE.bl B5
  have hs_w5:=hE.size
  clear hE
  try clear c_B5 f_B5 l_B5
  obtain ⟨c_B5,f_B5,l_B5⟩:=blk3 B5.out
  simp only [pD]
  go_upto_region 6 with (at_builtin;refine wpList_append_q rfl (.tmp 13) (.tmp 18) 41 Tryz.underlying41 rfl (w.heap.size≤·) _ _ x32.2 _ x32.1 rfl HO.out rfl G32.out.1 G32.out.2 (by rw [HLj.out];omega) (fun k hk=>by omega) ?_;intro s' y3 q1 q2 q3)
  have HX3:=Hi (Ext.mods HX.out q2 (fun k h=>h))
  have HO3:Hid (OwnQ y3 (w.heap.size≤·) s'.v ((List.range (j+1)).map (tmF l))):=Hi (by rw [HNx.out];exact q1)
  clear q1 q2 q3
  go_wp2
  go_roundg (gk - 1)
  case measure=>omega
  case rel=>exact ⟨j+1,s',rfl,by omega,by go_num,HX3.out,HO3.out⟩
theorem rmag20_any (f:FH) (b a:List Rat) (s:Nat) (w:World) (h:RawF w f b a) (hf:f.b.n≤12∧f.a.n≤12) (zb:SzL s b) (za:SzL s a) (hs1:1≤s) (hs:s≤400) :
  Does 60 [f.v] w FE (FEP (magV b a)):=by
 obtain ⟨⟨ba,bn,bc⟩,⟨aa,an,ac⟩⟩:=f
 have H:=Hi h
 have HX:=Hi (Ext.refl w)
 have ZB:=Hi zb
 have ZA:=Hi za
 simp only at hf
 clear h zb za
 unfold Does
 simp only [FH.v,SH.v]
 go_enter Tryz.func60,Tryz.ntmps60
 go_upto_region 1 with fail
 refine nm_alloc2 ?_
 intro w1 hE hB0 hB1 hz
 have hz_w1:=nle hz
 have hr_w1:=nle hz.symm
 clear hz
 replace HX:=hE.tr HX
 have hs_w1:=hE.size
 clear hE
 have B1:=Hi hB0
 clear hB0
 obtain ⟨c_B1,f_B1,l_B1⟩:=blk3 B1.out
 have B2:=Hi hB1
 clear hB1
 obtain ⟨c_B2,f_B2,l_B2⟩:=blk3 B2.out
 go_wp2_with fail
 refine Calls.mono (rvalid_any ⟨⟨ba,bn,bc⟩,⟨aa,an,ac⟩⟩ b a _ (H.out.ext HX.out) (by simp only;omega) (by simp only;omega) ZB.out ZA.out hs) ?_
 rintro e w9 ⟨x9,rfl,hE,-⟩
 replace HX:=hE.tr HX
 replace B1:=hE.bl B1
 replace B2:=hE.bl B2
 have hs_w9:=hE.size
 clear hE
 try clear c_B1 f_B1 l_B1
 obtain ⟨c_B1,f_B1,l_B1⟩:=blk3 B1.out
 try clear c_B2 f_B2 l_B2
 obtain ⟨c_B2,f_B2,l_B2⟩:=blk3 B2.out
 by_cases hv:VF b a
 case neg =>
  have hv1:decide (VF b a)=false:=decide_eq_false hv
  have HV:Hid (magV b a=(2,[],[])):=Hi (by unfold magV;rw [if_neg hv])
  rw [hv1]
  go_wp2
  refine nm_setF (F:=fun W=>bodyPost _ _ _ _ _ W) B2.out rfl ?_
  intro w3 T
  replace HX:=Hi (T.ext HX.out (by omega))
  replace B1:=Hi (T.rest _ _ (by omega) B1.out)
  replace B2:=Hi (T.bx)
  have hs_w3:=nle T.size
  have hr_w3:=nle T.size.symm
  clear T
  try clear c_B1 f_B1 l_B1
  obtain ⟨c_B1,f_B1,l_B1⟩:=blk3 B1.out
  try clear c_B2 f_B2 l_B2
  obtain ⟨c_B2,f_B2,l_B2⟩:=blk3 B2.out
  exact bodyPost_ret (v:=FE (⟨⟨none,0,0⟩,⟨none,0,0⟩⟩,2)) (by simp [results,Tryz.results60,go_sem,c_B2,FE]) rfl ⟨(⟨⟨none,0,0⟩,⟨none,0,0⟩⟩,2),rfl,HX.out,by rw [HV.out];exact ⟨rfl,canF_nil _⟩⟩
 have hv1:decide (VF b a)=true:=decide_eq_true hv
 have HV:Hid (magV b a=(0,crossV b b,crossV a a)):=Hi (by unfold magV;rw [if_pos hv])
 rw [hv1]
 go_wp2_with fail
 refine Calls.mono (magnitude8_any ba bn bc s b _ (H.out.1.ext HX.out) hf.1 ZB.out hs1 hs) ?_
 rintro e w15 ⟨x15,rfl,hE,g15⟩
 have G15:=Hi g15
 clear g15
 replace HX:=hE.tr HX
 replace B1:=hE.bl B1
 replace B2:=hE.bl B2
 have hs_w15:=hE.size
 clear hE
 try clear c_B1 f_B1 l_B1
 obtain ⟨c_B1,f_B1,l_B1⟩:=blk3 B1.out
 try clear c_B2 f_B2 l_B2
 obtain ⟨c_B2,f_B2,l_B2⟩:=blk3 B2.out
 obtain ⟨x15,e15⟩:=x15
 have LP:=Hi G15.out.2
 clear G15
 simp only [RF] at *
 go_wp2_with fail
 refine Calls.mono (magnitude8_any aa an ac s a _ (H.out.2.ext HX.out) hf.2 ZA.out hs1 hs) ?_
 rintro e w21 ⟨x21,rfl,hE,g21⟩
 have G21:=Hi g21
 clear g21
 replace HX:=hE.tr HX
 replace B1:=hE.bl B1
 replace B2:=hE.bl B2
 replace LP:=Hi (LP.out.ext hE)
 have hs_w21:=hE.size
 clear hE
 try clear c_B1 f_B1 l_B1
 obtain ⟨c_B1,f_B1,l_B1⟩:=blk3 B1.out
 try clear c_B2 f_B2 l_B2
 obtain ⟨c_B2,f_B2,l_B2⟩:=blk3 B2.out
 obtain ⟨x21,e21⟩:=x21
 have LQ:=Hi G21.out.2
 clear G21
 simp only [RF] at *
 go_wp2
 refine nm_setF (F:=fun W=>bodyPost _ _ _ _ _ W) B2.out rfl ?_
 intro w6 T
 have L1:=Hi (LP.out.put2 B2.out T)
 have L2:=Hi (LQ.out.put2 B2.out T)
 clear LP
 clear LQ
 replace HX:=Hi (T.ext HX.out (by omega))
 replace B1:=Hi (T.rest _ _ (by omega) B1.out)
 replace B2:=Hi (T.bx)
 have hs_w6:=nle T.size
 have hr_w6:=nle T.size.symm
 clear T
 try clear c_B1 f_B1 l_B1
 obtain ⟨c_B1,f_B1,l_B1⟩:=blk3 B1.out
 try clear c_B2 f_B2 l_B2
 obtain ⟨c_B2,f_B2,l_B2⟩:=blk3 B2.out
 exact bodyPost_ret (v:=FE (⟨x15,x21⟩,0)) (by simp [results,Tryz.results60,go_sem,c_B2,FE]) rfl ⟨(⟨x15,x21⟩,0),rfl,HX.out,by rw [HV.out];exact ⟨rfl,L1.out,L2.out⟩⟩
end Go.Proofs.YtpieblkklbilgaaGreat
