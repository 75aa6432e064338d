/- Intervals of the reference: Hull, Width, Same, Inside. -/
import Derived.Test.YtpieblkklbilgaaGreatQKIv2
import Derived.Test.YtpieblkklbilgaaGreatQKBn5
set_option linter.unusedVariables false
set_option maxRecDepth 8000
set_option maxHeartbeats 4000000
namespace Go.Proofs.YtpieblkklbilgaaGreat
open Go.RowKit Go.Front Go.Num Stab
attribute [local go_sem] XW.cell XW.frozen
theorem nm_two6 {w1:World} {b b':Nat} {T T':TypeId} {c0 c1 c2 c3 c4 c5 v0 v1 v2 v3 v4 v5 d0 d1 d2 d3 d4 d5 u0 u1 u2 u3 u4 u5:Value} {F:World→Prop} (hb:w1.heap[b]?=some (.cells #[c0,c1,c2,c3,c4,c5] T (0,0))) (hn:#[c0,c1,c2,c3,c4,c5].toList.all nonU=true)
  (hb':w1.heap[b']?=some (.cells #[d0,d1,d2,d3,d4,d5] T' (0,0))) (hn':#[d0,d1,d2,d3,d4,d5].toList.all nonU=true) (hne:b' ≠ b)
  (H:∀ w2 w3,PutB w1 b T #[v0,v1,v2,v3,v4,v5] w2→PutB w2 b' T' #[u0,u1,u2,u3,u4,u5] w3→F w3) :
  F ((((((((((((w1.setCell ⟨b,0,none⟩ v0).setCell ⟨b,1,none⟩ v1).setCell ⟨b,2,none⟩ v2).setCell ⟨b,3,none⟩ v3).setCell ⟨b,4,none⟩ v4).setCell ⟨b,5,none⟩ v5).setCell ⟨b',0,none⟩ u0).setCell ⟨b',1,none⟩ u1).setCell ⟨b',2,none⟩ u2).setCell ⟨b',3,none⟩ u3).setCell ⟨b',4,none⟩ u4).setCell ⟨b',5,none⟩ u5) :=
 nm_set6 (v0:=v0) (v1:=v1) (v2:=v2) (v3:=v3) (v4:=v4) (v5:=v5) (F:=fun W=>F ((((((W.setCell ⟨b',0,none⟩ u0).setCell ⟨b',1,none⟩ u1).setCell ⟨b',2,none⟩ u2).setCell ⟨b',3,none⟩ u3).setCell ⟨b',4,none⟩ u4).setCell ⟨b',5,none⟩ u5)) hb hn fun w2 T2 =>
  nm_set6 (v0:=u0) (v1:=u1) (v2:=u2) (v3:=u3) (v4:=u4) (v5:=u5) (F:=F) (T2.rest _ _ hne hb') hn' fun w3 T3=>H w2 w3 T2 T3
theorem lo_sz {T:Nat} {a b:Rat} (za:Sz T a) (zb:Sz T b):Sz T (loV a b):=by rcases lo_or a b with e | e <;> rw [e] <;> assumption
theorem hi_sz {T:Nat} {a b:Rat} (za:Sz T a) (zb:Sz T b):Sz T (hiV a b):=by rcases hi_or a b with e | e <;> rw [e] <;> assumption
theorem ivhull4_any (s t u v:RH) (a b c d:Rat) (T:Nat) (w:World) (hs:RawR w s a) (ht:RawR w t b) (hu:RawR w u c) (hv:RawR w v d) (za:Sz T a) (zb:Sz T b) (zc:Sz T c) (zd:Sz T d) (hT:T≤10000000) :
  Does 120 [IvV (s,t),IvV (u,v)] w IvV (fun x w'=>IvC w' x (loV (loV a b) (loV c d)) (hiV (hiV a b) (hiV c d))):=by
 have HX:=Hi (Ext.refl w)
 have HS:=Hi hs
 have HT:=Hi ht
 have HU:=Hi hu
 have HV:=Hi hv
 have Z1:=Hi (lo_sz za zb)
 have Z2:=Hi (hi_sz za zb)
 have Z3:=Hi (lo_sz zc zd)
 have Z4:=Hi (hi_sz zc zd)
 clear hs ht hu hv za zb zc zd
 unfold Does
 go_enter Tryz.func120,Tryz.ntmps120
 obtain ⟨sn,sa,sl,sc,sb,sm,sd⟩:=s
 obtain ⟨tn,ta,tl,tc,tb,tm,td⟩:=t
 obtain ⟨un,ua,ul,uc,ub,um,ud⟩:=u
 obtain ⟨vn,va,vl,vc,vb,vm,vd⟩:=v
 go_upto_region 1 with fail
 refine nm_alloc3 ?_
 intro w1 hE hB0 hB1 hB2 hz
 have hz_w1:=nle hz
 have hr_w1:=nle hz.symm
 clear hz
 replace HX:=hE.tr HX
 replace HS:=Hi (HS.out.ext hE)
 replace HT:=Hi (HT.out.ext hE)
 replace HU:=Hi (HU.out.ext hE)
 replace HV:=Hi (HV.out.ext hE)
 have hs_w1:=hE.size
 clear hE
 have B2:=Hi hB0
 clear hB0
 obtain ⟨c_B2,f_B2,l_B2⟩:=blk3 B2.out
 have B3:=Hi hB1
 clear hB1
 obtain ⟨c_B3,f_B3,l_B3⟩:=blk3 B3.out
 have B4:=Hi hB2
 clear hB2
 obtain ⟨c_B4,f_B4,l_B4⟩:=blk3 B4.out
 refine wp_region_front 4 (fun opIx=>match opIx with
  | 1=>.spec (RH × RH) (default) (IvV) (fun x w'=>IvC w' x (loV a b) (hiV a b))
  | 3=>.spec (RH × RH) (default) (IvV) (fun x w'=>IvC w' x (loV c d) (hiV c d))
  | _=>.quiet) (fun _=>[]) (by kernel_rfl) (by kernel_rfl) (fun w0 he0 hz0 hc0 hf0=>?_)
 replace he0:=Hi he0
 simp only [pT]
 repeat (refine wpq fun K h=>?_;go_big_quiet_op;refine h _ ?_;clear h K)
 refine wps he0.out rfl rfl (fun w1 hW hG=>?_) fun x20=>?_
 ·exact spc [IvV (⟨sn,sa,sl,sc,sb,sm,sd⟩,⟨tn,ta,tl,tc,tb,tm,td⟩)] Tryz.func95 (ivtrim4_any ⟨sn,sa,sl,sc,sb,sm,sd⟩ ⟨tn,ta,tl,tc,tb,tm,td⟩ _ _ _ (HS.out.ext hW) (HT.out.ext hW))
 simp only [pS]
 repeat (refine wpq fun K h=>?_;go_big_quiet_op;refine h _ ?_;clear h K)
 refine wps he0.out rfl rfl (fun w1 hW hG=>?_) fun x21=>?_
 ·exact spc [IvV (⟨un,ua,ul,uc,ub,um,ud⟩,⟨vn,va,vl,vc,vb,vm,vd⟩)] Tryz.func95 (ivtrim4_any ⟨un,ua,ul,uc,ub,um,ud⟩ ⟨vn,va,vl,vc,vb,vm,vd⟩ _ _ _ (HU.out.ext hW) (HV.out.ext hW))
 simp only [pS]
 repeat (refine wpq fun K h=>?_;go_big_quiet_op;refine h _ ?_;clear h K)
 refine wpF_nil ?_
 intro w2 hI
 have hE:=he0.out.trans hI.ext
 have G20:=Hi ((hI.facts 1:Since _ _).get fun _ e g=>g.ext e)
 have G21:=Hi ((hI.facts 3:Since _ _).get fun _ e g=>g.ext e)
 clear hI he0 hz0 hc0 hf0
 replace HX:=hE.tr HX
 replace HS:=Hi (HS.out.ext hE)
 replace HT:=Hi (HT.out.ext hE)
 replace HU:=Hi (HU.out.ext hE)
 replace HV:=Hi (HV.out.ext hE)
 replace B2:=hE.bl B2
 replace B3:=hE.bl B3
 replace B4:=hE.bl B4
 have hs_w2:=hE.size
 clear hE
 try clear c_B2 f_B2 l_B2
 obtain ⟨c_B2,f_B2,l_B2⟩:=blk3 B2.out
 try clear c_B3 f_B3 l_B3
 obtain ⟨c_B3,f_B3,l_B3⟩:=blk3 B3.out
 try clear c_B4 f_B4 l_B4
 obtain ⟨c_B4,f_B4,l_B4⟩:=blk3 B4.out
 simp only [pD]
 obtain ⟨⟨an,aa,al,ac,ab,am,ad⟩,⟨bn,ba,bl,bc,bb,bm,bd⟩⟩:=x20
 obtain ⟨⟨cn,ca,cl,cc,cb,cm,cd⟩,⟨dn,da,dl,dc,db,dm,dd⟩⟩:=x21
 have H1:=Hi G20.out.1
 have H2:=Hi G20.out.2
 have H3:=Hi G21.out.1
 have H4:=Hi G21.out.2
 clear G20 G21
 simp only at H1 H2 H3 H4
 clear HS
 clear HT
 clear HU
 clear HV
 go_upto_region 2 with fail
 refine nm_two6 B2.out rfl B3.out rfl (by omega) ?_
 intro w3 w4 T T4
 replace HX:=Hi (T.ext HX.out (by omega))
 replace B2:=Hi (T.bx)
 replace B3:=Hi (T.rest _ _ (by omega) B3.out)
 replace B4:=Hi (T.rest _ _ (by omega) B4.out)
 replace H1:=Hi (H1.out.keep T.keep)
 replace H2:=Hi (H2.out.keep T.keep)
 replace H3:=Hi (H3.out.keep T.keep)
 replace H4:=Hi (H4.out.keep T.keep)
 have hs_w3:=nle T.size
 have hr_w3:=nle T.size.symm
 clear T
 try clear c_B2 f_B2 l_B2
 obtain ⟨c_B2,f_B2,l_B2⟩:=blk3 B2.out
 try clear c_B3 f_B3 l_B3
 obtain ⟨c_B3,f_B3,l_B3⟩:=blk3 B3.out
 try clear c_B4 f_B4 l_B4
 obtain ⟨c_B4,f_B4,l_B4⟩:=blk3 B4.out
 have T:=T4
 clear T4
 replace HX:=Hi (T.ext HX.out (by omega))
 replace B2:=Hi (T.rest _ _ (by omega) B2.out)
 replace B3:=Hi (T.bx)
 replace B4:=Hi (T.rest _ _ (by omega) B4.out)
 replace H1:=Hi (H1.out.keep T.keep)
 replace H2:=Hi (H2.out.keep T.keep)
 replace H3:=Hi (H3.out.keep T.keep)
 replace H4:=Hi (H4.out.keep T.keep)
 have hs_w4:=nle T.size
 have hr_w4:=nle T.size.symm
 clear T
 try clear c_B2 f_B2 l_B2
 obtain ⟨c_B2,f_B2,l_B2⟩:=blk3 B2.out
 try clear c_B3 f_B3 l_B3
 obtain ⟨c_B3,f_B3,l_B3⟩:=blk3 B3.out
 try clear c_B4 f_B4 l_B4
 obtain ⟨c_B4,f_B4,l_B4⟩:=blk3 B4.out
 refine wp_region_front 10 (fun opIx=>match opIx with
  | 4=>.spec RH default RH.v (fun s w'=>CanR w' s (loV (loV a b) (loV c d)))
  | 9=>.spec RH default RH.v (fun s w'=>CanR w' s (hiV (hiV a b) (hiV c d)))
  | _=>.quiet) (fun _=>[]) (by kernel_rfl) (by kernel_rfl) (fun w0 he0 hz0 hc0 hf0=>?_)
 replace he0:=Hi he0
 simp only [pT]
 repeat (refine wpq fun K h=>?_;go_big_quiet_op;refine h _ ?_;clear h K)
 refine wps he0.out rfl rfl (fun w1 hW hG=>?_) fun x22=>?_
 ·exact spc [RH.v ⟨an,aa,al,ac,ab,am,ad⟩,RH.v ⟨cn,ca,cl,cc,cb,cm,cd⟩] Tryz.func35 (rmin3_any _ _ _ _ _ ((H1.out.ext hW).raw Z1.out (by omega)) ((H3.out.ext hW).raw Z3.out (by omega)))
 simp only [pS]
 repeat (refine wpq fun K h=>?_;go_big_quiet_op;refine h _ ?_;clear h K)
 refine wps he0.out rfl rfl (fun w1 hW hG=>?_) fun x23=>?_
 ·exact spc [RH.v ⟨bn,ba,bl,bc,bb,bm,bd⟩,RH.v ⟨dn,da,dl,dc,db,dm,dd⟩] Tryz.func167 (rmax3_any _ _ _ _ _ ((H2.out.ext hW).raw Z2.out (by omega)) ((H4.out.ext hW).raw Z4.out (by omega)))
 simp only [pS]
 repeat (refine wpq fun K h=>?_;go_big_quiet_op;refine h _ ?_;clear h K)
 refine wpF_nil ?_
 intro w5 hI
 have hE:=he0.out.trans hI.ext
 have G22:=Hi ((hI.facts 4:Since _ _).get fun _ e g=>g.ext e)
 have G23:=Hi ((hI.facts 9:Since _ _).get fun _ e g=>g.ext e)
 clear hI he0 hz0 hc0 hf0
 replace HX:=hE.tr HX
 replace B2:=hE.bl B2
 replace B3:=hE.bl B3
 replace B4:=hE.bl B4
 replace H1:=Hi (H1.out.ext hE)
 replace H2:=Hi (H2.out.ext hE)
 replace H3:=Hi (H3.out.ext hE)
 replace H4:=Hi (H4.out.ext hE)
 have hs_w5:=hE.size
 clear hE
 try clear c_B2 f_B2 l_B2
 obtain ⟨c_B2,f_B2,l_B2⟩:=blk3 B2.out
 try clear c_B3 f_B3 l_B3
 obtain ⟨c_B3,f_B3,l_B3⟩:=blk3 B3.out
 try clear c_B4 f_B4 l_B4
 obtain ⟨c_B4,f_B4,l_B4⟩:=blk3 B4.out
 simp only [pD]
 go_wp2
 refine nm_set6 (F:=fun W=>bodyPost _ _ _ _ _ W) B4.out rfl ?_
 intro w10 T
 replace HX:=Hi (T.ext HX.out (by omega))
 replace B2:=Hi (T.rest _ _ (by omega) B2.out)
 replace B3:=Hi (T.rest _ _ (by omega) B3.out)
 replace B4:=Hi (T.bx)
 replace H1:=Hi (H1.out.keep T.keep)
 replace H2:=Hi (H2.out.keep T.keep)
 replace H3:=Hi (H3.out.keep T.keep)
 replace H4:=Hi (H4.out.keep T.keep)
 replace G22:=Hi (G22.out.keep T.keep)
 replace G23:=Hi (G23.out.keep T.keep)
 have hs_w10:=nle T.size
 have hr_w10:=nle T.size.symm
 clear T
 try clear c_B2 f_B2 l_B2
 obtain ⟨c_B2,f_B2,l_B2⟩:=blk3 B2.out
 try clear c_B3 f_B3 l_B3
 obtain ⟨c_B3,f_B3,l_B3⟩:=blk3 B3.out
 try clear c_B4 f_B4 l_B4
 obtain ⟨c_B4,f_B4,l_B4⟩:=blk3 B4.out
 exact bodyPost_ret (v:=IvV (x22,x23)) (by simp [results,Tryz.results120,go_sem,c_B4]) rfl ⟨(x22,x23),rfl,HX.out,G22.out,G23.out⟩
theorem ivwid4_any (s t:RH) (a b:Rat) (T:Nat) (w:World) (hs:RawR w s a) (ht:RawR w t b) (za:Sz T a) (zb:Sz T b) (hT:T≤10000000) :
  Does 39 [IvV (s,t)] w RH.v (fun x w'=>CanR w' x (hiV a b - loV a b)):=by
 have HX:=Hi (Ext.refl w)
 have HS:=Hi hs
 have HT:=Hi ht
 have ZA:=Hi (lo_sz za zb)
 have ZB:=Hi (hi_sz za zb)
 clear hs ht za zb
 unfold Does
 go_enter Tryz.func39,Tryz.ntmps39
 obtain ⟨sn,sa,sl,sc,sb,sm,sd⟩:=s
 obtain ⟨tn,ta,tl,tc,tb,tm,td⟩:=t
 go_upto_region 1 with fail
 refine nm_alloc2 ?_
 intro w1 hE hB0 hB1 hz
 have hz_w1:=nle hz
 have hr_w1:=nle hz.symm
 clear hz
 replace HX:=hE.tr HX
 replace HS:=Hi (HS.out.ext hE)
 replace HT:=Hi (HT.out.ext hE)
 have hs_w1:=hE.size
 clear hE
 have B1:=Hi hB0
 clear hB0
 obtain ⟨c_B1,f_B1,l_B1⟩:=blk3 B1.out
 have B2:=Hi hB1
 clear hB1
 obtain ⟨c_B2,f_B2,l_B2⟩:=blk3 B2.out
 go_wp2_with fail
 refine Calls.mono (ivtrim4_any ⟨sn,sa,sl,sc,sb,sm,sd⟩ ⟨tn,ta,tl,tc,tb,tm,td⟩ a b _ HS.out HT.out) ?_
 rintro e w4 ⟨x4,rfl,hE,g4⟩
 have G4:=Hi g4
 clear g4
 replace HX:=hE.tr HX
 replace HS:=Hi (HS.out.ext hE)
 replace HT:=Hi (HT.out.ext hE)
 replace B1:=hE.bl B1
 replace B2:=hE.bl B2
 have hs_w4:=hE.size
 clear hE
 try clear c_B1 f_B1 l_B1
 obtain ⟨c_B1,f_B1,l_B1⟩:=blk3 B1.out
 try clear c_B2 f_B2 l_B2
 obtain ⟨c_B2,f_B2,l_B2⟩:=blk3 B2.out
 obtain ⟨⟨ln,la,ll,lc,lb,lm,ld⟩,⟨hn,ha,hl,hc,hb,hm,hd⟩⟩:=x4
 have HL:=Hi G4.out.1
 have HH:=Hi G4.out.2
 clear G4
 clear HS
 clear HT
 go_upto_region 2 with fail
 refine nm_set6 B1.out rfl ?_
 intro w5 T
 replace HX:=Hi (T.ext HX.out (by omega))
 replace B1:=Hi (T.bx)
 replace B2:=Hi (T.rest _ _ (by omega) B2.out)
 replace HL:=Hi (HL.out.keep T.keep)
 replace HH:=Hi (HH.out.keep T.keep)
 have hs_w5:=nle T.size
 have hr_w5:=nle T.size.symm
 clear T
 try clear c_B1 f_B1 l_B1
 obtain ⟨c_B1,f_B1,l_B1⟩:=blk3 B1.out
 try clear c_B2 f_B2 l_B2
 obtain ⟨c_B2,f_B2,l_B2⟩:=blk3 B2.out
 go_wp2_with fail
 refine Calls.mono (rsub3_any ⟨hn,ha,hl,hc,hb,hm,hd⟩ ⟨ln,la,ll,lc,lb,lm,ld⟩ (hiV a b) (loV a b) _ (HH.out.raw ZB.out (by omega)) (HL.out.raw ZA.out (by omega))) ?_
 rintro e w9 ⟨x9,rfl,hE,g9⟩
 have G9:=Hi g9
 clear g9
 replace HX:=hE.tr HX
 replace B1:=hE.bl B1
 replace B2:=hE.bl B2
 replace HL:=Hi (HL.out.ext hE)
 replace HH:=Hi (HH.out.ext hE)
 have hs_w9:=hE.size
 clear hE
 try clear c_B1 f_B1 l_B1
 obtain ⟨c_B1,f_B1,l_B1⟩:=blk3 B1.out
 try clear c_B2 f_B2 l_B2
 obtain ⟨c_B2,f_B2,l_B2⟩:=blk3 B2.out
 go_wp2
 refine nm_set3 (F:=fun W=>bodyPost _ _ _ _ _ W) B2.out rfl ?_
 intro w10 T
 replace HX:=Hi (T.ext HX.out (by omega))
 replace B1:=Hi (T.rest _ _ (by omega) B1.out)
 replace B2:=Hi (T.bx)
 replace HL:=Hi (HL.out.keep T.keep)
 replace HH:=Hi (HH.out.keep T.keep)
 replace G9:=Hi (G9.out.keep T.keep)
 have hs_w10:=nle T.size
 have hr_w10:=nle T.size.symm
 clear T
 try clear c_B1 f_B1 l_B1
 obtain ⟨c_B1,f_B1,l_B1⟩:=blk3 B1.out
 try clear c_B2 f_B2 l_B2
 obtain ⟨c_B2,f_B2,l_B2⟩:=blk3 B2.out
 exact bodyPost_ret (v:=RH.v x9) (by simp [results,Tryz.results39,go_sem,c_B2]) rfl ⟨x9,rfl,HX.out,G9.out⟩
end Go.Proofs.YtpieblkklbilgaaGreat
