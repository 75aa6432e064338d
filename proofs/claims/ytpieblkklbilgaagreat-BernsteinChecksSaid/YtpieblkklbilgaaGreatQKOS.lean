/- Prove and Same of the reference 07. -/
import Derived.Test.YtpieblkklbilgaaGreatQKGU
import Derived.Test.YtpieblkklbilgaaGreatQKCD
import Derived.Test.YtpieblkklbilgaaGreatQKQL
set_option linter.unusedVariables false
namespace Go.Proofs.YtpieblkklbilgaaGreat
open Go.RowKit Go.Front Go.Num Stab
attribute [local go_sem] XW.cell XW.frozen
set_option maxRecDepth 8000 in
set_option maxHeartbeats 16000000 in
theorem rprove7_any (ao:Option Addr) (n cap:Nat) (l:List Rat) (s t:RH) (a b:Rat) (S:Nat) (w:World) (h:CanL w ⟨ao,n,cap⟩ l) (htz:tz l=l) (hs:CanR w s a) (ht:CanR w t b) (h8:l.length≤8) (hz:FrB S l) (hS:S≤100) (ha:Dyd 0 a) (hb:Dyd 0 b) (hab:a≤b) :
  Does 23 [.slice ao n cap,IvV (s,t)] w PvT (fun x w'=>PvP w.heap.size w' x a b (rcl 12 l a b)):=by
 have HX:=Hi (Ext.refl w)
 have HS:=Hi hs
 have HT:=Hi ht
 have LA:=Hi h.lin
 have DA:=Hi ha
 have DB:=Hi hb
 have ZA:=Hi (ha.sz (by decide))
 have ZB:=Hi (hb.sz (by decide))
 have HAB:=Hi hab
 have HZ:=Hi hz
 have HZS:=Hi hz.sz
 have hS1:1≤S:=hz.1
 have HTZ:=Hi htz
 have hln:l.length=n:=h.len
 have HLN:=Hi hln
 rw [hln] at h8
 have ZE1:Hid (Sz 2000 (evV l a)):=Hi ((ev_dsz HZS.out ZA.out hS1 n 0 (by omega)).mono (by have:=Nat.mul_le_mul (show n≤8 by omega) (show S+1+1≤102 by omega);omega))
 have ZE2:Hid (Sz 2000 (evV l b)):=Hi ((ev_dsz HZS.out ZB.out hS1 n 0 (by omega)).mono (by have:=Nat.mul_le_mul (show n≤8 by omega) (show S+1+1≤102 by omega);omega))
 clear h hs ht hz ha hb hab htz hln
 obtain ⟨sn,sa,sl,sc,sb,sm',sd⟩:=s
 obtain ⟨tn,ta,tl,tc,tb,tm,td⟩:=t
 unfold Does
 go_enter Tryz.func23,Tryz.ntmps23
 go_upto_region 1 with fail
 refine nm_alloc2 ?_
 intro w1 hE hB0 hB1 hz
 have hz_w1:=nle hz
 have hr_w1:=nle hz.symm
 clear hz
 replace HX:=hE.tr HX
 replace HS:=Hi (HS.out.ext hE)
 replace HT:=Hi (HT.out.ext hE)
 replace LA:=Hi (LA.out.ext hE)
 have hs_w1:=hE.size
 clear hE
 have B3:=Hi hB0
 clear hB0
 obtain ⟨c_B3,f_B3,l_B3⟩:=blk3 B3.out
 have B4:=Hi hB1
 clear hB1
 obtain ⟨c_B4,f_B4,l_B4⟩:=blk3 B4.out
 go_wp2_with fail
 refine Calls.mono ((by have h:=degree5_any ao n cap l _ (LA.out.can.raw HZS.out (by omega)) (by omega);rw [HTZ.out,HLN.out] at h;exact h)) ?_
 rintro e w9 ⟨x9,rfl,hE,-⟩
 replace HX:=hE.tr HX
 replace HS:=Hi (HS.out.ext hE)
 replace HT:=Hi (HT.out.ext hE)
 replace LA:=Hi (LA.out.ext hE)
 replace B3:=hE.bl B3
 replace B4:=hE.bl B4
 have hs_w9:=hE.size
 clear hE
 try clear c_B3 f_B3 l_B3
 obtain ⟨c_B3,f_B3,l_B3⟩:=blk3 B3.out
 try clear c_B4 f_B4 l_B4
 obtain ⟨c_B4,f_B4,l_B4⟩:=blk3 B4.out
 have hd1:¬ (48:Int) < (n:Int) - 1:=by omega
 go_wp2_with fail
 refine Calls.mono (ivtrim4_any ⟨sn,sa,sl,sc,sb,sm',sd⟩ ⟨tn,ta,tl,tc,tb,tm,td⟩ a b _ (HS.out.raw ZA.out (by decide)) (HT.out.raw ZB.out (by decide))) ?_
 rintro e w13 ⟨x13,rfl,hE,g13⟩
 have G13:=Hi g13
 clear g13
 replace HX:=hE.tr HX
 replace HS:=Hi (HS.out.ext hE)
 replace HT:=Hi (HT.out.ext hE)
 replace LA:=Hi (LA.out.ext hE)
 replace B3:=hE.bl B3
 replace B4:=hE.bl B4
 have hs_w13:=hE.size
 clear hE
 try clear c_B3 f_B3 l_B3
 obtain ⟨c_B3,f_B3,l_B3⟩:=blk3 B3.out
 try clear c_B4 f_B4 l_B4
 obtain ⟨c_B4,f_B4,l_B4⟩:=blk3 B4.out
 obtain ⟨⟨ln,la,ll,lc,lb,lm,ld⟩,⟨hn',ha,hl,hcc,hb,hm,hd⟩⟩:=x13
 have HL:=Hi G13.out.1
 have HH:=Hi G13.out.2
 clear G13
 rw [lo_of HAB.out] at HL
 rw [hi_of HAB.out] at HH
 simp only at HL HH
 clear HS
 clear HT
 go_upto_region 4 with fail
 refine nm_set6 B3.out rfl ?_
 intro w20 T
 replace HX:=Hi (T.ext HX.out (by omega))
 replace LA:=Hi (LA.out.put T (by omega))
 replace B3:=Hi (T.bx)
 replace B4:=Hi (T.rest _ _ (by omega) B4.out)
 replace HL:=Hi (HL.out.keep T.keep)
 replace HH:=Hi (HH.out.keep T.keep)
 have hs_w20:=nle T.size
 have hr_w20:=nle T.size.symm
 clear T
 try clear c_B3 f_B3 l_B3
 obtain ⟨c_B3,f_B3,l_B3⟩:=blk3 B3.out
 try clear c_B4 f_B4 l_B4
 obtain ⟨c_B4,f_B4,l_B4⟩:=blk3 B4.out
 go_wp2_with fail
 refine Calls.mono (eval5_any ao n cap l ⟨ln,la,ll,lc,lb,lm,ld⟩ a S 1 _ LA.out.can HL.out (by omega) HZS.out ZA.out hS1 (by omega) (by decide)) ?_
 rintro e w17 ⟨x17,rfl,hE,g17⟩
 have G17:=Hi g17
 clear g17
 replace HX:=hE.tr HX
 replace LA:=Hi (LA.out.ext hE)
 replace B3:=hE.bl B3
 replace B4:=hE.bl B4
 replace HL:=Hi (HL.out.ext hE)
 replace HH:=Hi (HH.out.ext hE)
 have hs_w17:=hE.size
 clear hE
 try clear c_B3 f_B3 l_B3
 obtain ⟨c_B3,f_B3,l_B3⟩:=blk3 B3.out
 try clear c_B4 f_B4 l_B4
 obtain ⟨c_B4,f_B4,l_B4⟩:=blk3 B4.out
 go_wp2_with fail
 refine Calls.mono (rsign3_any x17 (evV l a) _ (G17.out.raw ZE1.out (by decide))) ?_
 rintro e w18 ⟨x18,rfl,hE,-⟩
 replace HX:=hE.tr HX
 replace LA:=Hi (LA.out.ext hE)
 replace B3:=hE.bl B3
 replace B4:=hE.bl B4
 replace HL:=Hi (HL.out.ext hE)
 replace HH:=Hi (HH.out.ext hE)
 replace G17:=Hi (G17.out.ext hE)
 have hs_w18:=hE.size
 clear hE
 try clear c_B3 f_B3 l_B3
 obtain ⟨c_B3,f_B3,l_B3⟩:=blk3 B3.out
 try clear c_B4 f_B4 l_B4
 obtain ⟨c_B4,f_B4,l_B4⟩:=blk3 B4.out
 by_cases h1:0 < evV l a
 case neg =>
  have HV:Hid (rcl 12 l a b=none):=Hi (rcl_none 12 HAB.out (Or.inl (by grind)))
  have hc:=cmpR_pos.2 h1
  obtain ⟨c,e⟩:∃ c,c=cmpR (evV l a) 0:=⟨_,rfl⟩
  rw [← e] at hc ⊢
  clear e h1
  go_wp2
  refine nm_set7 B4.out (by rfl) ?_
  intro w40 T
  replace HX:=Hi (T.ext HX.out (by omega))
  replace LA:=Hi (LA.out.put T (by omega))
  replace B3:=Hi (T.rest _ _ (by omega) B3.out)
  replace B4:=Hi (T.bx)
  replace HL:=Hi (HL.out.keep T.keep)
  replace HH:=Hi (HH.out.keep T.keep)
  replace G17:=Hi (G17.out.keep T.keep)
  have hs_w40:=nle T.size
  have hr_w40:=nle T.size.symm
  clear T
  try clear c_B3 f_B3 l_B3
  obtain ⟨c_B3,f_B3,l_B3⟩:=blk3 B3.out
  try clear c_B4 f_B4 l_B4
  obtain ⟨c_B4,f_B4,l_B4⟩:=blk3 B4.out
  exact bodyPost_ret (v:=PvT (((zR,zR),⟨none,0,0⟩),22)) (by simp [results,Tryz.results23,go_sem,blk_cell B4.out]) rfl ⟨(((zR,zR),⟨none,0,0⟩),22),rfl,HX.out,by rw [HV.out];rfl⟩
 have hc:¬ cmpR (evV l a) 0≤0:=fun h=>absurd h1 (cmpR_pos.1 h)
 obtain ⟨c,e⟩:∃ c,c=cmpR (evV l a) 0:=⟨_,rfl⟩
 rw [← e] at hc ⊢
 clear e h1
 go_wp2_with fail
 refine Calls.mono (eval5_any ao n cap l ⟨hn',ha,hl,hcc,hb,hm,hd⟩ b S 1 _ LA.out.can HH.out (by omega) HZS.out ZB.out hS1 (by omega) (by decide)) ?_
 rintro e w24 ⟨x24,rfl,hE,g24⟩
 have G24:=Hi g24
 clear g24
 replace HX:=hE.tr HX
 replace LA:=Hi (LA.out.ext hE)
 replace B3:=hE.bl B3
 replace B4:=hE.bl B4
 replace HL:=Hi (HL.out.ext hE)
 replace HH:=Hi (HH.out.ext hE)
 replace G17:=Hi (G17.out.ext hE)
 have hs_w24:=hE.size
 clear hE
 try clear c_B3 f_B3 l_B3
 obtain ⟨c_B3,f_B3,l_B3⟩:=blk3 B3.out
 try clear c_B4 f_B4 l_B4
 obtain ⟨c_B4,f_B4,l_B4⟩:=blk3 B4.out
 go_wp2_with fail
 refine Calls.mono (rsign3_any x24 (evV l b) _ (G24.out.raw ZE2.out (by decide))) ?_
 rintro e w25 ⟨x25,rfl,hE,-⟩
 replace HX:=hE.tr HX
 replace LA:=Hi (LA.out.ext hE)
 replace B3:=hE.bl B3
 replace B4:=hE.bl B4
 replace HL:=Hi (HL.out.ext hE)
 replace HH:=Hi (HH.out.ext hE)
 replace G17:=Hi (G17.out.ext hE)
 replace G24:=Hi (G24.out.ext hE)
 have hs_w25:=hE.size
 clear hE
 try clear c_B3 f_B3 l_B3
 obtain ⟨c_B3,f_B3,l_B3⟩:=blk3 B3.out
 try clear c_B4 f_B4 l_B4
 obtain ⟨c_B4,f_B4,l_B4⟩:=blk3 B4.out
 by_cases h1:0 < evV l b
 case neg =>
  have HV:Hid (rcl 12 l a b=none):=Hi (rcl_none 12 HAB.out (Or.inr (by grind)))
  have hc':=cmpR_pos.2 h1
  obtain ⟨c',e⟩:∃ c',c'=cmpR (evV l b) 0:=⟨_,rfl⟩
  rw [← e] at hc' ⊢
  clear e h1
  go_wp2
  refine nm_set7 B4.out (by rfl) ?_
  intro w40 T
  replace HX:=Hi (T.ext HX.out (by omega))
  replace LA:=Hi (LA.out.put T (by omega))
  replace B3:=Hi (T.rest _ _ (by omega) B3.out)
  replace B4:=Hi (T.bx)
  replace HL:=Hi (HL.out.keep T.keep)
  replace HH:=Hi (HH.out.keep T.keep)
  replace G17:=Hi (G17.out.keep T.keep)
  replace G24:=Hi (G24.out.keep T.keep)
  have hs_w40:=nle T.size
  have hr_w40:=nle T.size.symm
  clear T
  try clear c_B3 f_B3 l_B3
  obtain ⟨c_B3,f_B3,l_B3⟩:=blk3 B3.out
  try clear c_B4 f_B4 l_B4
  obtain ⟨c_B4,f_B4,l_B4⟩:=blk3 B4.out
  exact bodyPost_ret (v:=PvT (((zR,zR),⟨none,0,0⟩),22)) (by simp [results,Tryz.results23,go_sem,blk_cell B4.out]) rfl ⟨(((zR,zR),⟨none,0,0⟩),22),rfl,HX.out,by rw [HV.out];rfl⟩
 have hc':¬ cmpR (evV l b) 0≤0:=fun h=>absurd h1 (cmpR_pos.1 h)
 obtain ⟨c',e⟩:∃ c',c'=cmpR (evV l b) 0:=⟨_,rfl⟩
 rw [← e] at hc' ⊢
 clear e h1
 have h8':(tz l).length≤8:=by rw [HTZ.out,HLN.out];exact h8
 go_wp2_with fail
 refine Calls.mono ((by have h:=rcells_any 12 0 rfl ao n cap l ⟨ln,la,ll,lc,lb,lm,ld⟩ ⟨hn',ha,hl,hcc,hb,hm,hd⟩ a b S _ (LA.out.can.raw HZS.out (by omega)) HL.out HH.out (by omega) h8' (by rw [HTZ.out];exact HZ.out) hS DA.out DB.out HAB.out;rw [HTZ.out] at h;exact h)) ?_
 rintro e w32 ⟨x32,rfl,hE,g32⟩
 have G32:=Hi g32
 clear g32
 replace HX:=hE.tr HX
 replace LA:=Hi (LA.out.ext hE)
 replace B3:=hE.bl B3
 replace B4:=hE.bl B4
 replace HL:=Hi (HL.out.ext hE)
 replace HH:=Hi (HH.out.ext hE)
 replace G17:=Hi (G17.out.ext hE)
 replace G24:=Hi (G24.out.ext hE)
 have hs_w32:=hE.size
 clear hE
 try clear c_B3 f_B3 l_B3
 obtain ⟨c_B3,f_B3,l_B3⟩:=blk3 B3.out
 try clear c_B4 f_B4 l_B4
 obtain ⟨c_B4,f_B4,l_B4⟩:=blk3 B4.out
 obtain ⟨⟨ya,yn,yc⟩,yb⟩:=x32
 rcases hc1:rcl 12 l a b with _ | xs
 case none =>
  rw [hc1] at G32
  have HV:=Hi hc1
  have hx:=G32.out
  unfold RcO at hx
  simp only [Prod.mk.injEq,SH.mk.injEq] at hx
  obtain ⟨⟨rfl,rfl,rfl⟩,rfl⟩:=hx
  clear G32 hc1
  go_wp2
  refine nm_set7 B4.out (by rfl) ?_
  intro w40 T
  replace HX:=Hi (T.ext HX.out (by omega))
  replace LA:=Hi (LA.out.put T (by omega))
  replace B3:=Hi (T.rest _ _ (by omega) B3.out)
  replace B4:=Hi (T.bx)
  replace HL:=Hi (HL.out.keep T.keep)
  replace HH:=Hi (HH.out.keep T.keep)
  replace G17:=Hi (G17.out.keep T.keep)
  replace G24:=Hi (G24.out.keep T.keep)
  have hs_w40:=nle T.size
  have hr_w40:=nle T.size.symm
  clear T
  try clear c_B3 f_B3 l_B3
  obtain ⟨c_B3,f_B3,l_B3⟩:=blk3 B3.out
  try clear c_B4 f_B4 l_B4
  obtain ⟨c_B4,f_B4,l_B4⟩:=blk3 B4.out
  exact bodyPost_ret (v:=PvT (((zR,zR),⟨none,0,0⟩),22)) (by simp [results,Tryz.results23,go_sem,blk_cell B4.out]) rfl ⟨(((zR,zR),⟨none,0,0⟩),22),rfl,HX.out,by rw [HV.out];rfl⟩
 rw [hc1] at G32
 have HV:=Hi hc1
 obtain ⟨hy,ho⟩:=G32.out
 simp only at hy ho
 subst hy
 have hsz20:w.heap.size+2≤w25.heap.size:=by omega
 have HO:Hid (OwnI w32 (fun k=>w25.heap.size≤k) (.slice ya yn yc) yn xs):=Hi ho
 clear G32 hc1 ho
 go_wp2
 refine nm_set7 B4.out (by rfl) ?_
 intro w40 T
 replace HX:=Hi (T.ext HX.out (by omega))
 replace LA:=Hi (LA.out.put T (by omega))
 replace B3:=Hi (T.rest _ _ (by omega) B3.out)
 replace B4:=Hi (T.bx)
 replace HL:=Hi (HL.out.keep T.keep)
 replace HH:=Hi (HH.out.keep T.keep)
 replace G17:=Hi (G17.out.keep T.keep)
 replace G24:=Hi (G24.out.keep T.keep)
 replace HO:=Hi (HO.out.put T (by intro h;(try dsimp only at h);omega))
 have hs_w40:=nle T.size
 have hr_w40:=nle T.size.symm
 clear T
 try clear c_B3 f_B3 l_B3
 obtain ⟨c_B3,f_B3,l_B3⟩:=blk3 B3.out
 try clear c_B4 f_B4 l_B4
 obtain ⟨c_B4,f_B4,l_B4⟩:=blk3 B4.out
 exact bodyPost_ret (v:=PvT (((⟨ln,la,ll,lc,lb,lm,ld⟩,⟨hn',ha,hl,hcc,hb,hm,hd⟩),⟨ya,yn,yc⟩),0)) (by simp [results,Tryz.results23,go_sem,blk_cell B4.out]) rfl
  ⟨(((⟨ln,la,ll,lc,lb,lm,ld⟩,⟨hn',ha,hl,hcc,hb,hm,hd⟩),⟨ya,yn,yc⟩),0),rfl,HX.out,by
   rw [HV.out]
   exact ⟨rfl,⟨HL.out,HH.out⟩,HO.out.mono (fun k _ h=>by have h:w25.heap.size≤k:=h;show w.heap.size≤k;omega)⟩⟩
end Go.Proofs.YtpieblkklbilgaaGreat
/- Same of the reference 07; tall of the law. -/
set_option linter.unusedVariables false
namespace Go.Proofs.YtpieblkklbilgaaGreat
open Go.RowKit Go.Front Go.Num Stab
attribute [local go_sem] XW.cell XW.frozen
def talV (xs:List Int) (n:Int):List Rat:=if n % 3=0 then polyQ xs 3 else add5V (mul5V (polyQ xs 3) (polyQ xs 3)) [((1+n % 9:Int):Rat) / ((8:Int):Rat)]
theorem frc_all:∀ m:Nat,m < 9→(((1+(m:Int):Int):Rat) / ((8:Int):Rat)).num.natAbs < W32∧(((1+(m:Int):Int):Rat) / ((8:Int):Rat)).den < W32:=by decide +kernel
theorem frc_sz (n:Int):Sz 1 (((1+n % 9:Int):Rat) / ((8:Int):Rat)):=by
 have e1:=Int.emod_nonneg n (show (9:Int) ≠ 0 by decide)
 have e2:=Int.emod_lt_of_pos n (show (0:Int) < 9 by decide)
 have h:=frc_all (n % 9).toNat (by omega)
 rw [show (((n % 9).toNat:Nat):Int)=n % 9 by omega] at h
 exact ⟨by rw [Nat.pow_one];exact h.1,by rw [Nat.pow_one];exact h.2⟩
theorem tal_facts (xs:List Int) (n:Int):(talV xs n).length≤8∧tz (talV xs n)=talV xs n∧FrB 20 (talV xs n):=by
 have hl:(polyQ xs 3).length≤4:=by
  unfold polyQ
  refine Nat.le_trans (tz_len_le _) ?_
  rw [List.length_map,List.length_take]
  omega
 have hz:SzL 1 (polyQ xs 3):=SzL.tz (rats_sz _)
 have hf:FrB 6 (polyQ xs 3):=(FrB.of hz hl).mono (by decide)
 have hc:FrB 3 [((1+n % 9:Int):Rat) / ((8:Int):Rat)]:=(FrB.of (szl_one (frc_sz n)) (n:=1) (Nat.le_refl 1)).mono (by decide)
 unfold talV
 split
 ·exact ⟨by omega,tz_idem _,hf.mono (by decide)⟩
 ·have hm:=hf.mul hf (by omega)
  have hml:=mul5_len (polyQ xs 3) (polyQ xs 3)
  refine ⟨?_,tz_idem _,(hm.add hc).mono (by decide)⟩
  unfold add5V
  refine Nat.le_trans (tz_len_le _) ?_
  simp only [List.length_map,List.length_range,List.length_cons,List.length_nil]
  omega
set_option maxRecDepth 8000 in
set_option maxHeartbeats 8000000 in
theorem tall_any (ao:Option Addr) (cap:Nat) (xs:List Int) (n:Int) (w:World) (h:IntsAt w ao xs) (hr:InR xs) (hl:xs.length≤9223372036854775807) (hc:xs.length≤cap) (hcm:cap≤9223372036854775807)
  (a1:-9223372036854775808≤n) (a2:n≤9223372036854775807) :
  Does 20 [.slice ao xs.length cap,.int .i64 n] w SH.v (fun x w'=>CanL w' x (talV xs n)):=by
 have HX:=Hi (Ext.refl w)
 have HPo:Hid (Does 50 [.slice ao xs.length cap,.int .i64 ((3:Nat):Int)] w SH.v (fun s w'=>NewL w.heap.size w' s (polyQ xs 3))):=Hi (poly_any ao cap 3 xs w h hr hl (by decide) hc hcm)
 have HTV:Hid (talV xs n=if n % 3=0 then polyQ xs 3 else add5V (mul5V (polyQ xs 3) (polyQ xs 3)) [((1+n % 9:Int):Rat) / ((8:Int):Rat)]):=Hi rfl
 have hql:(polyQ xs 3).length≤4:=by
  unfold polyQ
  refine Nat.le_trans (tz_len_le _) ?_
  rw [List.length_map,List.length_take]
  omega
 have ZQ:Hid (SzL 1 (polyQ xs 3)):=Hi (SzL.tz (rats_sz _))
 have FQ:Hid (FrB 6 (polyQ xs 3)):=Hi ((FrB.of (SzL.tz (rats_sz _)) hql).mono (by decide))
 obtain ⟨k,hk⟩:∃ k,k=xs.length:=⟨_,rfl⟩
 obtain ⟨p,hp⟩:∃ p,p=polyQ xs 3:=⟨_,rfl⟩
 obtain ⟨tv,htv⟩:∃ tv,tv=talV xs n:=⟨_,rfl⟩
 rw [← hk,← hp] at HPo
 rw [← hp,← htv] at HTV
 rw [← hp] at hql ZQ FQ
 rw [← hk,← htv]
 have ZF:=Hi (frc_sz n)
 have e9:=Int.emod_nonneg n (show (9:Int) ≠ 0 by decide)
 have e9':=Int.emod_lt_of_pos n (show (0:Int) < 9 by decide)
 obtain ⟨m3,hm3⟩:∃ m,m=n % 3:=⟨_,rfl⟩
 obtain ⟨m9,hm9⟩:∃ m,m=n % 9:=⟨_,rfl⟩
 rw [← hm3,← hm9] at HTV
 rw [← hm9] at ZF e9 e9'
 have H3:=Hi hm3
 have H9:=Hi hm9
 clear hk hp htv hm3 hm9 h hr hl hc hcm
 unfold Does
 go_enter Tryz.func20,Tryz.ntmps20
 go_wp2_with fail
 refine Calls.mono (HPo.out) ?_
 rintro e w7 ⟨x7,rfl,hE,g7⟩
 have G7:=Hi g7
 clear g7
 replace HX:=hE.tr HX
 have hs_w7:=hE.size
 clear hE
 obtain ⟨pa,pn,pc⟩:=x7
 have LP:=Hi (NewL.can G7.out)
 clear G7
 have hpn:pn≤4:=by have e:p.length=pn:=LP.out.len;omega
 simp only [SH.v]
 go_wp2_with fail
 refine Calls.mono (mod_any n 3 _ a1 a2 (by decide) (by decide)) ?_
 rintro e w9 ⟨x9,rfl,hE,-⟩
 replace HX:=hE.tr HX
 replace LP:=Hi (LP.out.ext hE)
 have hs_w9:=hE.size
 clear hE
 rw [← H3.out]
 by_cases h3:m3=0
 case pos =>
  subst h3
  have HV:Hid (tv=p):=Hi (by rw [HTV.out];exact if_pos rfl)
  go_wp2
  go_ret
  exact ⟨⟨pa,pn,pc⟩,rfl,HX.out,by rw [HV.out];exact LP.out⟩
 have HV:Hid (tv=add5V (mul5V p p) [((1+m9:Int):Rat) / ((8:Int):Rat)]):=Hi (by rw [HTV.out];exact if_neg h3)
 have h3b:(m3 == 0)=false:=by rw [beq_eq_false_iff_ne];exact h3
 go_wp2_with fail
 refine Calls.mono (mul5_any pa pa pn pc pn pc p p 1 _ (LP.out.raw ZQ.out (by decide)) (LP.out.raw ZQ.out (by decide)) (by omega) (by omega) ZQ.out ZQ.out (by decide)) ?_
 rintro e w14 ⟨x14,rfl,hE,g14⟩
 have G14:=Hi g14
 clear g14
 replace HX:=hE.tr HX
 replace LP:=Hi (LP.out.ext hE)
 have hs_w14:=hE.size
 clear hE
 obtain ⟨qa,qn,qc⟩:=x14
 have LQ:=Hi (NewL.can G14.out)
 clear G14
 have ZM:Hid (SzL 400 (mul5V p p)):=Hi ((FQ.out.mul FQ.out (by omega)).sz.mono (by decide))
 have hml:(mul5V p p).length≤8:=by have:=mul5_len p p;omega
 have hqn:qn≤8:=by have e:=LQ.out.len;simp only at e;omega
 clear hml
 simp only [SH.v]
 go_wp2_with fail
 refine Calls.mono (mod_any n 9 _ a1 a2 (by decide) (by decide)) ?_
 rintro e w16 ⟨x16,rfl,hE,-⟩
 replace HX:=hE.tr HX
 replace LP:=Hi (LP.out.ext hE)
 replace LQ:=Hi (LQ.out.ext hE)
 have hs_w16:=hE.size
 clear hE
 rw [← H9.out]
 go_wp2_with fail
 refine Calls.mono (rfrac3_any (1+m9) 8 _ (by omega) (by omega) (by decide) (by decide)) ?_
 rintro e w18 ⟨x18,rfl,hE,g18⟩
 have G18:=Hi g18
 clear g18
 replace HX:=hE.tr HX
 replace LP:=Hi (LP.out.ext hE)
 replace LQ:=Hi (LQ.out.ext hE)
 have hs_w18:=hE.size
 clear hE
 go_wp2_with fail
 refine nm_alloc (F:=fun W=>Calls _ _ _ W _) ?_
 intro w19 hE hB0 hz
 have hz_w19:=nle hz
 have hr_w19:=nle hz.symm
 clear hz
 replace HX:=hE.tr HX
 replace LP:=Hi (LP.out.ext hE)
 replace LQ:=Hi (LQ.out.ext hE)
 replace G18:=Hi (G18.out.ext hE)
 have hs_w19:=hE.size
 clear hE
 have B19:=Hi hB0
 clear hB0
 obtain ⟨c_B19,f_B19,l_B19⟩:=blk3 B19.out
 change Calls _ _ _ _ _
 have L1:Hid (CanL w19 ⟨some ⟨w18.heap.size,0,none⟩,1,1⟩ [((1+m9:Int):Rat) / ((8:Int):Rat)]):=Hi (canL_1 B19.out G18.out)
 (try clear c_B19 f_B19 l_B19);clear B19
 clear G18
 refine Calls.mono (add5_any qa (some ⟨w18.heap.size,0,none⟩) qn qc 1 1 _ _ _ (LQ.out.raw ZM.out (by decide)) (L1.out.raw (szl_one ZF.out) (by decide)) (by omega) (by decide) (ZM.out.mono (by decide)) ((szl_one ZF.out).mono (by decide))) ?_
 rintro e w20 ⟨x20,rfl,hE,g20⟩
 have G20:=Hi g20
 clear g20
 replace HX:=hE.tr HX
 replace LP:=Hi (LP.out.ext hE)
 replace LQ:=Hi (LQ.out.ext hE)
 replace L1:=Hi (L1.out.ext hE)
 have hs_w20:=hE.size
 clear hE
 go_wp2
 go_ret
 exact ⟨x20,rfl,HX.out,by rw [HV.out];exact NewL.can G20.out⟩
end Go.Proofs.YtpieblkklbilgaaGreat
