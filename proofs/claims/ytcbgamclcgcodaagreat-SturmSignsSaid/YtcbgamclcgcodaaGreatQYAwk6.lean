/- awake of law 06. -/
import Derived.Test.YtcbgamclcgcodaaGreatQYNg
import Derived.Test.YtcbgamclcgcodaaGreatQYRoo
import Derived.Test.YtcbgamclcgcodaaGreatQYIv2
set_option linter.unusedVariables false
set_option maxRecDepth 100000
set_option maxHeartbeats 8000000
namespace Go.Proofs.YtcbgamclcgcodaaGreat
open Go.RowKit Go.Front Go.Num Stab Sg
attribute [local go_sem] XW.cell XW.frozen
theorem FrK.spl {p:List Rat} {n:Nat} (hn:n≤9) (h:FrL 2 (16 * 12 ^ n) p) (hl:p.length≤12):FrK 2125764 (splL p):=by
 have h1:(splL p).length≤12:=by rw [spl_len]; exact Nat.le_trans (tz_len_le p) hl
 have h2:3 ^ (splL p).length≤3 ^ 12:=Nat.pow_le_pow_right (by decide) h1
 have h3:(3:Nat) ^ 12 = 531441:=by decide
 exact ⟨2,1,by decide,by decide,by decide,fun x hx=>Fr.one (spl_wz (fun y hy=>h y (mem_tz hy)) (Nat.mul_pos (by decide) (Nat.pow_pos (by decide))) x hx),by omega⟩
theorem RoF.pok {p rl:List Rat} {b:Option Rat} (h:RoF p rl b) (hl:rl.length≤9) (P:Nat):PoK 2125764 P p:=by
 have h2:=h.len
 have:=dg_le b
 exact ⟨h.tz,frk_of hl (h.fr hl) (by omega),fac_sqf h.fac h.sx h.tw hl,okc_fac _ _ rl b (h.fac.spl h.ne) h.sx h.tw hl (FrK.spl hl (h.fr hl) (by omega))⟩
theorem tw_int (z:Int) (h:z.natAbs≤1):Tw (z:Rat):=⟨z * 12,by rw [Rat.intCast_mul]; rfl,by omega⟩
abbrev q4:List Rat:=[((0:Int):Rat),((-1:Int):Rat),((0:Int):Rat),((1:Int):Rat)]
abbrev q3:List Rat:=[((1:Int):Rat),((-2:Int):Rat),((1:Int):Rat)]
theorem q4_rof:RoF q4 [((0:Int):Rat),((1:Int):Rat),((-1:Int):Rat)] none:=by
 refine ⟨⟨1,by decide,by decide,fun x=>?_⟩,fun c e=>(by cases e),fun a ha=>?_,by decide +kernel⟩
 ·have e:=awk_fac3
  show ((((0 * x + ((1:Int):Rat)) * x + ((0:Int):Rat)) * x + ((-1:Int):Rat)) * x + ((0:Int):Rat):Rat) = ((1:Int):Rat) * ((x - ((0:Int):Rat)) * ((x - ((1:Int):Rat)) * ((x - ((-1:Int):Rat)) * 1)) * 1)
  have e0:((0:Int):Rat) = 0:=rfl
  have e1:((1:Int):Rat) = 1:=rfl
  have e2:((-1:Int):Rat) = -1:=rfl
  rw [e0,e1,e2]
  grind
 ·simp only [List.mem_cons,List.not_mem_nil,or_false] at ha
  rcases ha with rfl | rfl | rfl <;> exact tw_int _ (by decide)
theorem q3_rof:RoF q3 [((1:Int):Rat),((1:Int):Rat)] none:=by
 refine ⟨⟨1,by decide,by decide,fun x=>?_⟩,fun c e=>(by cases e),fun a ha=>?_,by decide +kernel⟩
 ·show (((0 * x + ((1:Int):Rat)) * x + ((-2:Int):Rat)) * x + ((1:Int):Rat):Rat) = ((1:Int):Rat) * ((x - ((1:Int):Rat)) * ((x - ((1:Int):Rat)) * 1) * 1)
  have e1:((1:Int):Rat) = 1:=rfl
  have e2:((-2:Int):Rat) = -2:=rfl
  rw [e1,e2]
  grind
 ·simp only [List.mem_cons,List.not_mem_nil,or_false] at ha
  rcases ha with rfl | rfl <;> exact tw_int _ (by decide)
theorem awk1:cntV q4 (loV (loV ((-1:Int):Rat) ((1:Int):Rat)) (hiV ((-1:Int):Rat) ((1:Int):Rat))) (hiV (loV ((-1:Int):Rat) ((1:Int):Rat)) (hiV ((-1:Int):Rat) ((1:Int):Rat))) = 3:=by decide +kernel
theorem awk2:nngV q3 (loV (loV ((0:Int):Rat) ((2:Int):Rat)) (hiV ((0:Int):Rat) ((2:Int):Rat))) (hiV (loV ((0:Int):Rat) ((2:Int):Rat)) (hiV ((0:Int):Rat) ((2:Int):Rat))) = true:=by decide +kernel
theorem awk3:posV q3 (loV (loV ((0:Int):Rat) ((2:Int):Rat)) (hiV ((0:Int):Rat) ((2:Int):Rat))) (hiV (loV ((0:Int):Rat) ((2:Int):Rat)) (hiV ((0:Int):Rat) ((2:Int):Rat))) = false:=by decide +kernel
theorem two_any (w:World):Does 54 [] w IvV (fun x w'=>CanR w' x.1 (loV ((-1:Int):Rat) ((1:Int):Rat))∧CanR w' x.2 (hiV ((-1:Int):Rat) ((1:Int):Rat))):=by
 have HX:=Hi (Ext.refl w)
 unfold Does
 go_enter Tryz.func54,Tryz.ntmps54
 go_upto_region 1 with fail
 refine nm_alloc ?_
 intro w0 hE hB0 hz
 have hz_w0:=nle hz
 have hr_w0:=nle hz.symm
 clear hz
 replace HX:=hE.tr HX
 have hs_w0:=hE.size
 clear hE
 have B0:=Hi hB0
 clear hB0
 obtain ⟨c_B0,f_B0,l_B0⟩:=blk3 B0.out
 go_wp2_with fail
 refine Calls.mono (rof3_any (-1) _ (by decide) (by decide)) ?_
 rintro e w1 ⟨x1,rfl,hE,g1⟩
 have G1:=Hi g1
 clear g1
 replace HX:=hE.tr HX
 replace B0:=hE.bl B0
 have hs_w1:=hE.size
 clear hE
 try clear c_B0 f_B0 l_B0
 obtain ⟨c_B0,f_B0,l_B0⟩:=blk3 B0.out
 go_wp2_with fail
 refine Calls.mono (rof3_any 1 _ (by decide) (by decide)) ?_
 rintro e w2 ⟨x2,rfl,hE,g2⟩
 have G2:=Hi g2
 clear g2
 replace HX:=hE.tr HX
 replace B0:=hE.bl B0
 replace G1:=Hi (G1.out.ext hE)
 have hs_w2:=hE.size
 clear hE
 try clear c_B0 f_B0 l_B0
 obtain ⟨c_B0,f_B0,l_B0⟩:=blk3 B0.out
 go_wp2_with fail
 refine Calls.mono (ivmake4_any x1 x2 _ _ _ (G1.out.raw (Sz.int (by decide)) (by decide)) (G2.out.raw (Sz.int (by decide)) (by decide))) ?_
 rintro e w3 ⟨x3,rfl,hE,g3⟩
 have G3:=Hi g3
 clear g3
 replace HX:=hE.tr HX
 replace B0:=hE.bl B0
 replace G1:=Hi (G1.out.ext hE)
 replace G2:=Hi (G2.out.ext hE)
 have hs_w3:=hE.size
 clear hE
 try clear c_B0 f_B0 l_B0
 obtain ⟨c_B0,f_B0,l_B0⟩:=blk3 B0.out
 have HL:=Hi G3.out.1
 have HH:=Hi G3.out.2
 clear G3
 go_wp2
 refine nm_set6 (F:=fun W=>bodyPost _ _ _ _ _ W) B0.out rfl ?_
 intro w10 T
 replace HX:=Hi (T.ext HX.out (by omega))
 replace B0:=Hi (T.bx)
 replace G1:=Hi (G1.out.keep T.keep)
 replace G2:=Hi (G2.out.keep T.keep)
 replace HL:=Hi (HL.out.keep T.keep)
 replace HH:=Hi (HH.out.keep T.keep)
 have hs_w10:=nle T.size
 have hr_w10:=nle T.size.symm
 clear T
 try clear c_B0 f_B0 l_B0
 obtain ⟨c_B0,f_B0,l_B0⟩:=blk3 B0.out
 exact bodyPost_ret (v:=IvV x3) (by simp [results,Tryz.results54,go_sem,c_B0]) rfl ⟨x3,rfl,HX.out,HL.out,HH.out⟩
theorem awake6_any (w:World):Does 38 [] w (fun _:Unit=>.bool true) (fun _ _=>True):=by
 have HX:=Hi (Ext.refl w)
 have Z0:Hid (Sz 1 ((0:Int):Rat)):=Hi (Sz.int (by decide))
 have Z1:Hid (Sz 1 ((1:Int):Rat)):=Hi (Sz.int (by decide))
 have Z2:Hid (Sz 1 ((2:Int):Rat)):=Hi (Sz.int (by decide))
 have ZM:Hid (Sz 1 ((-1:Int):Rat)):=Hi (Sz.int (by decide))
 have Q4:=Hi (q4_rof.pok (by decide) 4)
 have Q3:=Hi (q3_rof.pok (by decide) 3)
 have N4:=Hi q4_rof.ne
 unfold Does
 go_enter Tryz.func38,Tryz.ntmps38
 go_wp2_with fail
 refine Calls.mono (rof3_any 0 _ (by decide) (by decide)) ?_
 rintro e w9 ⟨x9,rfl,hE,g9⟩
 have G9:=Hi g9
 clear g9
 replace HX:=hE.tr HX
 have hs_w9:=hE.size
 clear hE
 go_wp2_with fail
 refine Calls.mono (rof3_any (-1) _ (by decide) (by decide)) ?_
 rintro e w10 ⟨x10,rfl,hE,g10⟩
 have G10:=Hi g10
 clear g10
 replace HX:=hE.tr HX
 replace G9:=Hi (G9.out.ext hE)
 have hs_w10:=hE.size
 clear hE
 go_wp2_with fail
 refine Calls.mono (rof3_any 0 _ (by decide) (by decide)) ?_
 rintro e w11 ⟨x11,rfl,hE,g11⟩
 have G11:=Hi g11
 clear g11
 replace HX:=hE.tr HX
 replace G9:=Hi (G9.out.ext hE)
 replace G10:=Hi (G10.out.ext hE)
 have hs_w11:=hE.size
 clear hE
 go_wp2_with fail
 refine Calls.mono (rof3_any 1 _ (by decide) (by decide)) ?_
 rintro e w12 ⟨x12,rfl,hE,g12⟩
 have G12:=Hi g12
 clear g12
 replace HX:=hE.tr HX
 replace G9:=Hi (G9.out.ext hE)
 replace G10:=Hi (G10.out.ext hE)
 replace G11:=Hi (G11.out.ext hE)
 have hs_w12:=hE.size
 clear hE
 go_wp2_with fail
 refine nm_alloc (F:=fun W=>Calls _ _ _ W _) ?_
 intro w13 hE hB0 hz
 have hz_w13:=nle hz
 have hr_w13:=nle hz.symm
 clear hz
 replace HX:=hE.tr HX
 replace G9:=Hi (G9.out.ext hE)
 replace G10:=Hi (G10.out.ext hE)
 replace G11:=Hi (G11.out.ext hE)
 replace G12:=Hi (G12.out.ext hE)
 have hs_w13:=hE.size
 clear hE
 have B13:=Hi hB0
 clear hB0
 obtain ⟨c_B13,f_B13,l_B13⟩:=blk3 B13.out
 change Calls _ _ _ _ _
 have L4:Hid (CanL w13 ⟨some ⟨w12.heap.size,0,none⟩,4,4⟩ q4):=Hi (canL_4 B13.out G9.out G10.out G11.out G12.out)
 (try clear c_B13 f_B13 l_B13); clear B13
 clear G9
 clear G10
 clear G11
 clear G12
 refine Calls.mono (two_any _) ?_
 rintro e w14 ⟨x14,rfl,hE,g14⟩
 have G14:=Hi g14
 clear g14
 replace HX:=hE.tr HX
 replace L4:=Hi (L4.out.ext hE)
 have hs_w14:=hE.size
 clear hE
 obtain ⟨xl,xh⟩:=x14
 have HL:=Hi G14.out.1
 have HH:=Hi G14.out.2
 clear G14
 have ZL:Hid (Sz 1 (loV ((-1:Int):Rat) ((1:Int):Rat))):=Hi ((lo_or _ _).elim (fun e=>by rw [e]; exact ZM.out) (fun e=>by rw [e]; exact Z1.out))
 have ZH:Hid (Sz 1 (hiV ((-1:Int):Rat) ((1:Int):Rat))):=Hi ((hi_or _ _).elim (fun e=>by rw [e]; exact ZM.out) (fun e=>by rw [e]; exact Z1.out))
 go_wp2_with fail
 refine Calls.mono (scount_any _ 4 4 q4 2125764 xl xh _ _ 1 _ L4.out (by decide) N4.out Q4.out.fr (by decide) (by decide) Q4.out.sq (HL.out.raw ZL.out (by decide)) (HH.out.raw ZH.out (by decide)) ZL.out ZH.out (by decide) (by decide)) ?_
 rintro e w15 ⟨x15,rfl,hE,-⟩
 replace HX:=hE.tr HX
 replace L4:=Hi (L4.out.ext hE)
 have hs_w15:=hE.size
 clear hE
 rw [awk1]
 clear HL HH ZL ZH
 clear L4
 go_wp2_with fail
 refine Calls.mono (rof3_any 1 _ (by decide) (by decide)) ?_
 rintro e w18 ⟨x18,rfl,hE,g18⟩
 have G18:=Hi g18
 clear g18
 replace HX:=hE.tr HX
 have hs_w18:=hE.size
 clear hE
 go_wp2_with fail
 refine Calls.mono (rof3_any (-2) _ (by decide) (by decide)) ?_
 rintro e w19 ⟨x19,rfl,hE,g19⟩
 have G19:=Hi g19
 clear g19
 replace HX:=hE.tr HX
 replace G18:=Hi (G18.out.ext hE)
 have hs_w19:=hE.size
 clear hE
 go_wp2_with fail
 refine Calls.mono (rof3_any 1 _ (by decide) (by decide)) ?_
 rintro e w20 ⟨x20,rfl,hE,g20⟩
 have G20:=Hi g20
 clear g20
 replace HX:=hE.tr HX
 replace G18:=Hi (G18.out.ext hE)
 replace G19:=Hi (G19.out.ext hE)
 have hs_w20:=hE.size
 clear hE
 go_upto_region 3 with fail
 refine nm_alloc ?_
 intro w21 hE hB0 hz
 have hz_w21:=nle hz
 have hr_w21:=nle hz.symm
 clear hz
 replace HX:=hE.tr HX
 replace G18:=Hi (G18.out.ext hE)
 replace G19:=Hi (G19.out.ext hE)
 replace G20:=Hi (G20.out.ext hE)
 have hs_w21:=hE.size
 clear hE
 have B21:=Hi hB0
 clear hB0
 obtain ⟨c_B21,f_B21,l_B21⟩:=blk3 B21.out
 have L3:Hid (CanL w21 ⟨some ⟨w20.heap.size,0,none⟩,3,3⟩ q3):=Hi (canL_3 B21.out G18.out G19.out G20.out)
 (try clear c_B21 f_B21 l_B21); clear B21
 clear G18
 clear G19
 clear G20
 have ZL:Hid (Sz 1 (loV ((0:Int):Rat) ((2:Int):Rat))):=Hi ((lo_or _ _).elim (fun e=>by rw [e]; exact Z0.out) (fun e=>by rw [e]; exact Z2.out))
 have ZH:Hid (Sz 1 (hiV ((0:Int):Rat) ((2:Int):Rat))):=Hi ((hi_or _ _).elim (fun e=>by rw [e]; exact Z0.out) (fun e=>by rw [e]; exact Z2.out))
 go_wp2_with fail
 refine Calls.mono (rof3_any 0 _ (by decide) (by decide)) ?_
 rintro e w24 ⟨x24,rfl,hE,g24⟩
 have G24:=Hi g24
 clear g24
 replace HX:=hE.tr HX
 replace L3:=Hi (L3.out.ext hE)
 have hs_w24:=hE.size
 clear hE
 go_wp2_with fail
 refine Calls.mono (rof3_any 2 _ (by decide) (by decide)) ?_
 rintro e w25 ⟨x25,rfl,hE,g25⟩
 have G25:=Hi g25
 clear g25
 replace HX:=hE.tr HX
 replace L3:=Hi (L3.out.ext hE)
 replace G24:=Hi (G24.out.ext hE)
 have hs_w25:=hE.size
 clear hE
 go_wp2_with fail
 refine Calls.mono (ivmake4_any x24 x25 _ _ _ (G24.out.raw Z0.out (by decide)) (G25.out.raw Z2.out (by decide))) ?_
 rintro e w26 ⟨x26,rfl,hE,g26⟩
 have G26:=Hi g26
 clear g26
 replace HX:=hE.tr HX
 replace L3:=Hi (L3.out.ext hE)
 replace G24:=Hi (G24.out.ext hE)
 replace G25:=Hi (G25.out.ext hE)
 have hs_w26:=hE.size
 clear hE
 obtain ⟨xl2,xh2⟩:=x26
 have HL:=Hi G26.out.1
 have HH:=Hi G26.out.2
 clear G26
 go_wp2_with fail
 refine Calls.mono (snng_any _ 3 3 q3 2125764 xl2 xh2 _ _ 1 _ L3.out (by decide) Q3.out (by decide) (by decide) (HL.out.raw ZL.out (by decide)) (HH.out.raw ZH.out (by decide)) ZL.out ZH.out (by decide) (by decide)) ?_
 rintro e w27 ⟨x27,rfl,hE,-⟩
 replace HX:=hE.tr HX
 replace L3:=Hi (L3.out.ext hE)
 replace G24:=Hi (G24.out.ext hE)
 replace G25:=Hi (G25.out.ext hE)
 have hs_w27:=hE.size
 clear hE
 rw [awk2]
 clear HL HH
 go_wp2_with fail
 refine Calls.mono (rof3_any 0 _ (by decide) (by decide)) ?_
 rintro e w32 ⟨x32,rfl,hE,g32⟩
 have G32:=Hi g32
 clear g32
 replace HX:=hE.tr HX
 replace L3:=Hi (L3.out.ext hE)
 replace G24:=Hi (G24.out.ext hE)
 replace G25:=Hi (G25.out.ext hE)
 have hs_w32:=hE.size
 clear hE
 go_wp2_with fail
 refine Calls.mono (rof3_any 2 _ (by decide) (by decide)) ?_
 rintro e w33 ⟨x33,rfl,hE,g33⟩
 have G33:=Hi g33
 clear g33
 replace HX:=hE.tr HX
 replace L3:=Hi (L3.out.ext hE)
 replace G24:=Hi (G24.out.ext hE)
 replace G25:=Hi (G25.out.ext hE)
 replace G32:=Hi (G32.out.ext hE)
 have hs_w33:=hE.size
 clear hE
 go_wp2_with fail
 refine Calls.mono (ivmake4_any x32 x33 _ _ _ (G32.out.raw Z0.out (by decide)) (G33.out.raw Z2.out (by decide))) ?_
 rintro e w34 ⟨x34,rfl,hE,g34⟩
 have G34:=Hi g34
 clear g34
 replace HX:=hE.tr HX
 replace L3:=Hi (L3.out.ext hE)
 replace G24:=Hi (G24.out.ext hE)
 replace G25:=Hi (G25.out.ext hE)
 replace G32:=Hi (G32.out.ext hE)
 replace G33:=Hi (G33.out.ext hE)
 have hs_w34:=hE.size
 clear hE
 obtain ⟨xl3,xh3⟩:=x34
 have HL:=Hi G34.out.1
 have HH:=Hi G34.out.2
 clear G34
 go_wp2_with fail
 refine Calls.mono (spos_any _ 3 3 q3 2125764 xl3 xh3 _ _ 1 _ L3.out (by decide) Q3.out (by decide) (by decide) (HL.out.raw ZL.out (by decide)) (HH.out.raw ZH.out (by decide)) ZL.out ZH.out (by decide) (by decide)) ?_
 rintro e w35 ⟨x35,rfl,hE,-⟩
 replace HX:=hE.tr HX
 replace L3:=Hi (L3.out.ext hE)
 replace G24:=Hi (G24.out.ext hE)
 replace G25:=Hi (G25.out.ext hE)
 replace G32:=Hi (G32.out.ext hE)
 replace G33:=Hi (G33.out.ext hE)
 have hs_w35:=hE.size
 clear hE
 rw [awk3]
 clear HL HH
 go_wp2
 go_ret
 exact ⟨(),rfl,HX.out,trivial⟩
end Go.Proofs.YtcbgamclcgcodaaGreat
