/- check, small, Reflections of the reference 18. -/
import Derived.Test.YtdchjfcklppmgaaGreatQXR5b
import Derived.Test.YtdchjfcklppmgaaGreatQXM17
import Derived.Test.YtdchjfcklppmgaaGreatQXM11
import Derived.Test.YtdchjfcklppmgaaGreatQXM22
import Derived.Test.YtdchjfcklppmgaaGreatQXM10
set_option linter.unusedVariables false
namespace Go.Proofs.YtdchjfcklppmgaaGreat
open Go.RowKit Go.Front Go.Num
attribute [local go_sem] XW.cell XW.frozen
theorem abs_lt1 (q:Rat):q.abs < ((1:Int):Rat)↔-1 < q∧q < 1:=by
 rw [show ((1:Int):Rat) = 1 from rfl]
 unfold Rat.abs
 split <;> constructor <;> intros <;> grind
set_option maxRecDepth 4000 in
set_option maxHeartbeats 1000000 in
theorem small18_any (s:RH) (q:Rat) (w:World) (h:RawR w s q):Does 253 [s.v] w (fun _:Unit=>.bool (decide (-1 < q∧q < 1))) (fun _ _=>True):=by
 obtain ⟨neg,ao,n,c,bo,m,d⟩:=s
 have HR:=Hi h
 have HS:=Hi h.szk
 have HC:Hid (decide (q.abs < ((1:Int):Rat)) = decide (-1 < q∧q < 1)):=Hi (decide_eq_decide.2 (abs_lt1 q))
 have HX:=Hi (Ext.refl w)
 have Z1:Hid (Sz 1 ((1:Int):Rat)):=Hi (Sz.int (by decide))
 clear h
 unfold Does
 go_enter Tryz.func253,Tryz.ntmps253
 go_upto_region 1 with fail
 refine nm_alloc ?_
 intro w1 hE hB0 hz
 have hz_w1:=nle hz
 have hr_w1:=nle hz.symm
 clear hz
 replace HX:=hE.tr HX
 replace HR:=Hi (HR.out.ext hE)
 have hs_w1:=hE.size
 clear hE
 have B1:=Hi hB0
 clear hB0
 obtain ⟨c_B1,f_B1,l_B1⟩:=blk3 B1.out
 go_wp2_with fail
 refine Calls.mono (rabs3_any ⟨neg,ao,n,c,bo,m,d⟩ q _ HR.out) ?_
 rintro e w2 ⟨x2,rfl,hE,g2⟩
 have G2:=Hi g2
 clear g2
 replace HX:=hE.tr HX
 replace HR:=Hi (HR.out.ext hE)
 replace B1:=hE.bl B1
 have hs_w2:=hE.size
 clear hE
 try clear c_B1 f_B1 l_B1
 obtain ⟨c_B1,f_B1,l_B1⟩:=blk3 B1.out
 go_wp2_with fail
 refine Calls.mono (rof3_any 1 _ (by decide) (by decide)) ?_
 rintro e w3 ⟨x3,rfl,hE,g3⟩
 have G3:=Hi g3
 clear g3
 replace HX:=hE.tr HX
 replace HR:=Hi (HR.out.ext hE)
 replace B1:=hE.bl B1
 replace G2:=Hi (G2.out.ext hE)
 have hs_w3:=hE.size
 clear hE
 try clear c_B1 f_B1 l_B1
 obtain ⟨c_B1,f_B1,l_B1⟩:=blk3 B1.out
 go_wp2_with fail
 refine Calls.mono (rless3_any x2 x3 _ _ _ (G2.out.raw HS.out.abs (by decide)) (G3.out.raw Z1.out (by decide))) ?_
 rintro e w4 ⟨x4,rfl,hE,-⟩
 replace HX:=hE.tr HX
 replace HR:=Hi (HR.out.ext hE)
 replace B1:=hE.bl B1
 replace G2:=Hi (G2.out.ext hE)
 replace G3:=Hi (G3.out.ext hE)
 have hs_w4:=hE.size
 clear hE
 try clear c_B1 f_B1 l_B1
 obtain ⟨c_B1,f_B1,l_B1⟩:=blk3 B1.out
 rw [HC.out]
 go_wp2
 go_ret
 exact ⟨(),ret_bool (Bool.decide_and _ _).symm,HX.out,trivial⟩
def Kept (w:World) (L M g:Nat) (tl:List Rat):Prop:=∃ ks,RBk w L ks #[]∧ks.length = M∧TCan w ks g tl
theorem Kept.ext {w w':World} {L M g:Nat} {tl:List Rat} (h:Kept w L M g tl) (he:Ext w w'):Kept w' L M g tl:=let ⟨ks,h1,h2,h3⟩:=h; ⟨ks,h1.ext he,h2,h3.ext he⟩
theorem Kept.put {w1 w2:World} {L M g b:Nat} {tl:List Rat} {T:TypeId} {cs:Array Value} (h:Kept w1 L M g tl) (T2:PutB w1 b T cs w2) (hb:b ≠ L):Kept w2 L M g tl :=
 let ⟨ks,h1,h2,h3⟩:=h; ⟨ks,T2.rest L _ (Ne.symm hb) h1,h2,h3.keep T2.keep⟩
theorem Kept.cells {w:World} {L M g:Nat} {tl:List Rat} (h:Kept w L M g tl) {k:Nat} (hk:k < M):∃ r,RAt w L (k * 3) r:=by
 obtain ⟨rs,h1,h2,h3⟩:=h
 exact ⟨_,h1.at (by rw [h2]; exact hk)⟩
theorem Kept.can {w:World} {L M:Nat} {tl:List Rat} (h:Kept w L M 0 tl) (hl:tl.length = M) (hM:M≤9223372036854775807):CanL w ⟨some ⟨L,0,none⟩,M,M⟩ tl:=by
 obtain ⟨ks,h1,h2,h3⟩:=h
 exact ⟨ks,h1.rs h2 (Nat.le_refl _) hM,by rw [h2,hl],fun i hi=>by have:=h3 i hi; rwa [Nat.zero_add] at this⟩
def ReflS (M:Nat) (c0 c:List Rat) (g:Nat) (tl:List Rat):Prop:=c.length = g + 1∧RefOk g c∧tl.length + g = M∧Stab.refl M c0 = (Stab.refl g c).map (· ++ tl)
theorem ReflS.next {M g:Nat} {c0 c tl:List Rat} (h:ReflS M c0 c (g + 1) tl) (hr:-1 < c.getD (g + 1) 0∧c.getD (g + 1) 0 < 1):ReflS M c0 (Stab.down c (c.getD (g + 1) 0) (g + 1)) g (c.getD (g + 1) 0 :: tl):=by
 obtain ⟨h1,h2,h3,h4⟩:=h
 refine ⟨Stab.down_length _ _ _,h2.2,by rw [List.length_cons]; omega,?_⟩
 rw [h4]
 show (if -1 < c.getD (g + 1) 0∧c.getD (g + 1) 0 < 1 then (Stab.refl g (Stab.down c (c.getD (g + 1) 0) (g + 1))).map (· ++ [c.getD (g + 1) 0]) else none).map (· ++ tl) = _
 rw [if_pos hr]
 cases Stab.refl g (Stab.down c (c.getD (g + 1) 0) (g + 1)) with
 | none=>rfl
 | some k=>simp
end Go.Proofs.YtdchjfcklppmgaaGreat
