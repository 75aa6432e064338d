/- check, small, Reflections of the reference 18. -/
import Derived.Test.YtpieblkklbilgaaGreatQPR5b
import Derived.Test.YtpieblkklbilgaaGreatQPM17
import Derived.Test.YtpieblkklbilgaaGreatQPM11
import Derived.Test.YtpieblkklbilgaaGreatQPM22
import Derived.Test.YtpieblkklbilgaaGreatQPM10
set_option linter.unusedVariables false
namespace Go.Proofs.YtpieblkklbilgaaGreat
open Go.RowKit Go.Front Go.Num
attribute [local go_sem] XW.cell XW.frozen
theorem abs_lt1 (q:Rat):q.abs < ((1:Int):Rat)↔-1 < q∧q < 1:=by
 rw [show ((1:Int):Rat)=1 from rfl]
 unfold Rat.abs
 split <;> constructor <;> intros <;> grind
set_option maxRecDepth 4000 in
set_option maxHeartbeats 1000000 in
theorem small18_any (s:RH) (q:Rat) (w:World) (h:RawR w s q):Does 195 [s.v] w (fun _:Unit=>.bool (decide (-1 < q∧q < 1))) (fun _ _=>True):=by
 obtain ⟨neg,ao,n,c,bo,m,d⟩:=s
 have HR:=Hi h
 have HS:=Hi h.szk
 have HC:Hid (decide (q.abs < ((1:Int):Rat))=decide (-1 < q∧q < 1)):=Hi (decide_eq_decide.2 (abs_lt1 q))
 have HX:=Hi (Ext.refl w)
 have Z1:Hid (Sz 1 ((1:Int):Rat)):=Hi (Sz.int (by decide))
 clear h
 unfold Does
 go_enter Tryz.func195,Tryz.ntmps195
 go_upto_region 1 with fail
 refine nm_alloc ?_
 intro w1 hE hB0 hz
 have hz_w1:=nle hz
 have hr_w1:=nle hz.symm
 clear hz
 replace HX:=hE.tr HX
 replace HR:=Hi (HR.out.ext hE)
 have hs_w1:=hE.size
 clear hE
 have B1:=Hi hB0
 clear hB0
 obtain ⟨c_B1,f_B1,l_B1⟩:=blk3 B1.out
 go_wp2_with fail
 refine Calls.mono (rabs3_any ⟨neg,ao,n,c,bo,m,d⟩ q _ HR.out) ?_
 rintro e w2 ⟨x2,rfl,hE,g2⟩
 have G2:=Hi g2
 clear g2
 replace HX:=hE.tr HX
 replace HR:=Hi (HR.out.ext hE)
 replace B1:=hE.bl B1
 have hs_w2:=hE.size
 clear hE
 try clear c_B1 f_B1 l_B1
 obtain ⟨c_B1,f_B1,l_B1⟩:=blk3 B1.out
 go_wp2_with fail
 refine Calls.mono (rof3_any 1 _ (by decide) (by decide)) ?_
 rintro e w3 ⟨x3,rfl,hE,g3⟩
 have G3:=Hi g3
 clear g3
 replace HX:=hE.tr HX
 replace HR:=Hi (HR.out.ext hE)
 replace B1:=hE.bl B1
 replace G2:=Hi (G2.out.ext hE)
 have hs_w3:=hE.size
 clear hE
 try clear c_B1 f_B1 l_B1
 obtain ⟨c_B1,f_B1,l_B1⟩:=blk3 B1.out
 go_wp2_with fail
 refine Calls.mono (rless3_any x2 x3 _ _ _ (G2.out.raw HS.out.abs (by decide)) (G3.out.raw Z1.out (by decide))) ?_
 rintro e w4 ⟨x4,rfl,hE,-⟩
 replace HX:=hE.tr HX
 replace HR:=Hi (HR.out.ext hE)
 replace B1:=hE.bl B1
 replace G2:=Hi (G2.out.ext hE)
 replace G3:=Hi (G3.out.ext hE)
 have hs_w4:=hE.size
 clear hE
 try clear c_B1 f_B1 l_B1
 obtain ⟨c_B1,f_B1,l_B1⟩:=blk3 B1.out
 rw [HC.out]
 go_wp2
 go_ret
 exact ⟨(),ret_bool (Bool.decide_and _ _).symm,HX.out,trivial⟩
def Kept (w:World) (L M g:Nat) (tl:List Rat):Prop:=∃ ks,RBk w L ks #[]∧ks.length=M∧TCan w ks g tl
theorem Kept.ext {w w':World} {L M g:Nat} {tl:List Rat} (h:Kept w L M g tl) (he:Ext w w'):Kept w' L M g tl:=let ⟨ks,h1,h2,h3⟩:=h;⟨ks,h1.ext he,h2,h3.ext he⟩
theorem Kept.put {w1 w2:World} {L M g b:Nat} {tl:List Rat} {T:TypeId} {cs:Array Value} (h:Kept w1 L M g tl) (T2:PutB w1 b T cs w2) (hb:b ≠ L):Kept w2 L M g tl :=
 let ⟨ks,h1,h2,h3⟩:=h;⟨ks,T2.rest L _ (Ne.symm hb) h1,h2,h3.keep T2.keep⟩
theorem Kept.cells {w:World} {L M g:Nat} {tl:List Rat} (h:Kept w L M g tl) {k:Nat} (hk:k < M):∃ r,RAt w L (k * 3) r:=by
 obtain ⟨rs,h1,h2,h3⟩:=h
 exact ⟨_,h1.at (by rw [h2];exact hk)⟩
theorem Kept.can {w:World} {L M:Nat} {tl:List Rat} (h:Kept w L M 0 tl) (hl:tl.length=M) (hM:M≤9223372036854775807):CanL w ⟨some ⟨L,0,none⟩,M,M⟩ tl:=by
 obtain ⟨ks,h1,h2,h3⟩:=h
 exact ⟨ks,h1.rs h2 (Nat.le_refl _) hM,by rw [h2,hl],fun i hi=>by have:=h3 i hi;rwa [Nat.zero_add] at this⟩
def ReflS (M:Nat) (c0 c:List Rat) (g:Nat) (tl:List Rat):Prop:=c.length=g+1∧RefOk g c∧tl.length+g=M∧Stab.refl M c0=(Stab.refl g c).map (· ++ tl)
theorem ReflS.next {M g:Nat} {c0 c tl:List Rat} (h:ReflS M c0 c (g+1) tl) (hr:-1 < c.getD (g+1) 0∧c.getD (g+1) 0 < 1):ReflS M c0 (Stab.down c (c.getD (g+1) 0) (g+1)) g (c.getD (g+1) 0 :: tl):=by
 obtain ⟨h1,h2,h3,h4⟩:=h
 refine ⟨Stab.down_length _ _ _,h2.2,by rw [List.length_cons];omega,?_⟩
 rw [h4]
 show (if -1 < c.getD (g+1) 0∧c.getD (g+1) 0 < 1 then (Stab.refl g (Stab.down c (c.getD (g+1) 0) (g+1))).map (· ++ [c.getD (g+1) 0]) else none).map (· ++ tl)=_
 rw [if_pos hr]
 cases Stab.refl g (Stab.down c (c.getD (g+1) 0) (g+1)) with
 | none=>rfl
 | some k=>simp
end Go.Proofs.YtpieblkklbilgaaGreat
/- StepUp, Stable, Inside of the reference 18. -/
set_option linter.unusedVariables false
namespace Go.Proofs.YtpieblkklbilgaaGreat
open Go.RowKit Go.Front Go.Num
attribute [local go_sem] XW.cell XW.frozen
def upE (c:List Rat) (r:Rat) (m i:Nat):Rat:=c.getD i 0+r * c.getD (m - i) 0
theorem up_upE {c:List Rat} {j:Nat} (r:Rat) (hc:c.length=j+1):(List.range (j+2)).map (upE c r (j+1))=Stab.up c r:=by
 rw [← up_range r hc]
 apply List.map_congr_left
 intro i _
 unfold upE
 rw [Stab.snoc0_getD,Stab.snoc0_getD]
set_option maxRecDepth 8000 in
set_option maxHeartbeats 4000000 in
theorem stepup18_any (ao:Option Addr) (n cap:Nat) (ks:List Rat) (w:World) (h:RawL w ⟨ao,n,cap⟩ ks) (hok:UpOk ks) :
  Does 125 [.slice ao n cap] w RF (fun x w'=>x.2=(upV ks).1∧CanL w' x.1 (upV ks).2):=by
 have H:=Hi h
 have HX:=Hi (Ext.refl w)
 have Hlen:=Hi h.len
 have hle:=h.le
 have hmx:=h.max
 simp only at hle hmx Hlen
 have HZ:=Hi hok.1
 have HU:Hid (∀ j,j≤n→SzL 8388608 (Stab.ups (ks.take j))):=Hi (fun j hj=>hok.2 j (by rw [Hlen.out];exact hj))
 clear h hok
 unfold Does
 by_cases h48:48 < n
 case pos =>
  have h48i:(48:Int) < n:=by omega
  have HV:Hid (upV ks=(12,[])):=Hi (by unfold upV;rw [if_pos (by rw [Hlen.out];exact h48)])
  go_enter Tryz.func125,Tryz.ntmps125
  go_wp2
  exact bodyPost_ret (v:=RF (⟨none,0,0⟩,12)) (by simp [results,Tryz.results125,go_sem,RF]) rfl ⟨(⟨none,0,0⟩,12),rfl,HX.out,by rw [HV.out],by rw [HV.out];exact (NewL.nil 0 _).can⟩
 have h48i:¬ (48:Int) < n:=by omega
 have HV:Hid (upV ks=if ∀ r ∈ ks,-1 < r∧r < 1 then (0,tz (Stab.ups ks)) else (14,[])):=Hi (by unfold upV;rw [if_neg (by rw [Hlen.out];exact h48)])
 go_enter Tryz.func125,Tryz.ntmps125
 go_wp2_with fail
 refine Calls.mono (rof3_any 1 _ (by decide) (by decide)) ?_
 rintro e w1 ⟨x1,rfl,hE,g1⟩
 have G1:=Hi g1
 clear g1
 replace HX:=hE.tr HX
 have hs_w1:=hE.size
 clear hE
 go_upto_region 4 with fail
 refine nm_alloc ?_
 intro w2 hE hB0 hz
 have hz_w2:=nle hz
 have hr_w2:=nle hz.symm
 clear hz
 replace HX:=hE.tr HX
 replace G1:=Hi (G1.out.ext hE)
 have hs_w2:=hE.size
 clear hE
 have B2:=Hi hB0
 clear hB0
 obtain ⟨c_B2,f_B2,l_B2⟩:=blk3 B2.out
 have LA:Hid (CanL w2 ⟨some ⟨w1.heap.size,0,none⟩,1,1⟩ (Stab.ups (ks.take 0))):=Hi (canL_1 B2.out G1.out)
 (try clear c_B2 f_B2 l_B2);clear B2
 clear G1
 go_wp2
 go_loopg [4,16] n (fun g u z wr=>∃ (j:Nat) (x:SH),u=x.v∧j+g=n∧z=.int .i64 (j:Nat)∧Ext w wr∧CanL wr x (Stab.ups (ks.take j))∧∀ r ∈ ks.take j,-1 < r∧r < 1)
 case atStart=>exact ⟨0,⟨some ⟨w1.heap.size,0,none⟩,1,1⟩,rfl,by omega,rfl,HX.out,LA.out,fun r hr=>by simp at hr⟩
 case round =>
  obtain ⟨j,⟨sa,sn,sc⟩,rfl,hj,rfl,g1,g2,g3⟩:=hrel
  clear HX LA
  have HX:=Hi g1
  have LA:=Hi g2
  have HS:=Hi g3
  have hsn:=g2.len
  rw [Stab.ups_length,List.length_take,Hlen.out,Nat.min_eq_left (by omega)] at hsn
  simp only at hsn
  subst hsn
  have ZA:=Hi (HU.out j (by omega))
  clear g1 g2 g3
  simp only [SH.v]
  by_cases h0:gk=0
  case pos =>
   subst h0
   obtain rfl:j=n:=by omega
   have HT:Hid (ks.take j=ks):=Hi (List.take_of_length_le (by rw [Hlen.out];exact Nat.le_refl _))
   have HV2:Hid (upV ks=(0,tz (Stab.ups (ks.take j)))):=Hi (by
    rw [HV.out,HT.out,if_pos]
    have:=HS.out
    rwa [HT.out] at this)
   have hjn:¬ (j:Int) < j:=by omega
   go_wp2_with fail
   refine Calls.mono (trim5_any sa (j+1) sc _ _ (LA.out.raw ZA.out (by decide)) (by omega)) ?_
   rintro e w20 ⟨x20,rfl,hE,g20⟩
   have G20:=Hi g20
   clear g20
   replace HX:=hE.tr HX
   replace LA:=Hi (LA.out.ext hE)
   have hs_w20:=hE.size
   clear hE
   go_wp2
   exact bodyPost_ret (v:=RF (x20,0)) (by simp [results,Tryz.results125,go_sem,RF]) rfl ⟨(x20,0),rfl,HX.out,by rw [HV2.out],by rw [HV2.out];exact G20.out.can⟩
  have hjn:(j:Int) < n:=by omega
  obtain ⟨r,hr⟩:∃ r,r=ks.getD j 0:=⟨_,rfl⟩
  have hmem:ks.getD j 0 ∈ ks:=by
   rw [show ks.getD j 0=ks[j]'(by rw [Hlen.out];omega) by simp [show j < ks.length by rw [Hlen.out];omega]]
   exact List.getElem_mem _
  have ZR:Hid (Sz 8388608 r):=Hi (by rw [hr];exact HZ.out _ hmem)
  obtain ⟨b,off,q,hao,hbl,⟨hc1,hc2,hc3⟩,hP⟩:=(H.out.ext HX.out).cells' (k:=j) (by omega)
  rw [← hr] at hP
  obtain ⟨rneg,ra,rn,rc,rb,rm,rd⟩:=q
  simp only at hc1 hc2 hc3
  have RP:=Hi hP
  clear hP
  subst hao
  go_upto_region 7 with fail
  refine nm_alloc ?_
  intro y1 hE hB0 hz
  have hz_y1:=nle hz
  have hr_y1:=nle hz.symm
  clear hz
  replace HX:=hE.tr HX
  replace LA:=Hi (LA.out.ext hE)
  replace RP:=Hi (RP.out.ext hE)
  have hs_y1:=hE.size
  clear hE
  have B6:=Hi hB0
  clear hB0
  obtain ⟨c_B6,f_B6,l_B6⟩:=blk3 B6.out
  clear hc1 hc2 hc3 hbl
  go_wp2_with fail
  refine Calls.mono (small18_any ⟨rneg,ra,rn,rc,rb,rm,rd⟩ r _ RP.out) ?_
  rintro e w2 ⟨x2,rfl,hE,-⟩
  replace HX:=hE.tr HX
  replace LA:=Hi (LA.out.ext hE)
  replace RP:=Hi (RP.out.ext hE)
  replace B6:=hE.bl B6
  have hs_w2:=hE.size
  clear hE
  try clear c_B6 f_B6 l_B6
  obtain ⟨c_B6,f_B6,l_B6⟩:=blk3 B6.out
  by_cases hsm:-1 < r∧r < 1
  case neg =>
   have HV2:Hid (upV ks=(14,[])):=Hi (by rw [HV.out,if_neg (fun h=>hsm (by rw [hr];exact h _ hmem))])
   rw [decide_eq_false hsm]
   go_wp2
   exact bodyPost_ret (v:=RF (⟨none,0,0⟩,14)) (by simp [results,Tryz.results125,go_sem,RF]) rfl ⟨(⟨none,0,0⟩,14),rfl,HX.out,by rw [HV2.out],by rw [HV2.out];exact (NewL.nil 0 _).can⟩
  rw [decide_eq_true hsm]
  have HS2:Hid (∀ r ∈ ks.take (j+1),-1 < r∧r < 1):=Hi (by
   rw [← take_snoc (by rw [Hlen.out];omega)]
   intro x hx
   rcases List.mem_append.1 hx with h1 | h1
   ·exact HS.out x h1
   ·obtain rfl:x=ks.getD j 0:=by simpa using h1
    rw [← hr];exact hsm)
  obtain ⟨c,hc⟩:∃ c,c=Stab.ups (ks.take j):=⟨_,rfl⟩
  have HC:Hid ((List.range (j+2)).map (upE c r (j+1))=Stab.ups (ks.take (j+1))):=Hi (by
   rw [ups_take (by rw [Hlen.out];omega),← hc,← hr]
   exact up_upE r (by rw [hc,Stab.ups_length,List.length_take,Hlen.out];omega))
  rw [← hc] at LA ZA
  clear hsm hc hmem hr HS
  have HWy:Hid (w.heap.size≤w2.heap.size):=Hi HX.out.size
  go_wp2
  go_loopg [7,8] (j+2) (fun g u z wr2=>∃ (i:Nat) (x:SH),u=x.v∧i+g=j+2∧z=.int .i64 (i:Nat)∧Ext w2 wr2∧OwnQ wr2 (w2.heap.size≤·) x.v ((List.range i).map (upE c r (j+1))))
  case atStart=>exact ⟨0,⟨none,0,0⟩,rfl,by omega,rfl,Ext.refl _,OwnQ.nil _ _⟩
  case round =>
   obtain ⟨i,⟨xa,xn,xc⟩,rfl,hi,rfl,g1,g2⟩:=hrel
   have HE:=Hi g1
   have HO:=Hi g2
   clear g1 g2
   simp only [SH.v]
   replace LA:=Hi (LA.out.ext HE.out)
   replace RP:=Hi (RP.out.ext HE.out)
   replace HX:=Hi (HX.out.trans HE.out)
   replace B6:=Hi (HE.out.block B6.out)
   have hszr:=HE.out.size
   clear c_B6 f_B6 l_B6
   try clear c_B6 f_B6 l_B6
   obtain ⟨c_B6,f_B6,l_B6⟩:=blk3 B6.out
   by_cases h1:gk=0
   case pos =>
    subst h1
    obtain rfl:i=j+2:=by omega
    have hig:¬ ((j:Int)+2≤(j:Int)+1):=by omega
    have hig':¬ (((j+2:Nat):Int)≤(j:Int)+1):=by omega
    have LN:Hid (CanL wr ⟨xa,xn,xc⟩ (Stab.ups (ks.take (j+1)))):=Hi (by rw [← HC.out];exact OwnQ.can (s:=⟨xa,xn,xc⟩) HO.out)
    go_wp2
    go_roundg (n - (j+1))
    case measure=>omega
    case rel=>exact ⟨j+1,⟨xa,xn,xc⟩,rfl,by omega,by go_num,HX.out,LN.out,HS2.out⟩
   obtain ⟨i2,hi2⟩:∃ i2,i2=j+1 - i:=⟨_,rfl⟩
   have hI2:(j:Int)+1 - (i:Int)=(i2:Nat):=by omega
   have hi2b:i2≤100:=by omega
   have hig:(i:Int)≤(j:Int)+1:=by omega
   have ZI:=Hi (ZA.out.getD (by decide) i)
   have ZJ:=Hi (ZA.out.getD (by decide) i2)
   have HNx:Hid ((List.range (i+1)).map (upE c r (j+1))=(List.range i).map (upE c r (j+1)) ++ [c.getD i 0+r * c.getD i2 0]):=Hi (by rw [range_snoc',hi2];rfl)
   have HLn:Hid (((List.range i).map (upE c r (j+1))).length≤1073741824):=Hi (by rw [List.length_map,List.length_range];omega)
   clear hi2
   go_upto_region 13 with fail
   refine wp_region_front 14 (fun opIx=>match opIx with
    | 3=>.spec RH default RH.v (fun s w'=>CanR w' s (c.getD i 0))
    | 10=>.spec RH default RH.v (fun s w'=>CanR w' s (c.getD i2 0))
    | 11=>.spec RH default RH.v (fun s w'=>CanR w' s (r * c.getD i2 0))
    | 12=>.spec RH default RH.v (fun s w'=>CanR w' s (c.getD i 0+r * c.getD i2 0))
    | 13=>.spec (Nat × RH) ((0,default)) (fun p=>.slice (some ⟨p.1,0,none⟩) 1 1) (fun p w'=>BuiltR w' p (c.getD i 0+r * c.getD i2 0))
    | _=>.quiet) (fun | 11=>[10] | 12=>[3,11] | 13=>[12] | _=>[]) (by kernel_rfl) (by kernel_rfl) (fun w0 he0 hz0 hc0 hf0=>?_)
   replace he0:=Hi he0
   simp only [pT]
   repeat (refine wpq fun K h=>?_;go_big_quiet_op;refine h _ ?_;clear h K)
   refine wps he0.out rfl rfl (fun w1 hW hG=>?_) fun x30=>?_
   ·exact spc [.slice sa (j+1) sc,.int .i64 (i:Nat)] Tryz.func117 (at5_any sa (j+1) sc c i _ ((LA.out.ext hW).raw ZA.out (by decide)) (by omega))
   simp only [pS]
   repeat (refine wpq fun K h=>?_;go_big_quiet_op;refine h _ ?_;clear h K)
   refine wps he0.out rfl rfl (fun w1 hW hG=>?_) fun x31=>?_
   ·exact spc [.slice sa (j+1) sc,.int .i64 (i2:Nat)] Tryz.func117 (at5_any sa (j+1) sc c i2 _ ((LA.out.ext hW).raw ZA.out (by decide)) (by omega))
   simp only [pS]
   repeat (refine wpq fun K h=>?_;go_big_quiet_op;refine h _ ?_;clear h K)
   refine wps he0.out rfl rfl (fun w1 hW hG=>?_) fun x32=>?_
   ·have g31:=(hG 10 (by decide):Since _ _).get fun _ e g=>g.ext e
    exact spc [RH.v ⟨rneg,ra,rn,rc,rb,rm,rd⟩,x31.v] Tryz.func38 (rmul3_any _ x31 _ _ _ (RP.out.ext hW) (g31.raw ZJ.out (by decide)))
   simp only [pS]
   repeat (refine wpq fun K h=>?_;go_big_quiet_op;refine h _ ?_;clear h K)
   refine wps he0.out rfl rfl (fun w1 hW hG=>?_) fun x33=>?_
   ·have g30:=(hG 3 (by decide):Since _ _).get fun _ e g=>g.ext e
    have g32:=(hG 11 (by decide):Since _ _).get fun _ e g=>g.ext e
    exact spc [x30.v,x32.v] Tryz.func30 (radd3_any x30 x32 _ _ _ (g30.raw ZI.out (by decide)) (g32.raw (ZR.out.mul ZJ.out) (by decide)))
   simp only [pS]
   repeat (refine wpq fun K h=>?_;go_big_quiet_op;refine h _ ?_;clear h K)
   refine wps he0.out rfl rfl (fun w1 hW hG=>?_) fun x35=>?_
   ·have g33:=(hG 12 (by decide):Since _ _).get fun _ e g=>g.ext e
    exact spec_build x33 _ g33 rfl (by simp [execOp,go_sem])
   simp only [pS]
   repeat (refine wpq fun K h=>?_;go_big_quiet_op;refine h _ ?_;clear h K)
   refine wpF_nil ?_
   intro w16 hI
   have hE:=he0.out.trans hI.ext
   have G30:=Hi ((hI.facts 3:Since _ _).get fun _ e g=>g.ext e)
   have G31:=Hi ((hI.facts 10:Since _ _).get fun _ e g=>g.ext e)
   have G32:=Hi ((hI.facts 11:Since _ _).get fun _ e g=>g.ext e)
   have G33:=Hi ((hI.facts 12:Since _ _).get fun _ e g=>g.ext e)
   have G35:=Hi ((hI.facts 13:Since _ _).get fun _ e g=>g.ext e)
   clear hI he0 hz0 hc0 hf0
   replace HE:=hE.tr HE
   replace HX:=hE.tr HX
   replace HO:=Hi (HO.out.ext hE)
   replace LA:=Hi (LA.out.ext hE)
   replace RP:=Hi (RP.out.ext hE)
   replace B6:=hE.bl B6
   have hs_w16:=hE.size
   clear hE
   try clear c_B6 f_B6 l_B6
   obtain ⟨c_B6,f_B6,l_B6⟩:=blk3 B6.out
   simp only [pD]
   go_wp2_with (at_builtin;refine wpList_append_q rfl (.tmp 30) (.tmp 43) 41 Tryz.underlying41 rfl (w2.heap.size≤·) _ _ x35.2 _ x35.1 rfl HO.out rfl G35.out.1 G35.out.2 HLn.out (fun k hk=>by omega) ?_;intro s' y17 q1 q2 q3)
   have HE3:=Hi (Ext.mods HE.out q2 (fun k h=>h))
   have HO3:Hid (OwnQ y17 (w2.heap.size≤·) s'.v ((List.range (i+1)).map (upE c r (j+1)))):=Hi (by rw [HNx.out];exact q1)
   clear q1 q2 q3
   go_wp2
   go_roundg (gk - 1)
   case measure=>omega
   case rel=>exact ⟨i+1,s',rfl,by omega,by go_num,HE3.out,HO3.out⟩
end Go.Proofs.YtpieblkklbilgaaGreat
