/- Degree, Scale, Sub of the reference 05. -/
import Derived.Test.YtpieblkklbilgaaGreatQPM11
import Derived.Test.YtpieblkklbilgaaGreatQPM7
set_option linter.unusedVariables false
set_option maxRecDepth 4000
set_option maxHeartbeats 1000000
namespace Go.Proofs.YtpieblkklbilgaaGreat
open Go.RowKit Go.Front Go.Num
attribute [local go_sem] XW.cell XW.frozen
theorem degree5_any (ao:Option Addr) (n cap:Nat) (qs:List Rat) (w:World) (h:RawL w ⟨ao,n,cap⟩ qs) (hn:n≤1073741824) :
  Does 94 [.slice ao n cap] w (fun _:Unit=>.int .i64 (((tz qs).length:Int) - 1)) (fun _ _=>True):=by
 have H:=Hi h
 have HX:=Hi (Ext.refl w)
 clear h
 unfold Does
 go_enter Tryz.func94,Tryz.ntmps94
 go_wp2_with fail
 refine Calls.mono (trim5_any ao n cap qs _ H.out hn) ?_
 rintro e w1 ⟨x1,rfl,hE,g1⟩
 have G1:=Hi g1
 clear g1
 replace HX:=hE.tr HX
 have hs_w1:=hE.size
 clear hE
 obtain ⟨pa,P,pc⟩:=x1
 simp only [SH.v]
 have hP:=G1.out.len
 simp only at hP
 have h1:=G1.out.can.le
 have h2:=G1.out.can.max
 simp only at h1 h2
 have HV:Hid (((tz qs).length:Int) - 1=(P:Int) - 1):=Hi (by rw [hP])
 clear hP
 go_wp2
 go_ret
 exact ⟨(),by rw [HV.out];rfl,HX.out,trivial⟩
def scale5V (ps:List Rat) (c:Rat):List Rat:=tz (ps.map (· * c))
theorem Mods.blk' {D:Nat→Prop} {w w':World} (h:Mods D w w') {b:Nat} {o:Obj} (hb:¬ D b) (hv:w.heap[b]?=some o):w'.heap[b]?=some o:=by
 have hl:b < w.heap.size:=(Array.getElem?_eq_some_iff.1 hv).1
 rw [h.block b hl hb]
 exact hv
theorem scale5_any (ao:Option Addr) (n cap:Nat) (ps:List Rat) (t:RH) (c:Rat) (w:World) (h:RawL w ⟨ao,n,cap⟩ ps) (ht:RawR w t c) (hn:n≤1073741823) (hz:SzL 8388608 ps) (hzc:Sz 8388608 c) :
  Does 73 [.slice ao n cap,t.v] w SH.v (fun s w'=>NewL w.heap.size w' s (scale5V ps c)):=by
 obtain ⟨tn,ta,tl,tc,tb,tm,td⟩:=t
 have H:=Hi h
 have HR:=Hi ht
 have HX:=Hi (Ext.refl w)
 have hle:=h.le
 have hmx:=h.max
 have Hlen:=Hi h.len
 simp only at hle hmx Hlen
 have HZ:=Hi hz
 have HZc:=Hi hzc
 clear h ht hz hzc
 unfold Does
 go_enter Tryz.func73,Tryz.ntmps73
 go_upto_region 1 with fail
 refine nm_alloc ?_
 intro w1 hE hB0 hz
 have hz_w1:=nle hz
 have hr_w1:=nle hz.symm
 clear hz
 replace HX:=hE.tr HX
 replace HR:=Hi (HR.out.ext hE)
 have hs_w1:=hE.size
 clear hE
 have B3:=Hi hB0
 clear hB0
 obtain ⟨c_B3,f_B3,l_B3⟩:=blk3 B3.out
 obtain ⟨b3,hb3⟩:∃ b3,b3=w.heap.size:=⟨_,rfl⟩
 have hb3w:w.heap.size≤b3:=by omega
 have hb31:b3 < w1.heap.size:=by omega
 rw [← hb3] at B3 ⊢
 clear hb3 c_B3 f_B3 l_B3
 go_wp2
 go_loopg [5,10] n (fun g v i wr=>∃ (j:Nat) (s:SH),v=s.v∧j+g=n∧i=.int .i64 (j:Nat)∧Ext w wr∧w1.heap.size≤wr.heap.size∧RawR wr ⟨tn,ta,tl,tc,tb,tm,td⟩ c∧wr.heap[b3]?=some (.cells #[.bool tn,.slice ta tl tc,.slice tb tm td] 30 (0,0))∧OwnQ wr (w1.heap.size≤·) s.v ((ps.take j).map (· * c)))
 case atStart=>exact ⟨0,⟨none,0,0⟩,rfl,by omega,rfl,HX.out,Nat.le_refl _,HR.out,B3.out,OwnQ.nil _ _⟩
 case round =>
  obtain ⟨j,⟨sa,sn,sc⟩,rfl,hj,rfl,g1,hsz1,g2,g3,g4⟩:=hrel
  clear HX HR B3
  have HX:=Hi g1
  have HR:=Hi g2
  have B3:=Hi g3
  have HO:=Hi g4
  have hsz:=g1.size
  clear g1 g2 g3 g4
  simp only [SH.v]
  try clear c_B3 f_B3 l_B3
  obtain ⟨c_B3,f_B3,l_B3⟩:=blk3 B3.out
  have hb3r:=l_B3
  by_cases h0:gk=0
  case pos =>
   subst h0
   obtain rfl:j=n:=by omega
   have HE:Hid (ps.take j=ps):=Hi (List.take_of_length_le (by rw [Hlen.out];exact Nat.le_refl _))
   rw [HE.out] at HO
   have hsn:=OwnQ.len (s:=⟨sa,sn,sc⟩) HO.out
   rw [List.length_map,Hlen.out] at hsn
   simp only at hsn
   subst hsn
   have HSz:Hid (SzL 16777216 (ps.map (· * c))):=Hi (by
    intro q hq
    obtain ⟨y,hy,rfl⟩:=List.mem_map.1 hq
    exact ((HZ.out y hy).mul HZc.out).mono (by decide))
   go_wp2_with fail
   refine Calls.mono (trim5_any sa j sc _ _ ((OwnQ.can (s:=⟨sa,j,sc⟩) HO.out).raw HSz.out (by decide)) (by omega)) ?_
   rintro e w20 ⟨x20,rfl,hE,g20⟩
   have G20:=Hi g20
   clear g20
   replace HX:=hE.tr HX
   replace HR:=Hi (HR.out.ext hE)
   replace HO:=Hi (HO.out.ext hE)
   replace B3:=hE.bl B3
   have hs_w20:=hE.size
   clear hE
   try clear c_B3 f_B3 l_B3
   obtain ⟨c_B3,f_B3,l_B3⟩:=blk3 B3.out
   go_wp2
   go_ret
   exact ⟨x20,rfl,HX.out,G20.out.mono hsz⟩
  have hjn:(j:Int) < n:=by omega
  obtain ⟨b,off,r,hao,hbl,⟨hc1,hc2,hc3⟩,hP⟩:=(H.out.ext HX.out).cells' (k:=j) (by omega)
  obtain ⟨rneg,ra,rn,rc,rb,rm,rd⟩:=r
  simp only at hc1 hc2 hc3
  subst hao
  have RP:=Hi hP
  clear hP
  have HNx:Hid ((ps.take (j+1)).map (· * c)=(ps.take j).map (· * c) ++ [ps.getD j 0 * c]):=Hi (by rw [← take_snoc (by rw [Hlen.out];omega),List.map_append];rfl)
  have HLn:Hid (((ps.take j).map (· * c)).length≤1073741824):=Hi (by rw [List.length_map,List.length_take];omega)
  go_upto_region 5 with fail
  refine nm_alloc ?_
  intro y1 hE hB0 hz
  have hz_y1:=nle hz
  have hr_y1:=nle hz.symm
  clear hz
  replace HX:=hE.tr HX
  replace HR:=Hi (HR.out.ext hE)
  replace HO:=Hi (HO.out.ext hE)
  replace B3:=hE.bl B3
  replace RP:=Hi (RP.out.ext hE)
  have hs_y1:=hE.size
  clear hE
  try clear c_B3 f_B3 l_B3
  obtain ⟨c_B3,f_B3,l_B3⟩:=blk3 B3.out
  have B7:=Hi hB0
  clear hB0
  obtain ⟨c_B7,f_B7,l_B7⟩:=blk3 B7.out
  go_wp2_with fail
  refine Calls.mono (rmul3_any ⟨rneg,ra,rn,rc,rb,rm,rd⟩ ⟨tn,ta,tl,tc,tb,tm,td⟩ _ c _ RP.out HR.out) ?_
  rintro e w2 ⟨x2,rfl,hE,g2⟩
  have G2:=Hi g2
  clear g2
  replace HX:=hE.tr HX
  replace HR:=Hi (HR.out.ext hE)
  replace HO:=Hi (HO.out.ext hE)
  replace B3:=hE.bl B3
  replace RP:=Hi (RP.out.ext hE)
  replace B7:=hE.bl B7
  have hs_w2:=hE.size
  clear hE
  try clear c_B3 f_B3 l_B3
  obtain ⟨c_B3,f_B3,l_B3⟩:=blk3 B3.out
  try clear c_B7 f_B7 l_B7
  obtain ⟨c_B7,f_B7,l_B7⟩:=blk3 B7.out
  go_wp2_with (at_builtin;refine wpList_append_n rfl (.tmp 14) (.tmp 18) 41 Tryz.underlying41 rfl (w1.heap.size≤·) _ _ x2 _ rfl HO.out rfl G2.out HLn.out (fun k hk=>by omega) ?_;intro s' y3 q1 q2 q3)
  have HX3:=Hi (Ext.mods HX.out q2 (fun k h=>by omega))
  have HO3:Hid (OwnQ y3 (w1.heap.size≤·) s'.v ((ps.take (j+1)).map (· * c))):=Hi (by rw [HNx.out];exact q1)
  have HR3:=Hi (HR.out.keep q3)
  have B33:=Hi (Mods.blk' q2 (by omega) B3.out)
  have hsz3:=q2.size
  clear q1 q2 q3
  go_wp2
  go_roundg (gk - 1)
  case measure=>omega
  case rel=>exact ⟨j+1,s',rfl,by omega,by go_num,HX3.out,by omega,HR3.out,B33.out,HO3.out⟩
def sub5V (ps qs:List Rat):List Rat:=add5V ps (scale5V qs ((-1:Int):Rat))
theorem scale5_sz {s t:Nat} {l:List Rat} {c:Rat} (h:SzL s l) (hc:Sz t c):SzL (s+t) (scale5V l c):=by
 unfold scale5V
 refine SzL.tz ?_
 intro q hq
 obtain ⟨y,hy,rfl⟩:=List.mem_map.1 hq
 exact (h y hy).mul hc
theorem scale5_len (l:List Rat) (c:Rat):(scale5V l c).length≤l.length:=by
 unfold scale5V
 refine Nat.le_trans (tz_len_le _) ?_
 simp
theorem neg1_sz:Sz 1 ((-1:Int):Rat):=Sz.int (by decide)
theorem sub5_any (ao bo:Option Addr) (n c m d:Nat) (ps qs:List Rat) (w:World) (h:RawL w ⟨ao,n,c⟩ ps) (k:RawL w ⟨bo,m,d⟩ qs) (hn:n≤1073741823) (hm:m≤1073741823) (hz:SzL 8388608 ps) (kz:SzL 8388607 qs) :
  Does 69 [.slice ao n c,.slice bo m d] w SH.v (fun s w'=>NewL w.heap.size w' s (sub5V ps qs)):=by
 have H:=Hi h
 have K:=Hi k
 have HX:=Hi (Ext.refl w)
 have Hm:=Hi k.len
 simp only at Hm
 have HZ:=Hi hz
 have KZ:=Hi kz
 clear h k hz kz
 unfold Does
 go_enter Tryz.func69,Tryz.ntmps69
 go_wp2_with fail
 refine Calls.mono (rof3_any (-1) _ (by decide) (by decide)) ?_
 rintro e w1 ⟨x1,rfl,hE,g1⟩
 have G1:=Hi g1
 clear g1
 replace HX:=hE.tr HX
 have hs_w1:=hE.size
 clear hE
 go_wp2_with fail
 refine Calls.mono (scale5_any bo m d qs x1 ((-1:Int):Rat) _ (K.out.ext HX.out) (G1.out.raw neg1_sz (by decide)) hm (KZ.out.mono (by decide)) (neg1_sz.mono (by decide))) ?_
 rintro e w2 ⟨x2,rfl,hE,g2⟩
 have G2:=Hi g2
 clear g2
 replace HX:=hE.tr HX
 replace G1:=Hi (G1.out.ext hE)
 have hs_w2:=hE.size
 clear hE
 obtain ⟨sa,sn,sc⟩:=x2
 have hsn:sn≤m:=by
  have h1:=G2.out.len
  have h2:=scale5_len qs ((-1:Int):Rat)
  rw [Hm.out] at h2
  simp only at h1
  omega
 simp only [SH.v]
 have hsz:=HX.out.size
 go_wp2_with fail
 refine Calls.mono (add5_any ao sa n c sn sc ps (scale5V qs ((-1:Int):Rat)) _ (H.out.ext HX.out) (G2.out.can.raw (scale5_sz KZ.out neg1_sz) (by decide)) hn (by omega) HZ.out ((scale5_sz KZ.out neg1_sz).mono (by decide))) ?_
 rintro e w3 ⟨x3,rfl,hE,g3⟩
 have G3:=Hi g3
 clear g3
 replace HX:=hE.tr HX
 replace G1:=Hi (G1.out.ext hE)
 replace G2:=Hi (G2.out.ext hE)
 have hs_w3:=hE.size
 clear hE
 go_wp2
 go_ret
 exact ⟨x3,rfl,HX.out,G3.out.mono hsz⟩
end Go.Proofs.YtpieblkklbilgaaGreat
