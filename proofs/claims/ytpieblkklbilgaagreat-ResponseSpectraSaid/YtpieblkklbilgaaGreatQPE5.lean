/- Eval of the reference's polynomials, big numbers. -/
import Derived.Test.YtpieblkklbilgaaGreatQPR5b
import Derived.Test.YtpieblkklbilgaaGreatQPM24
import Derived.Test.YtpieblkklbilgaaGreatQPM28
import Derived.Test.YtpieblkklbilgaaGreatQPM17
set_option linter.unusedVariables false
set_option maxRecDepth 8000
set_option maxHeartbeats 4000000
namespace Go.Proofs.YtpieblkklbilgaaGreat
open Go.RowKit Go.Front Go.Num Stab
attribute [local go_sem] XW.cell XW.frozen
theorem ev_dropk5 (l:List Rat) (x:Rat) {k:Nat} (hk:k < l.length):evV (l.drop k) x=evV (l.drop (k+1)) x * x+l.getD k 0:=by
 rw [List.drop_eq_getElem_cons hk,List.getD_eq_getElem?_getD,List.getElem?_eq_getElem hk]
 rfl
theorem eval5_big (ao:Option Addr) (n c:Nat) (l:List Rat) (t:RH) (x:Rat) (w:World) (h:CanL w ⟨ao,n,c⟩ l) (ht:CanR w t x) (hn:n≤100) (hl:SzL 40000000 l) (hx:Sz 10000000 x) (hE:∀ k,k≤l.length→Sz 40000000 (evV (l.drop k) x)) :
  Does 41 [.slice ao n c,t.v] w RH.v (fun y w'=>CanR w' y (evV l x)):=by
 obtain ⟨tn,ta,tl,tc,tb,tm,td⟩:=t
 have HX:=Hi (Ext.refl w)
 have LA:=Hi h.lin
 have HT:=Hi ht
 have HZ:=Hi hl
 have ZX:=Hi hx
 have HLn:=Hi h.len
 have HEs:=Hi hE
 simp only at HLn
 clear h ht hl hx hE
 unfold Does
 go_enter Tryz.func41,Tryz.ntmps41
 go_upto_region 1 with fail
 refine nm_alloc2 ?_
 intro w1 hE hB0 hB1 hz
 have hz_w1:=nle hz
 have hr_w1:=nle hz.symm
 clear hz
 replace HX:=hE.tr HX
 replace LA:=Hi (LA.out.ext hE)
 replace HT:=Hi (HT.out.ext hE)
 have hs_w1:=hE.size
 clear hE
 have B3:=Hi hB0
 clear hB0
 obtain ⟨c_B3,f_B3,l_B3⟩:=blk3 B3.out
 have B4:=Hi hB1
 clear hB1
 obtain ⟨c_B4,f_B4,l_B4⟩:=blk3 B4.out
 go_wp2_with fail
 refine Calls.mono (rof3_any 0 _ (by decide) (by decide)) ?_
 rintro e w7 ⟨x7,rfl,hE,g7⟩
 have G7:=Hi g7
 clear g7
 replace HX:=hE.tr HX
 replace LA:=Hi (LA.out.ext hE)
 replace HT:=Hi (HT.out.ext hE)
 replace B3:=hE.bl B3
 replace B4:=hE.bl B4
 have hs_w7:=hE.size
 clear hE
 try clear c_B3 f_B3 l_B3
 obtain ⟨c_B3,f_B3,l_B3⟩:=blk3 B3.out
 try clear c_B4 f_B4 l_B4
 obtain ⟨c_B4,f_B4,l_B4⟩:=blk3 B4.out
 go_upto_region 2 with fail
 refine nm_alloc ?_
 intro w8 hE hB0 hz
 have hz_w8:=nle hz
 have hr_w8:=nle hz.symm
 clear hz
 replace HX:=hE.tr HX
 replace LA:=Hi (LA.out.ext hE)
 replace HT:=Hi (HT.out.ext hE)
 replace B3:=hE.bl B3
 replace B4:=hE.bl B4
 replace G7:=Hi (G7.out.ext hE)
 have hs_w8:=hE.size
 clear hE
 try clear c_B3 f_B3 l_B3
 obtain ⟨c_B3,f_B3,l_B3⟩:=blk3 B3.out
 try clear c_B4 f_B4 l_B4
 obtain ⟨c_B4,f_B4,l_B4⟩:=blk3 B4.out
 have B5:=Hi hB0
 clear hB0
 obtain ⟨c_B5,f_B5,l_B5⟩:=blk3 B5.out
 obtain ⟨b3,hb3⟩:∃ b,b=w.heap.size:=⟨_,rfl⟩
 obtain ⟨b4,hb4⟩:∃ b,b=w.heap.size+1:=⟨_,rfl⟩
 obtain ⟨b5,hb5⟩:∃ b,b=w7.heap.size:=⟨_,rfl⟩
 have hw3:w.heap.size≤b3:=by omega
 have hw4:w.heap.size≤b4:=by omega
 have hw5:w.heap.size≤b5:=by omega
 have h34:b3 ≠ b4:=by omega
 have h35:b3 ≠ b5:=by omega
 have h45:b4 ≠ b5:=by omega
 rw [← hb4] at B4 ⊢
 rw [← hb3] at B3 ⊢
 rw [← hb5] at B5 ⊢
 clear hb3 hb4 hb5 c_B3 f_B3 l_B3 c_B4 f_B4 l_B4 c_B5 f_B5 l_B5
 have HY:Hid (CanR w8 x7 (evV (l.drop n) x)):=Hi (by rw [List.drop_eq_nil_of_le (by rw [HLn.out];exact Nat.le_refl _)];exact G7.out)
 have LA0:Hid (LIn w8 ⟨ao,n,c⟩ l 0 w.heap.size):=Hi LA.out
 go_wp2
 go_loopg [6] n (fun g v wr=>∃ (y:RH),v=.int .i64 ((g:Int) - 1)∧g≤n∧Ext w wr∧LIn wr ⟨ao,n,c⟩ l 0 w.heap.size∧CanR wr ⟨tn,ta,tl,tc,tb,tm,td⟩ x∧wr.heap[b3]?=some (.cells #[.bool tn,.slice ta tl tc,.slice tb tm td] 30 (0,0))∧wr.heap[b4]?=some (.cells #[.bool false,.slice none 0 0,.slice none 0 0] 30 (0,0))∧wr.heap[b5]?=some (.cells #[.bool y.neg,.slice y.a y.n y.c,.slice y.b y.m y.d] 30 (0,0))∧CanR wr y (evV (l.drop g) x))
 case atStart=>exact ⟨x7,rfl,Nat.le_refl _,HX.out,LA0.out,HT.out,B3.out,B4.out,B5.out,HY.out⟩
 case round =>
  obtain ⟨⟨yn,ya,yl,yc,yb,ym,yd⟩,rfl,hg,g1,g2,g3,g4,g5,g6,g7⟩:=hrel
  clear HX LA LA0 HT B3 B4 B5 HY G7
  have HX:=Hi g1
  have LA:=Hi g2
  have HT:=Hi g3
  have B3:=Hi g4
  have B4:=Hi g5
  have B5:=Hi g6
  have HY:=Hi g7
  clear g1 g2 g3 g4 g5 g6 g7
  try clear c_B3 f_B3 l_B3
  obtain ⟨c_B3,f_B3,l_B3⟩:=blk3 B3.out
  try clear c_B4 f_B4 l_B4
  obtain ⟨c_B4,f_B4,l_B4⟩:=blk3 B4.out
  try clear c_B5 f_B5 l_B5
  obtain ⟨c_B5,f_B5,l_B5⟩:=blk3 B5.out
  by_cases h0:gk=0
  case pos =>
   subst h0
   have hneg:¬ (0:Int)≤((0:Nat):Int) - 1:=by omega
   go_wp2
   refine nm_set3 (F:=fun W=>bodyPost _ _ _ _ _ W) B4.out rfl ?_
   intro w9 T
   replace HX:=Hi (T.ext HX.out (by omega))
   replace LA:=Hi (LA.out.put T (by omega))
   replace HT:=Hi (HT.out.keep T.keep)
   replace HY:=Hi (HY.out.keep T.keep)
   replace B3:=Hi (T.rest _ _ (by omega) B3.out)
   replace B4:=Hi (T.bx)
   replace B5:=Hi (T.rest _ _ (by omega) B5.out)
   have hs_w9:=nle T.size
   have hr_w9:=nle T.size.symm
   clear T
   try clear c_B3 f_B3 l_B3
   obtain ⟨c_B3,f_B3,l_B3⟩:=blk3 B3.out
   try clear c_B4 f_B4 l_B4
   obtain ⟨c_B4,f_B4,l_B4⟩:=blk3 B4.out
   try clear c_B5 f_B5 l_B5
   obtain ⟨c_B5,f_B5,l_B5⟩:=blk3 B5.out
   exact bodyPost_ret (v:=RH.v ⟨yn,ya,yl,yc,yb,ym,yd⟩) (by simp [results,Tryz.results41,go_sem,c_B4]) rfl ⟨⟨yn,ya,yl,yc,yb,ym,yd⟩,rfl,HX.out,HY.out⟩
  obtain ⟨k,rfl⟩:∃ k,gk=k+1:=⟨gk - 1,by omega⟩
  have hk1:((k+1:Nat):Int) - 1=(k:Nat):=by omega
  rw [hk1]
  have hkn:k < n:=by omega
  have hk0:(0:Int)≤(k:Nat):=by omega
  have hin:(k:Int) < n:=by omega
  have ZY:Hid (Sz 40000000 (evV (l.drop (k+1)) x)):=Hi (HEs.out (k+1) (by rw [HLn.out];omega))
  have HE:=Hi (ev_dropk5 l x (k:=k) (by rw [HLn.out];exact hkn))
  have ZK:Hid (Sz 40000000 (l.getD k 0)):=Hi (HZ.out.at (by rw [HLn.out];exact hkn))
  obtain ⟨ba,oa,r,hao,hbl,⟨hc1,hc2,hc3⟩,hPc⟩:=LA.out.celx (k:=k) hkn
  obtain ⟨rneg,ra,rn,rc,rb,rm,rd⟩:=r
  simp only at hc1 hc2 hc3
  have HC:=Hi hPc
  clear hPc
  subst hao
  go_upto_region 5 with fail
  refine wp_region_front 8 (fun opIx=>match opIx with
   | 2=>.spec RH default RH.v (fun s w'=>CanR w' s (evV (l.drop (k+1)) x * x))
   | 7=>.spec RH default RH.v (fun s w'=>CanR w' s (evV (l.drop (k+1)) x * x+l.getD k 0))
   | _=>.quiet) (fun | 7=>[2] | _=>[]) (by kernel_rfl) (by kernel_rfl) (fun w0 he0 hz0 hc0 hf0=>?_)
  replace he0:=Hi he0
  simp only [pT]
  repeat (refine wpq fun K h=>?_;go_big_quiet_op;refine h _ ?_;clear h K)
  refine wps he0.out rfl rfl (fun w1 hW hG=>?_) fun x30=>?_
  ·exact spc [RH.v ⟨yn,ya,yl,yc,yb,ym,yd⟩,RH.v ⟨tn,ta,tl,tc,tb,tm,td⟩] Tryz.func38 (rmul3_any _ _ _ _ _ ((HY.out.ext hW).raw ZY.out (by decide)) ((HT.out.ext hW).raw ZX.out (by decide)))
  simp only [pS]
  repeat (refine wpq fun K h=>?_;go_big_quiet_op;refine h _ ?_;clear h K)
  refine wps he0.out rfl rfl (fun w1 hW hG=>?_) fun x31=>?_
  ·have g30:=(hG 2 (by decide):Since _ _).get fun _ e g=>g.ext e
   exact spc [x30.v,RH.v ⟨rneg,ra,rn,rc,rb,rm,rd⟩] Tryz.func30 (radd3_any x30 _ _ _ _ (g30.raw (ZY.out.mul ZX.out) (by decide)) ((HC.out.ext hW).raw ZK.out (by decide)))
  simp only [pS]
  repeat (refine wpq fun K h=>?_;go_big_quiet_op;refine h _ ?_;clear h K)
  refine wpF_nil ?_
  intro w14 hI
  have hE:=he0.out.trans hI.ext
  have G30:=Hi ((hI.facts 2:Since _ _).get fun _ e g=>g.ext e)
  have G31:=Hi ((hI.facts 7:Since _ _).get fun _ e g=>g.ext e)
  clear hI he0 hz0 hc0 hf0
  replace HX:=hE.tr HX
  replace LA:=Hi (LA.out.ext hE)
  replace HT:=Hi (HT.out.ext hE)
  replace HY:=Hi (HY.out.ext hE)
  replace B3:=hE.bl B3
  replace B4:=hE.bl B4
  replace B5:=hE.bl B5
  replace HC:=Hi (HC.out.ext hE)
  have hs_w14:=hE.size
  clear hE
  try clear c_B3 f_B3 l_B3
  obtain ⟨c_B3,f_B3,l_B3⟩:=blk3 B3.out
  try clear c_B4 f_B4 l_B4
  obtain ⟨c_B4,f_B4,l_B4⟩:=blk3 B4.out
  try clear c_B5 f_B5 l_B5
  obtain ⟨c_B5,f_B5,l_B5⟩:=blk3 B5.out
  simp only [pD]
  clear hc1 hc2 hc3
  rw [← HE.out] at G31
  go_upto_region 4 with fail
  refine nm_set3 B5.out rfl ?_
  intro w15 T
  replace HX:=Hi (T.ext HX.out (by omega))
  replace LA:=Hi (LA.out.put T (by omega))
  replace HT:=Hi (HT.out.keep T.keep)
  replace HY:=Hi (HY.out.keep T.keep)
  replace B3:=Hi (T.rest _ _ (by omega) B3.out)
  replace B4:=Hi (T.rest _ _ (by omega) B4.out)
  replace B5:=Hi (T.bx)
  replace HC:=Hi (HC.out.keep T.keep)
  replace G30:=Hi (G30.out.keep T.keep)
  replace G31:=Hi (G31.out.keep T.keep)
  have hs_w15:=nle T.size
  have hr_w15:=nle T.size.symm
  clear T
  try clear c_B3 f_B3 l_B3
  obtain ⟨c_B3,f_B3,l_B3⟩:=blk3 B3.out
  try clear c_B4 f_B4 l_B4
  obtain ⟨c_B4,f_B4,l_B4⟩:=blk3 B4.out
  try clear c_B5 f_B5 l_B5
  obtain ⟨c_B5,f_B5,l_B5⟩:=blk3 B5.out
  go_wp2
  go_roundg k
  case measure=>omega
  case rel=>exact ⟨x31,by go_num,by omega,HX.out,LA.out,HT.out,B3.out,B4.out,B5.out,G31.out⟩
theorem scale5_big (ao:Option Addr) (n cap:Nat) (ps:List Rat) (t:RH) (c:Rat) (w:World) (h:RawL w ⟨ao,n,cap⟩ ps) (ht:RawR w t c) (hn:n≤1073741823) (hz:SzL 40000000 ps) (hzc:Sz 40000000 c) :
  Does 73 [.slice ao n cap,t.v] w SH.v (fun s w'=>NewL w.heap.size w' s (scale5V ps c)):=by
 obtain ⟨tn,ta,tl,tc,tb,tm,td⟩:=t
 have H:=Hi h
 have HR:=Hi ht
 have HX:=Hi (Ext.refl w)
 have hle:=h.le
 have hmx:=h.max
 have Hlen:=Hi h.len
 simp only at hle hmx Hlen
 have HZ:=Hi hz
 have HZc:=Hi hzc
 clear h ht hz hzc
 unfold Does
 go_enter Tryz.func73,Tryz.ntmps73
 go_upto_region 1 with fail
 refine nm_alloc ?_
 intro w1 hE hB0 hz
 have hz_w1:=nle hz
 have hr_w1:=nle hz.symm
 clear hz
 replace HX:=hE.tr HX
 replace HR:=Hi (HR.out.ext hE)
 have hs_w1:=hE.size
 clear hE
 have B3:=Hi hB0
 clear hB0
 obtain ⟨c_B3,f_B3,l_B3⟩:=blk3 B3.out
 obtain ⟨b3,hb3⟩:∃ b3,b3=w.heap.size:=⟨_,rfl⟩
 have hb3w:w.heap.size≤b3:=by omega
 have hb31:b3 < w1.heap.size:=by omega
 rw [← hb3] at B3 ⊢
 clear hb3 c_B3 f_B3 l_B3
 go_wp2
 go_loopg [5,10] n (fun g v i wr=>∃ (j:Nat) (s:SH),v=s.v∧j+g=n∧i=.int .i64 (j:Nat)∧Ext w wr∧w1.heap.size≤wr.heap.size∧RawR wr ⟨tn,ta,tl,tc,tb,tm,td⟩ c∧wr.heap[b3]?=some (.cells #[.bool tn,.slice ta tl tc,.slice tb tm td] 30 (0,0))∧OwnQ wr (w1.heap.size≤·) s.v ((ps.take j).map (· * c)))
 case atStart=>exact ⟨0,⟨none,0,0⟩,rfl,by omega,rfl,HX.out,Nat.le_refl _,HR.out,B3.out,OwnQ.nil _ _⟩
 case round =>
  obtain ⟨j,⟨sa,sn,sc⟩,rfl,hj,rfl,g1,hsz1,g2,g3,g4⟩:=hrel
  clear HX HR B3
  have HX:=Hi g1
  have HR:=Hi g2
  have B3:=Hi g3
  have HO:=Hi g4
  have hsz:=g1.size
  clear g1 g2 g3 g4
  simp only [SH.v]
  try clear c_B3 f_B3 l_B3
  obtain ⟨c_B3,f_B3,l_B3⟩:=blk3 B3.out
  have hb3r:=l_B3
  by_cases h0:gk=0
  case pos =>
   subst h0
   obtain rfl:j=n:=by omega
   have HE:Hid (ps.take j=ps):=Hi (List.take_of_length_le (by rw [Hlen.out];exact Nat.le_refl _))
   rw [HE.out] at HO
   have hsn:=OwnQ.len (s:=⟨sa,sn,sc⟩) HO.out
   rw [List.length_map,Hlen.out] at hsn
   simp only at hsn
   subst hsn
   have HSz:Hid (SzL 80000000 (ps.map (· * c))):=Hi (by
    intro q hq
    obtain ⟨y,hy,rfl⟩:=List.mem_map.1 hq
    exact ((HZ.out y hy).mul HZc.out).mono (by decide))
   go_wp2_with fail
   refine Calls.mono (trim5_any sa j sc _ _ ((OwnQ.can (s:=⟨sa,j,sc⟩) HO.out).raw HSz.out (by decide)) (by omega)) ?_
   rintro e w20 ⟨x20,rfl,hE,g20⟩
   have G20:=Hi g20
   clear g20
   replace HX:=hE.tr HX
   replace HR:=Hi (HR.out.ext hE)
   replace HO:=Hi (HO.out.ext hE)
   replace B3:=hE.bl B3
   have hs_w20:=hE.size
   clear hE
   try clear c_B3 f_B3 l_B3
   obtain ⟨c_B3,f_B3,l_B3⟩:=blk3 B3.out
   go_wp2
   go_ret
   exact ⟨x20,rfl,HX.out,G20.out.mono hsz⟩
  have hjn:(j:Int) < n:=by omega
  obtain ⟨b,off,r,hao,hbl,⟨hc1,hc2,hc3⟩,hP⟩:=(H.out.ext HX.out).cells' (k:=j) (by omega)
  obtain ⟨rneg,ra,rn,rc,rb,rm,rd⟩:=r
  simp only at hc1 hc2 hc3
  subst hao
  have RP:=Hi hP
  clear hP
  have HNx:Hid ((ps.take (j+1)).map (· * c)=(ps.take j).map (· * c) ++ [ps.getD j 0 * c]):=Hi (by rw [← take_snoc (by rw [Hlen.out];omega),List.map_append];rfl)
  have HLn:Hid (((ps.take j).map (· * c)).length≤1073741824):=Hi (by rw [List.length_map,List.length_take];omega)
  go_upto_region 5 with fail
  refine nm_alloc ?_
  intro y1 hE hB0 hz
  have hz_y1:=nle hz
  have hr_y1:=nle hz.symm
  clear hz
  replace HX:=hE.tr HX
  replace HR:=Hi (HR.out.ext hE)
  replace HO:=Hi (HO.out.ext hE)
  replace B3:=hE.bl B3
  replace RP:=Hi (RP.out.ext hE)
  have hs_y1:=hE.size
  clear hE
  try clear c_B3 f_B3 l_B3
  obtain ⟨c_B3,f_B3,l_B3⟩:=blk3 B3.out
  have B7:=Hi hB0
  clear hB0
  obtain ⟨c_B7,f_B7,l_B7⟩:=blk3 B7.out
  go_wp2_with fail
  refine Calls.mono (rmul3_any ⟨rneg,ra,rn,rc,rb,rm,rd⟩ ⟨tn,ta,tl,tc,tb,tm,td⟩ _ c _ RP.out HR.out) ?_
  rintro e w2 ⟨x2,rfl,hE,g2⟩
  have G2:=Hi g2
  clear g2
  replace HX:=hE.tr HX
  replace HR:=Hi (HR.out.ext hE)
  replace HO:=Hi (HO.out.ext hE)
  replace B3:=hE.bl B3
  replace RP:=Hi (RP.out.ext hE)
  replace B7:=hE.bl B7
  have hs_w2:=hE.size
  clear hE
  try clear c_B3 f_B3 l_B3
  obtain ⟨c_B3,f_B3,l_B3⟩:=blk3 B3.out
  try clear c_B7 f_B7 l_B7
  obtain ⟨c_B7,f_B7,l_B7⟩:=blk3 B7.out
  go_wp2_with (at_builtin;refine wpList_append_n rfl (.tmp 14) (.tmp 18) 41 Tryz.underlying41 rfl (w1.heap.size≤·) _ _ x2 _ rfl HO.out rfl G2.out HLn.out (fun k hk=>by omega) ?_;intro s' y3 q1 q2 q3)
  have HX3:=Hi (Ext.mods HX.out q2 (fun k h=>by omega))
  have HO3:Hid (OwnQ y3 (w1.heap.size≤·) s'.v ((ps.take (j+1)).map (· * c))):=Hi (by rw [HNx.out];exact q1)
  have HR3:=Hi (HR.out.keep q3)
  have B33:=Hi (Mods.blk' q2 (by omega) B3.out)
  have hsz3:=q2.size
  clear q1 q2 q3
  go_wp2
  go_roundg (gk - 1)
  case measure=>omega
  case rel=>exact ⟨j+1,s',rfl,by omega,by go_num,HX3.out,by omega,HR3.out,B33.out,HO3.out⟩
end Go.Proofs.YtpieblkklbilgaaGreat
