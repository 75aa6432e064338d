/- Py1, Py2 -/
import Derived.Test.YtpieblkklbilgaaGreatQPM7
import Derived.Test.YtpieblkklbilgaaGreatQPM8
import Derived.Test.YtpieblkklbilgaaGreatQPM22
import Derived.Test.YtpieblkklbilgaaGreatQPM12
set_option linter.unusedVariables false
set_option maxRecDepth 8000
set_option maxHeartbeats 4000000
namespace Go.Proofs.YtpieblkklbilgaaGreat
open Go.RowKit Go.Front Go.Num
attribute [local go_sem] XW.cell XW.frozen
def RowC (w:World) (L:Nat) (os:List Rat):Prop:=∃ rs re,RBk w L rs re∧re.toList.all nonU=true∧Vals CanR w rs os
theorem RowC.ext {w w':World} {L:Nat} {os:List Rat} (h:RowC w L os) (he:Ext w w'):RowC w' L os:=let ⟨rs,re,h1,h0,h2⟩:=h;⟨rs,re,h1.ext he,h0,h2.can_ext he⟩
theorem RowC.lt {w:World} {L:Nat} {os:List Rat} (h:RowC w L os):L < w.heap.size:=let ⟨_,_,h1,_⟩:=h;h1.lt
theorem RowC.frozen {w:World} {L:Nat} {os:List Rat} (h:RowC w L os) (i:Nat):w.frozen? ⟨L,i,none⟩=false:=let ⟨_,_,h1,_⟩:=h;h1.frozen i
theorem RowC.cells {w:World} {L:Nat} {os:List Rat} (h:RowC w L os) {k:Nat} (hk:k < os.length):∃ r,RAt w L (k * 3) r∧CanR w r (os.getD k 0):=by
 obtain ⟨rs,re,h1,h0,h2⟩:=h
 exact ⟨_,h1.at (by rw [h2.1];exact hk),h2.2 k hk⟩
theorem RowC.can {w:World} {L M c:Nat} {os:List Rat} (h:RowC w L os) (hl:os.length=M) (hc:M≤c) (hM:c≤9223372036854775807):CanL w ⟨some ⟨L,0,none⟩,M,c⟩ os:=by
 obtain ⟨rs,re,h1,h0,h2⟩:=h
 exact ⟨rs,h1.rs (by rw [h2.1,hl]) hc hM,h2⟩
theorem RowC.put {w1 w2:World} {L b:Nat} {os:List Rat} {T:TypeId} {cs:Array Value} (h:RowC w1 L os) (T2:PutB w1 b T cs w2) (hb:b ≠ L):RowC w2 L os:=by
 obtain ⟨rs,re,h1,h0,h2⟩:=h
 exact ⟨rs,re,T2.rest L _ (Ne.symm hb) h1,h0,h2.keep T2.keep⟩
theorem nm_row {w1:World} {L k:Nat} {os:List Rat} {q:Rat} {F:World→Prop} {x:RH} (h:RowC w1 L os) (hk:k < os.length) (hx:CanR w1 x q)
  (H:∀ w2,(∃ cs,PutB w1 L 30 cs w2)→RowC w2 L (os.set k q)→F w2) :
  F (((w1.setCell ⟨L,k * 3,none⟩ (.bool x.neg)).setCell ⟨L,k * 3+1,none⟩ (.slice x.a x.n x.c)).setCell ⟨L,k * 3+2,none⟩ (.slice x.b x.m x.d)):=by
 obtain ⟨rs,re,h1,h0,h2⟩:=h
 refine nm_rat h1 h0 (by rw [h2.1];exact hk) fun w2 T=>H w2 ⟨_,T⟩ ⟨rs.set k x,re,T.bx,h0,(h2.keep T.keep).set (hx.keep T.keep) k⟩
theorem PreC.row {w:World} {L M:Nat} {rs:List RH} {ts:List Rat} (h:PreC w rs ts) (hb:RBk w L rs #[]) (hl:rs.length=M) (ht:ts.length=M):RowC w L ts:=⟨rs,#[],hb,rfl,by rw [hl,ht],h⟩
def NewRow (B:Nat) (w:World) (x:SH) (os:List Rat):Prop:=∃ L,B≤L∧x=⟨some ⟨L,0,none⟩,os.length,os.length⟩∧RowC w L os
theorem NewRow.ext {B:Nat} {w w':World} {x:SH} {os:List Rat} (h:NewRow B w x os) (he:Ext w w'):NewRow B w' x os:=let ⟨L,h1,h2,h3⟩:=h;⟨L,h1,h2,h3.ext he⟩
theorem NewRow.new {B:Nat} {w:World} {x:SH} {os:List Rat} (h:NewRow B w x os) (hl:os.length≤9223372036854775807):NewL B w x os:=by
 obtain ⟨L,h1,rfl,rs,re,h3,h0,h4⟩:=h
 exact ⟨rs,h3.rs h4.1 (Nat.le_refl _) hl,h4,Or.inr ⟨L,0,rfl,h1,h3.lt⟩⟩
theorem zeros_any (M:Nat) (w:World) (hM:M≤1000000):Does 203 [.int .i64 (M:Nat)] w SH.v (fun x w'=>NewRow w.heap.size w' x (List.replicate M 0)):=by
 obtain ⟨i0,hi0,hz0,hz1,hz2⟩:=info_parts infoR
 have HX:=Hi (Ext.refl w)
 unfold Does
 go_enter Tryz.func203,Tryz.ntmps203
 go_upto_region 2 with (refine wpList_make rfl (.tmp 5) (.tmp 5) 41 rfl 30 i0 (RH.v default) 3 Tryz.underlying41 hi0 hz0 hz1 _ _ M rfl rfl (by omega) (by omega) (by rw [hz2];omega) (by omega) ?_;intro w3 hnew hE)
 have KB:=Hi (RBk.make rfl hnew)
 clear hnew
 replace HX:=hE.tr HX
 have hs_w3:=hE.size
 clear hE
 obtain ⟨L,hL⟩:∃ L,L=w.heap.size:=⟨_,rfl⟩
 have hLw:w.heap.size≤L:=by omega
 rw [← hL] at KB ⊢
 clear hL
 go_wp2
 go_loopg [9] M (fun g v wr=>∃ (i:Nat) (rs:List RH),i+g=M∧v=.int .i64 (i:Nat)∧Ext w wr∧RBk wr L rs #[]∧rs.length=M∧PreC wr rs (List.replicate i 0))
 case atStart=>exact ⟨0,_,by omega,rfl,HX.out,KB.out,by simp,fun j hj=>by simp at hj⟩
 case round =>
  obtain ⟨i,rs,hi,rfl,g1,g4,g5,g6⟩:=hrel
  clear HX KB
  have HX:=Hi g1
  have KB:=Hi g4
  have HRl:=Hi g5
  have PC:=Hi g6
  clear g1 g4 g5 g6
  try clear f_KB l_KB
  have f_KB:=blk_frozen KB.out
  have l_KB:=(Array.getElem?_eq_some_iff.1 KB.out).1
  by_cases h0:gk=0
  case neg =>
   have hin:(i:Int) < M:=by omega
   go_wp2_with fail
   refine Calls.mono (rof_any 0 _ (by decide) (by decide)) ?_
   rintro e w2 ⟨x2,rfl,hE,g2⟩
   have G2:=Hi g2
   clear g2
   replace HX:=hE.tr HX
   replace KB:=hE.bl KB
   replace PC:=Hi (PC.out.ext hE)
   have hs_w2:=hE.size
   clear hE
   try clear f_KB l_KB
   have f_KB:=blk_frozen KB.out
   have l_KB:=(Array.getElem?_eq_some_iff.1 KB.out).1
   obtain ⟨f1,f2,f3⟩:=RBk.at (re:=#[]) KB.out (k:=i) (by rw [HRl.out];omega)
   go_upto_region 6 with fail
   refine nm_rat (k:=i) KB.out rfl (by rw [HRl.out];omega) ?_
   intro y6 T
   clear f1 f2 f3
   replace HX:=Hi (T.ext HX.out (by omega))
   replace KB:=Hi (T.bx)
   replace PC:=Hi (PC.out.keep T.keep)
   replace G2:=Hi (G2.out.keep T.keep)
   have hs_y6:=nle T.size
   have hr_y6:=nle T.size.symm
   clear T
   try clear f_KB l_KB
   have f_KB:=blk_frozen KB.out
   have l_KB:=(Array.getElem?_eq_some_iff.1 KB.out).1
   replace PC:=Hi (PC.out.snoc (x:=x2) (i:=i) (by simp) (by rw [HRl.out];omega) G2.out)
   have HRp:Hid (List.replicate i (0:Rat) ++ [((0:Int):Rat)]=List.replicate (i+1) 0):=Hi (by rw [List.replicate_succ'];rfl)
   rw [HRp.out] at PC
   go_wp2
   go_roundg (gk - 1)
   case measure=>omega
   case rel=>exact ⟨i+1,_,by omega,by go_num,HX.out,KB.out,by rw [List.length_set];exact HRl.out,PC.out⟩
  subst h0
  obtain rfl:i=M:=by omega
  have hin:¬ (i:Int) < i:=by omega
  have HO:Hid (RowC wr L (List.replicate i 0)):=Hi (PC.out.row KB.out HRl.out (by simp))
  go_wp2
  go_ret
  exact ⟨⟨some ⟨L,0,none⟩,i,i⟩,rfl,HX.out,L,hLw,by simp,HO.out⟩
theorem pu32_one {w:World} {L:Nat} {T:TypeId} (h:w.heap[L]?=some (.cells #[.int .u32 1] T (0,0))):U32 w (some ⟨L,0,none⟩) 1 1 (digs 1):=by
 rw [digs_one]
 refine ⟨rfl,Nat.le_refl _,by decide,fun d hd=>?_,Or.inr ⟨L,0,rfl,fun k hk=>?_⟩⟩
 ·obtain rfl:d=1:=by simpa using hd
  decide
 ·obtain rfl:k=0:=by omega
  rw [blk_cell h]
  rfl
theorem nm_twod {w1:World} {b b':Nat} {T T':TypeId} {c0 c1 c2 v0 v1 v2 c0' c1' c2' v0' v1' v2':Value} {F:World→Prop} (hb:w1.heap[b]?=some (.cells #[c0,c1,c2] T (0,0))) (hn:#[c0,c1,c2].toList.all nonU=true)
  (hb':w1.heap[b']?=some (.cells #[c0',c1',c2'] T' (0,0))) (hn':#[c0',c1',c2'].toList.all nonU=true) (hne:b' ≠ b)
  (H:∀ w2 w3 w4,PutB w1 b T #[v0,v1,v2] w2→PutB w2 b' T' #[v0',v1',v2'] w3→Ext w3 w4→F w4) :
  F ((((((w1.setCell ⟨b,0,none⟩ v0).setCell ⟨b,1,none⟩ v1).setCell ⟨b,2,none⟩ v2).setCell ⟨b',0,none⟩ v0').setCell ⟨b',1,none⟩ v1').setCell ⟨b',2,none⟩ v2').drew :=
 nm_set3 (v0:=v0) (v1:=v1) (v2:=v2) (F:=fun W=>F ((((W.setCell ⟨b',0,none⟩ v0').setCell ⟨b',1,none⟩ v1').setCell ⟨b',2,none⟩ v2').drew)) hb hn fun w2 T2 =>
  nm_set3 (v0:=v0') (v1:=v1') (v2:=v2') (F:=fun W=>F W.drew) (T2.rest _ _ hne hb') hn' fun w3 T3=>H w2 w3 _ T2 T3 (Ext.drew _)
abbrev PT (x:RH × RH):Value:=.tuple #[x.1.v,x.2.v]
theorem pparts_any (t:RH) (q:Rat) (w:World) (h:CanR w t q):Does 208 [t.v] w PT (fun x w'=>CanR w' x.1 (q.num:Rat)∧CanR w' x.2 ((q.den:Int):Rat)):=by
 obtain ⟨neg,a,n,c,b,m,d⟩:=t
 have H:=Hi h
 have HX:=Hi (Ext.refl w)
 clear h
 unfold Does
 go_enter Tryz.func208,Tryz.ntmps208
 go_upto_region 1 with fail
 refine nm_alloc3 ?_
 intro w1 hE hB0 hB1 hB2 hz
 have hz_w1:=nle hz
 have hr_w1:=nle hz.symm
 clear hz
 replace HX:=hE.tr HX
 have hs_w1:=hE.size
 clear hE
 have B1:=Hi hB0
 clear hB0
 obtain ⟨c_B1,f_B1,l_B1⟩:=blk3 B1.out
 have B2:=Hi hB1
 clear hB1
 obtain ⟨c_B2,f_B2,l_B2⟩:=blk3 B2.out
 have B3:=Hi hB2
 clear hB2
 obtain ⟨c_B3,f_B3,l_B3⟩:=blk3 B3.out
 go_upto_region 2 with fail
 refine nm_alloc ?_
 intro w2 hE hB0 hz
 have hz_w2:=nle hz
 have hr_w2:=nle hz.symm
 clear hz
 replace HX:=hE.tr HX
 replace B1:=hE.bl B1
 replace B2:=hE.bl B2
 replace B3:=hE.bl B3
 have hs_w2:=hE.size
 clear hE
 try clear c_B1 f_B1 l_B1
 obtain ⟨c_B1,f_B1,l_B1⟩:=blk3 B1.out
 try clear c_B2 f_B2 l_B2
 obtain ⟨c_B2,f_B2,l_B2⟩:=blk3 B2.out
 try clear c_B3 f_B3 l_B3
 obtain ⟨c_B3,f_B3,l_B3⟩:=blk3 B3.out
 have BO:=Hi hB0
 clear hB0
 obtain ⟨c_BO,f_BO,l_BO⟩:=blk3 BO.out
 go_region
 refine nm_twod B2.out rfl B3.out rfl (by omega) ?_
 intro y3 y4 y5 T3 T4 E5
 have HY:Hid (Ext w y5):=Hi ((T4.ext (T3.ext HX.out (by omega)) (by omega)).trans E5)
 have HO:=Hi (E5.block (T4.rest _ _ (by omega) (T3.rest _ _ (by omega) BO.out)))
 have HA:=Hi (H.out.ext HY.out)
 have C2:=Hi (E5.block (T4.rest _ _ (by omega) T3.bx))
 have C3:=Hi (E5.block T4.bx)
 have c_C2:=blk_cell C2.out
 have c_C3:=blk_cell C3.out
 have f_C2:=blk_frozen C2.out
 have f_C3:=blk_frozen C3.out
 clear T3 T4 E5 c_B1 c_B2 c_B3 f_B1 f_B2 f_B3 c_BO f_BO
 go_wp2
 exact bodyPost_ret (v:=PT (⟨neg,a,n,c,some ⟨w1.heap.size,0,none⟩,1,1⟩,⟨false,b,m,d,some ⟨w1.heap.size,0,none⟩,1,1⟩)) (by simp [results,Tryz.results208,go_sem,PT,c_C2,c_C3]) rfl
  ⟨(⟨neg,a,n,c,some ⟨w1.heap.size,0,none⟩,1,1⟩,⟨false,b,m,d,some ⟨w1.heap.size,0,none⟩,1,1⟩),rfl,HY.out,
   ⟨by rw [Rat.num_intCast];exact HA.out.1,by rw [Rat.num_intCast];exact HA.out.2.1,by rw [Rat.den_intCast];exact pu32_one HO.out⟩,
   ⟨by rw [Rat.num_intCast];exact (decide_eq_false (by omega)).symm,by rw [Rat.num_intCast];exact HA.out.2.2,by rw [Rat.den_intCast];exact pu32_one HO.out⟩⟩
theorem Sz.numz {k:Nat} {q:Rat} (h:Sz k q):Sz k (q.num:Rat):=⟨by rw [Rat.num_intCast];exact h.1,by rw [Rat.den_intCast];exact Nat.one_lt_pow (by have:=h.one_le;omega) (by decide)⟩
theorem pcommon_any (s t:RH) (a b:Rat) (K:Nat) (w:World) (h:CanR w s a) (k:RawR w t b) (ha:Sz K a) (hb:Sz K b) (hK:K≤30000000):Does 236 [s.v,t.v] w RH.v (fun x w'=>CanR w' x (pcmV a b)):=by
 obtain ⟨sneg,sa,sn,sc,sb,sm,sd⟩:=s
 obtain ⟨tneg,ta,tn,tc,tb,tm,td⟩:=t
 have H:=Hi h
 have K2:=Hi k
 have HX:=Hi (Ext.refl w)
 have ZA:=Hi ha
 have ZB:=Hi hb
 clear h k ha hb
 unfold Does
 go_enter Tryz.func236,Tryz.ntmps236
 go_upto_region 1 with fail
 refine nm_alloc3 ?_
 intro w1 hE hB0 hB1 hB2 hz
 have hz_w1:=nle hz
 have hr_w1:=nle hz.symm
 clear hz
 replace HX:=hE.tr HX
 replace H:=Hi (H.out.ext hE)
 replace K2:=Hi (K2.out.ext hE)
 have hs_w1:=hE.size
 clear hE
 have B2:=Hi hB0
 clear hB0
 obtain ⟨c_B2,f_B2,l_B2⟩:=blk3 B2.out
 have B3:=Hi hB1
 clear hB1
 obtain ⟨c_B3,f_B3,l_B3⟩:=blk3 B3.out
 have B4:=Hi hB2
 clear hB2
 obtain ⟨c_B4,f_B4,l_B4⟩:=blk3 B4.out
 go_wp2_with fail
 refine Calls.mono (rsign_any ⟨sneg,sa,sn,sc,sb,sm,sd⟩ a _ (H.out.raw ZA.out (by omega))) ?_
 rintro e w2 ⟨x2,rfl,hE,-⟩
 replace HX:=hE.tr HX
 replace H:=Hi (H.out.ext hE)
 replace K2:=Hi (K2.out.ext hE)
 replace B2:=hE.bl B2
 replace B3:=hE.bl B3
 replace B4:=hE.bl B4
 have hs_w2:=hE.size
 clear hE
 try clear c_B2 f_B2 l_B2
 obtain ⟨c_B2,f_B2,l_B2⟩:=blk3 B2.out
 try clear c_B3 f_B3 l_B3
 obtain ⟨c_B3,f_B3,l_B3⟩:=blk3 B3.out
 try clear c_B4 f_B4 l_B4
 obtain ⟨c_B4,f_B4,l_B4⟩:=blk3 B4.out
 have HZ:=Hi (cmpR_self0 a)
 obtain ⟨cc,hcc⟩:∃ cc,cc=cmpR a 0:=⟨_,rfl⟩
 rw [← hcc] at HZ ⊢
 clear hcc
 by_cases hz:cc=0
 case pos =>
  subst hz
  have HV:Hid (pcmV a b=b.abs):=Hi (by unfold pcmV;rw [if_pos (HZ.out.1 rfl)])
  clear HZ
  go_wp2_with fail
  refine Calls.mono (rabs_any ⟨tneg,ta,tn,tc,tb,tm,td⟩ b _ K2.out) ?_
  rintro e w3 ⟨x3,rfl,hE,g3⟩
  have G3:=Hi g3
  clear g3
  replace HX:=hE.tr HX
  replace H:=Hi (H.out.ext hE)
  replace K2:=Hi (K2.out.ext hE)
  replace B2:=hE.bl B2
  replace B3:=hE.bl B3
  replace B4:=hE.bl B4
  have hs_w3:=hE.size
  clear hE
  try clear c_B2 f_B2 l_B2
  obtain ⟨c_B2,f_B2,l_B2⟩:=blk3 B2.out
  try clear c_B3 f_B3 l_B3
  obtain ⟨c_B3,f_B3,l_B3⟩:=blk3 B3.out
  try clear c_B4 f_B4 l_B4
  obtain ⟨c_B4,f_B4,l_B4⟩:=blk3 B4.out
  go_wp2
  have hF:=((((Fin.start (L:=w.heap.size+2) HX.out (noU_block B4.out rfl)).set (by omega) (i:=0) (v:=.bool x3.neg) rfl).set (by omega) (i:=1) (v:=.slice x3.a x3.n x3.c) rfl).set (by omega) (i:=2) (v:=.slice x3.b x3.m x3.d) rfl)
  exact bodyPost_ret (v:=x3.v) (by simp [results,Tryz.results236,go_sem,blk_cell B4.out]) rfl ⟨x3,rfl,hF.ext,(by rw [HV.out];exact G3.out.keep hF.keep)⟩
 have hzb:(cc == 0)=false:=by simpa using hz
 have Ha0:Hid (a ≠ 0):=Hi (fun h=>hz (HZ.out.2 h))
 clear hz HZ
 by_cases hb0:b=0
 case pos =>
  have HV:Hid (pcmV a b=a):=Hi (by unfold pcmV;rw [if_neg Ha0.out,if_pos hb0])
  have Hb0:=Hi hb0
  clear hb0
  go_wp2_with fail
  refine Calls.mono (rdiv_zero ⟨sneg,sa,sn,sc,sb,sm,sd⟩ ⟨tneg,ta,tn,tc,tb,tm,td⟩ a b _ (H.out.raw ZA.out (by omega)) K2.out Hb0.out) ?_
  rintro e w3 ⟨x3,rfl,hE,-⟩
  replace HX:=hE.tr HX
  replace H:=Hi (H.out.ext hE)
  replace K2:=Hi (K2.out.ext hE)
  replace B2:=hE.bl B2
  replace B3:=hE.bl B3
  replace B4:=hE.bl B4
  have hs_w3:=hE.size
  clear hE
  try clear c_B2 f_B2 l_B2
  obtain ⟨c_B2,f_B2,l_B2⟩:=blk3 B2.out
  try clear c_B3 f_B3 l_B3
  obtain ⟨c_B3,f_B3,l_B3⟩:=blk3 B3.out
  try clear c_B4 f_B4 l_B4
  obtain ⟨c_B4,f_B4,l_B4⟩:=blk3 B4.out
  go_upto_region 4 with fail
  refine nm_alloc ?_
  intro y4 hE hB0 hz
  have hz_y4:=nle hz
  have hr_y4:=nle hz.symm
  clear hz
  replace HX:=hE.tr HX
  replace H:=Hi (H.out.ext hE)
  replace K2:=Hi (K2.out.ext hE)
  replace B2:=hE.bl B2
  replace B3:=hE.bl B3
  replace B4:=hE.bl B4
  have hs_y4:=hE.size
  clear hE
  try clear c_B2 f_B2 l_B2
  obtain ⟨c_B2,f_B2,l_B2⟩:=blk3 B2.out
  try clear c_B3 f_B3 l_B3
  obtain ⟨c_B3,f_B3,l_B3⟩:=blk3 B3.out
  try clear c_B4 f_B4 l_B4
  obtain ⟨c_B4,f_B4,l_B4⟩:=blk3 B4.out
  have B5:=Hi hB0
  clear hB0
  obtain ⟨c_B5,f_B5,l_B5⟩:=blk3 B5.out
  go_wp2
  have hF:=((((Fin.start (L:=w.heap.size+2) HX.out (noU_block B4.out rfl)).set (by omega) (i:=0) (v:=.bool (⟨sneg,sa,sn,sc,sb,sm,sd⟩:RH).neg) rfl).set (by omega) (i:=1) (v:=.slice (⟨sneg,sa,sn,sc,sb,sm,sd⟩:RH).a (⟨sneg,sa,sn,sc,sb,sm,sd⟩:RH).n (⟨sneg,sa,sn,sc,sb,sm,sd⟩:RH).c) rfl).set (by omega) (i:=2) (v:=.slice (⟨sneg,sa,sn,sc,sb,sm,sd⟩:RH).b (⟨sneg,sa,sn,sc,sb,sm,sd⟩:RH).m (⟨sneg,sa,sn,sc,sb,sm,sd⟩:RH).d) rfl)
  exact bodyPost_ret (v:=(⟨sneg,sa,sn,sc,sb,sm,sd⟩:RH).v) (by simp [results,Tryz.results236,go_sem,blk_cell B4.out]) rfl ⟨(⟨sneg,sa,sn,sc,sb,sm,sd⟩:RH),rfl,hF.ext,(by rw [HV.out];exact H.out.keep hF.keep)⟩
 have Hb0:=Hi hb0
 clear hb0
 obtain ⟨q,hq⟩:∃ q,q=a / b:=⟨_,rfl⟩
 have Hq0:Hid (q ≠ 0):=Hi (fun h=>by
  have h1:=pd_div (a:=a) Hb0.out
  rw [← hq,h] at h1
  exact Ha0.out (by rw [← h1];grind))
 have ZQ:Hid (Sz (K+K) q):=Hi (by rw [hq];exact ZA.out.div ZB.out)
 have HV:Hid (pcmV a b=(a / (q.num:Rat)).abs):=Hi (by unfold pcmV;rw [if_neg Ha0.out,if_neg Hb0.out,← hq])
 go_wp2_with fail
 refine Calls.mono (rdiv_any ⟨sneg,sa,sn,sc,sb,sm,sd⟩ ⟨tneg,ta,tn,tc,tb,tm,td⟩ a b _ (H.out.raw ZA.out (by omega)) K2.out Hb0.out) ?_
 rintro e w3 ⟨x3,rfl,hE,g3⟩
 have G3:=Hi g3
 clear g3
 replace HX:=hE.tr HX
 replace H:=Hi (H.out.ext hE)
 replace K2:=Hi (K2.out.ext hE)
 replace B2:=hE.bl B2
 replace B3:=hE.bl B3
 replace B4:=hE.bl B4
 have hs_w3:=hE.size
 clear hE
 try clear c_B2 f_B2 l_B2
 obtain ⟨c_B2,f_B2,l_B2⟩:=blk3 B2.out
 try clear c_B3 f_B3 l_B3
 obtain ⟨c_B3,f_B3,l_B3⟩:=blk3 B3.out
 try clear c_B4 f_B4 l_B4
 obtain ⟨c_B4,f_B4,l_B4⟩:=blk3 B4.out
 rw [← hq] at G3
 clear hq
 go_upto_region 4 with fail
 refine nm_alloc ?_
 intro y4 hE hB0 hz
 have hz_y4:=nle hz
 have hr_y4:=nle hz.symm
 clear hz
 replace HX:=hE.tr HX
 replace H:=Hi (H.out.ext hE)
 replace K2:=Hi (K2.out.ext hE)
 replace B2:=hE.bl B2
 replace B3:=hE.bl B3
 replace B4:=hE.bl B4
 replace G3:=Hi (G3.out.ext hE)
 have hs_y4:=hE.size
 clear hE
 try clear c_B2 f_B2 l_B2
 obtain ⟨c_B2,f_B2,l_B2⟩:=blk3 B2.out
 try clear c_B3 f_B3 l_B3
 obtain ⟨c_B3,f_B3,l_B3⟩:=blk3 B3.out
 try clear c_B4 f_B4 l_B4
 obtain ⟨c_B4,f_B4,l_B4⟩:=blk3 B4.out
 have B5:=Hi hB0
 clear hB0
 obtain ⟨c_B5,f_B5,l_B5⟩:=blk3 B5.out
 go_wp2_with fail
 refine Calls.mono (pparts_any x3 q _ G3.out) ?_
 rintro e w5 ⟨x5,rfl,hE,g5⟩
 have G5:=Hi g5
 clear g5
 replace HX:=hE.tr HX
 replace H:=Hi (H.out.ext hE)
 replace K2:=Hi (K2.out.ext hE)
 replace B2:=hE.bl B2
 replace B3:=hE.bl B3
 replace B4:=hE.bl B4
 replace G3:=Hi (G3.out.ext hE)
 replace B5:=hE.bl B5
 have hs_w5:=hE.size
 clear hE
 try clear c_B2 f_B2 l_B2
 obtain ⟨c_B2,f_B2,l_B2⟩:=blk3 B2.out
 try clear c_B3 f_B3 l_B3
 obtain ⟨c_B3,f_B3,l_B3⟩:=blk3 B3.out
 try clear c_B4 f_B4 l_B4
 obtain ⟨c_B4,f_B4,l_B4⟩:=blk3 B4.out
 try clear c_B5 f_B5 l_B5
 obtain ⟨c_B5,f_B5,l_B5⟩:=blk3 B5.out
 obtain ⟨x5,x6⟩:=x5
 have G5a:=Hi G5.out.1
 have G5b:=Hi G5.out.2
 clear G5
 simp only [PT]
 go_upto_region 7 with fail
 refine nm_alloc2 ?_
 intro y6 hE hB0 hB1 hz
 have hz_y6:=nle hz
 have hr_y6:=nle hz.symm
 clear hz
 replace HX:=hE.tr HX
 replace H:=Hi (H.out.ext hE)
 replace K2:=Hi (K2.out.ext hE)
 replace B2:=hE.bl B2
 replace B3:=hE.bl B3
 replace B4:=hE.bl B4
 replace G3:=Hi (G3.out.ext hE)
 replace B5:=hE.bl B5
 replace G5a:=Hi (G5a.out.ext hE)
 replace G5b:=Hi (G5b.out.ext hE)
 have hs_y6:=hE.size
 clear hE
 try clear c_B2 f_B2 l_B2
 obtain ⟨c_B2,f_B2,l_B2⟩:=blk3 B2.out
 try clear c_B3 f_B3 l_B3
 obtain ⟨c_B3,f_B3,l_B3⟩:=blk3 B3.out
 try clear c_B4 f_B4 l_B4
 obtain ⟨c_B4,f_B4,l_B4⟩:=blk3 B4.out
 try clear c_B5 f_B5 l_B5
 obtain ⟨c_B5,f_B5,l_B5⟩:=blk3 B5.out
 have B7:=Hi hB0
 clear hB0
 obtain ⟨c_B7,f_B7,l_B7⟩:=blk3 B7.out
 have B8:=Hi hB1
 clear hB1
 obtain ⟨c_B8,f_B8,l_B8⟩:=blk3 B8.out
 go_wp2_with fail
 refine Calls.mono (rdiv_any ⟨sneg,sa,sn,sc,sb,sm,sd⟩ x5 a (q.num:Rat) _ (H.out.raw ZA.out (by omega)) (G5a.out.raw ZQ.out.numz (by omega)) (num_ne Hq0.out)) ?_
 rintro e w7 ⟨x7,rfl,hE,g7⟩
 have G7:=Hi g7
 clear g7
 replace HX:=hE.tr HX
 replace H:=Hi (H.out.ext hE)
 replace K2:=Hi (K2.out.ext hE)
 replace B2:=hE.bl B2
 replace B3:=hE.bl B3
 replace B4:=hE.bl B4
 replace G3:=Hi (G3.out.ext hE)
 replace B5:=hE.bl B5
 replace G5a:=Hi (G5a.out.ext hE)
 replace G5b:=Hi (G5b.out.ext hE)
 replace B7:=hE.bl B7
 replace B8:=hE.bl B8
 have hs_w7:=hE.size
 clear hE
 try clear c_B2 f_B2 l_B2
 obtain ⟨c_B2,f_B2,l_B2⟩:=blk3 B2.out
 try clear c_B3 f_B3 l_B3
 obtain ⟨c_B3,f_B3,l_B3⟩:=blk3 B3.out
 try clear c_B4 f_B4 l_B4
 obtain ⟨c_B4,f_B4,l_B4⟩:=blk3 B4.out
 try clear c_B5 f_B5 l_B5
 obtain ⟨c_B5,f_B5,l_B5⟩:=blk3 B5.out
 try clear c_B7 f_B7 l_B7
 obtain ⟨c_B7,f_B7,l_B7⟩:=blk3 B7.out
 try clear c_B8 f_B8 l_B8
 obtain ⟨c_B8,f_B8,l_B8⟩:=blk3 B8.out
 go_upto_region 8 with fail
 refine nm_alloc ?_
 intro y8 hE hB0 hz
 have hz_y8:=nle hz
 have hr_y8:=nle hz.symm
 clear hz
 replace HX:=hE.tr HX
 replace H:=Hi (H.out.ext hE)
 replace K2:=Hi (K2.out.ext hE)
 replace B2:=hE.bl B2
 replace B3:=hE.bl B3
 replace B4:=hE.bl B4
 replace G3:=Hi (G3.out.ext hE)
 replace B5:=hE.bl B5
 replace G5a:=Hi (G5a.out.ext hE)
 replace G5b:=Hi (G5b.out.ext hE)
 replace B7:=hE.bl B7
 replace B8:=hE.bl B8
 replace G7:=Hi (G7.out.ext hE)
 have hs_y8:=hE.size
 clear hE
 try clear c_B2 f_B2 l_B2
 obtain ⟨c_B2,f_B2,l_B2⟩:=blk3 B2.out
 try clear c_B3 f_B3 l_B3
 obtain ⟨c_B3,f_B3,l_B3⟩:=blk3 B3.out
 try clear c_B4 f_B4 l_B4
 obtain ⟨c_B4,f_B4,l_B4⟩:=blk3 B4.out
 try clear c_B5 f_B5 l_B5
 obtain ⟨c_B5,f_B5,l_B5⟩:=blk3 B5.out
 try clear c_B7 f_B7 l_B7
 obtain ⟨c_B7,f_B7,l_B7⟩:=blk3 B7.out
 try clear c_B8 f_B8 l_B8
 obtain ⟨c_B8,f_B8,l_B8⟩:=blk3 B8.out
 have B9:=Hi hB0
 clear hB0
 obtain ⟨c_B9,f_B9,l_B9⟩:=blk3 B9.out
 go_wp2_with fail
 refine Calls.mono (rabs_any x7 _ _ (G7.out.raw (ZA.out.div ZQ.out.numz) (by omega))) ?_
 rintro e w9 ⟨x9,rfl,hE,g9⟩
 have G9:=Hi g9
 clear g9
 replace HX:=hE.tr HX
 replace H:=Hi (H.out.ext hE)
 replace K2:=Hi (K2.out.ext hE)
 replace B2:=hE.bl B2
 replace B3:=hE.bl B3
 replace B4:=hE.bl B4
 replace G3:=Hi (G3.out.ext hE)
 replace B5:=hE.bl B5
 replace G5a:=Hi (G5a.out.ext hE)
 replace G5b:=Hi (G5b.out.ext hE)
 replace B7:=hE.bl B7
 replace B8:=hE.bl B8
 replace G7:=Hi (G7.out.ext hE)
 replace B9:=hE.bl B9
 have hs_w9:=hE.size
 clear hE
 try clear c_B2 f_B2 l_B2
 obtain ⟨c_B2,f_B2,l_B2⟩:=blk3 B2.out
 try clear c_B3 f_B3 l_B3
 obtain ⟨c_B3,f_B3,l_B3⟩:=blk3 B3.out
 try clear c_B4 f_B4 l_B4
 obtain ⟨c_B4,f_B4,l_B4⟩:=blk3 B4.out
 try clear c_B5 f_B5 l_B5
 obtain ⟨c_B5,f_B5,l_B5⟩:=blk3 B5.out
 try clear c_B7 f_B7 l_B7
 obtain ⟨c_B7,f_B7,l_B7⟩:=blk3 B7.out
 try clear c_B8 f_B8 l_B8
 obtain ⟨c_B8,f_B8,l_B8⟩:=blk3 B8.out
 try clear c_B9 f_B9 l_B9
 obtain ⟨c_B9,f_B9,l_B9⟩:=blk3 B9.out
 go_wp2
 have hF:=((((Fin.start (L:=w.heap.size+2) HX.out (noU_block B4.out rfl)).set (by omega) (i:=0) (v:=.bool x9.neg) rfl).set (by omega) (i:=1) (v:=.slice x9.a x9.n x9.c) rfl).set (by omega) (i:=2) (v:=.slice x9.b x9.m x9.d) rfl)
 exact bodyPost_ret (v:=x9.v) (by simp [results,Tryz.results236,go_sem,blk_cell B4.out]) rfl ⟨x9,rfl,hF.ext,(by rw [HV.out];exact G9.out.keep hF.keep)⟩
structure Mut (L:Nat) (w w':World):Prop where
 keep:Keep w w'
 mods:Mods (·=L) w w'
theorem Mut.refl (L:Nat) (w:World):Mut L w w:=⟨Keep.refl w,Mods.refl _ w⟩
theorem Mut.of_ext {L:Nat} {w w':World} (h:Ext w w'):Mut L w w':=⟨keep_ext h,Mods.of_ext h⟩
theorem Mut.trans {L:Nat} {a b c:World} (h:Mut L a b) (k:Mut L b c):Mut L a c:=⟨h.keep.trans k.keep,h.mods.trans k.mods⟩
theorem Mut.put {L b:Nat} {w w1 w2:World} {T:TypeId} {cs:Array Value} (h:Mut L w w1) (T2:PutB w1 b T cs w2) (hb:b=L ∨ w.heap.size≤b):Mut L w w2:=⟨h.keep.trans T2.keep,Mods.put h.mods T2 hb⟩
theorem Mut.rest {L:Nat} {w w':World} (h:Mut L w w') (k:Nat) (o:Obj) (hk:k ≠ L) (ho:w.heap[k]?=some o):w'.heap[k]?=some o:=h.mods.blk hk ho
theorem Mut.size {L:Nat} {w w':World} (h:Mut L w w'):w.heap.size≤w'.heap.size:=h.mods.size
theorem Mut.ext {L:Nat} {w0 w w':World} (h:Mut L w w') (hE:Ext w0 w) (hL:w0.heap.size≤L):Ext w0 w' :=
 Ext.of_below (N:=w0.heap.size) hE (h.mods.below hE.size fun k hk=>by have hk:k=L:=hk;omega) (Nat.le_refl _)
theorem RowC.mut {w w':World} {L M:Nat} {os:List Rat} (h:RowC w L os) (T:Mut M w w') (hb:M ≠ L):RowC w' L os:=by
 obtain ⟨rs,re,h1,h0,h2⟩:=h
 exact ⟨rs,re,T.rest L _ (Ne.symm hb) h1,h0,h2.keep T.keep⟩
theorem RS.mut {w w':World} {M lo hi:Nat} {s:SH} {rs:List RH} (h:RS w s rs) (hp:s.n=0 ∨ ∃ b off,s.a=some ⟨b,off,none⟩∧lo≤b∧b < hi) (T:Mut M w w') (hb:M < lo ∨ hi≤M):RS w' s rs:=by
 refine ⟨h.len,h.le,h.max,?_⟩
 rcases hp with h0 | ⟨x,o,e,h1,h2⟩
 ·exact Or.inl h0
 ·rcases h.at' with h0 | ⟨b,off,e2,hc⟩
  ·exact Or.inl h0
  ·rw [e] at e2
   obtain ⟨rfl,rfl⟩:x=b∧o=off:=by simpa using e2
   refine Or.inr ⟨x,o,e,fun k hk=>?_⟩
   have h3:=hc k hk
   have hl:=World.block_lt_of_cell? _ _ h3.1
   simp only at hl
   have hbk:w'.heap[x]?=w.heap[x]?:=by
    rw [Array.getElem?_eq_getElem hl]
    exact T.rest x _ (by omega) (Array.getElem?_eq_getElem hl)
   have cc:∀ i,w'.cell? ⟨x,i,none⟩=w.cell? ⟨x,i,none⟩:=fun i=>World.cell?_of_block (w:=w) hbk
   exact ⟨(cc _).trans h3.1,(cc _).trans h3.2.1,(cc _).trans h3.2.2⟩
theorem LIn.mut {w w':World} {M lo hi:Nat} {s:SH} {qs:List Rat} (h:LIn w s qs lo hi) (T:Mut M w w') (hb:M < lo ∨ hi≤M):LIn w' s qs lo hi:=by
 obtain ⟨rs,h1,h2,h3⟩:=h
 exact ⟨rs,h1.mut h3 T hb,h2.keep T.keep,h3⟩
theorem mul_step {os:List Rat} {q:Rat} {i:Nat} (hi:i < os.length):(mulR os i q).set i (os.getD i 0 * q)=mulR os (i+1) q:=by
 unfold mulR
 have h1:((os.take i).map (· * q)).length=i:=by rw [List.length_map,List.length_take];omega
 rw [List.set_append_right _ _ (by omega),h1,Nat.sub_self,List.take_add_one,List.map_append,List.append_assoc]
 congr 1
 rw [List.drop_eq_getElem_cons hi,List.set_cons_zero,List.getElem?_eq_getElem hi,List.getD_eq_getElem?_getD,List.getElem?_eq_getElem hi]
 rfl
theorem pmul_any (L n cp:Nat) (os:List Rat) (t:RH) (q:Rat) (S U:Nat) (w:World) (h:RowC w L os) (hn:n≤os.length) (ht:CanR w t q) (hM:os.length≤1000000) (hz:SzL S (os.take n)) (hzq:Sz U q) (hSU:S≤60000000∧U≤60000000) :
  Calls Tryz.prog 242 #[.slice (some ⟨L,0,none⟩) n cp,t.v] w (fun e w'=>e=.returned (.tuple #[])∧Mut L w w'∧RowC w' L (mulR os n q)):=by
 obtain ⟨tn,ta,tl,tc,tb,tm,td⟩:=t
 have HX:=Hi (Mut.refl L w)
 have HR:=Hi h
 have HT:=Hi ht
 have HZ:=Hi hz
 have ZQ:=Hi hzq
 have hLw:=h.lt
 clear h ht hz hzq
 go_enter Tryz.func242,Tryz.ntmps242
 go_upto_region 1 with fail
 refine nm_alloc ?_
 intro w1 hE hB0 hz
 have hz_w1:=nle hz
 have hr_w1:=nle hz.symm
 clear hz
 replace HX:=Hi (Mut.trans HX.out (Mut.of_ext hE))
 replace HR:=Hi (HR.out.ext hE)
 replace HT:=Hi (HT.out.ext hE)
 have hs_w1:=hE.size
 clear hE
 have B3:=Hi hB0
 clear hB0
 obtain ⟨c_B3,f_B3,l_B3⟩:=blk3 B3.out
 obtain ⟨b3,hb3⟩:∃ b3,b3=w.heap.size:=⟨_,rfl⟩
 have hbw:w.heap.size≤b3:=by omega
 rw [← hb3] at B3 ⊢
 clear hb3 c_B3 f_B3 l_B3
 go_wp2
 go_loopg [7] n (fun g v wr=>∃ (i:Nat),i+g=n∧v=.int .i64 (i:Nat)∧Mut L w wr∧CanR wr ⟨tn,ta,tl,tc,tb,tm,td⟩ q∧wr.heap[b3]?=some (.cells #[.bool tn,.slice ta tl tc,.slice tb tm td] 30 (0,0))∧RowC wr L (mulR os i q))
 case atStart=>exact ⟨0,by omega,rfl,HX.out,HT.out,B3.out,by simpa [mulR] using HR.out⟩
 case round =>
  obtain ⟨i,hi,rfl,g1,g2,g3,g4⟩:=hrel
  clear HX HR HT B3
  have HX:=Hi g1
  have HT:=Hi g2
  have B3:=Hi g3
  have HR:=Hi g4
  clear g1 g2 g3 g4
  try clear c_B3 f_B3 l_B3
  obtain ⟨c_B3,f_B3,l_B3⟩:=blk3 B3.out
  by_cases h0:gk=0
  case neg =>
   have hin:(i:Int) < n:=by omega
   have HL:Hid ((mulR os i q).length=os.length):=Hi (by unfold mulR;rw [List.length_append,List.length_map,List.length_take,List.length_drop];omega)
   have HV:Hid ((mulR os i q).getD i 0=os.getD i 0):=Hi (by
    unfold mulR
    have h1:((os.take i).map (· * q)).length=i:=by rw [List.length_map,List.length_take];omega
    rw [List.getD_eq_getElem?_getD,List.getElem?_append_right (by omega),h1,Nat.sub_self,List.getElem?_drop,Nat.add_zero,← List.getD_eq_getElem?_getD])
   obtain ⟨r,⟨f1,f2,f3⟩,hrc⟩:=RowC.cells HR.out (k:=i) (by rw [HL.out];omega)
   rw [HV.out] at hrc
   have HRC:=Hi hrc
   clear hrc
   have hfz:=RowC.frozen HR.out
   have hLl:=RowC.lt HR.out
   have Zi:Hid (Sz S (os.getD i 0)):=Hi (by have:=HZ.out.at (i:=i) (by rw [List.length_take];omega);rwa [getD_take (by omega)] at this)
   obtain ⟨rn,ra,rl,rc,rb,rm,rd⟩:=r
   simp only at f1 f2 f3
   go_upto_region 4 with fail
   refine wp_region_front 8 (fun opIx=>match opIx with
    | 7=>.spec RH default RH.v (fun s w'=>CanR w' s (os.getD i 0 * q))
    | _=>.quiet) (fun _=>[]) (by kernel_rfl) (by kernel_rfl) (fun w0 he0 hz0 hc0 hf0=>?_)
   replace he0:=Hi he0
   simp only [pT]
   repeat (refine wpq fun K h=>?_;go_big_quiet_op;refine h _ ?_;clear h K)
   refine wps he0.out rfl rfl (fun w1 hW hG=>?_) fun x7=>?_
   ·exact spc [RH.v ⟨rn,ra,rl,rc,rb,rm,rd⟩,RH.v ⟨tn,ta,tl,tc,tb,tm,td⟩] Tryz.func114 (rmul_any _ _ _ _ _ ((HRC.out.ext hW).raw Zi.out (by omega)) ((HT.out.ext hW).raw ZQ.out (by omega)))
   simp only [pS]
   repeat (refine wpq fun K h=>?_;go_big_quiet_op;refine h _ ?_;clear h K)
   refine wpF_nil ?_
   intro w5 hI
   have hE:=he0.out.trans hI.ext
   have G7:=Hi ((hI.facts 7:Since _ _).get fun _ e g=>g.ext e)
   clear hI he0 hz0 hc0 hf0
   replace HX:=Hi (Mut.trans HX.out (Mut.of_ext hE))
   replace HT:=Hi (HT.out.ext hE)
   replace B3:=hE.bl B3
   replace HR:=Hi (HR.out.ext hE)
   have hs_w5:=hE.size
   clear hE
   try clear c_B3 f_B3 l_B3
   obtain ⟨c_B3,f_B3,l_B3⟩:=blk3 B3.out
   simp only [pD]
   clear f1 f2 f3 hfz hLl
   obtain ⟨r2,⟨f1,f2,f3⟩,-⟩:=RowC.cells HR.out (k:=i) (by rw [HL.out];omega)
   have hfz:=RowC.frozen HR.out
   go_upto_region 5 with fail
   refine nm_row (k:=i) HR.out (by rw [HL.out];omega) G7.out ?_
   rintro y6 ⟨cs,T⟩ TN
   rw [mul_step (by omega)] at TN
   clear f1 f2 f3 hfz HL HV
   clear HR
   replace HX:=Hi (Mut.put HX.out T (by first | exact Or.inl rfl | exact Or.inr (by omega)))
   replace HT:=Hi (HT.out.keep T.keep)
   replace B3:=Hi (T.rest _ _ (by omega) B3.out)
   replace G7:=Hi (G7.out.keep T.keep)
   have hs_y6:=nle T.size
   have hr_y6:=nle T.size.symm
   clear T
   try clear c_B3 f_B3 l_B3
   obtain ⟨c_B3,f_B3,l_B3⟩:=blk3 B3.out
   have HR:=Hi TN
   clear TN
   go_wp2
   go_roundg (gk - 1)
   case measure=>omega
   case rel=>exact ⟨i+1,by omega,by go_num,HX.out,HT.out,B3.out,HR.out⟩
  subst h0
  obtain rfl:i=n:=by omega
  have hin:¬ (i:Int) < i:=by omega
  go_wp2
  exact bodyPost_end (results_none rfl _ _ _) rfl ⟨rfl,HX.out,HR.out⟩
end Go.Proofs.YtpieblkklbilgaaGreat
