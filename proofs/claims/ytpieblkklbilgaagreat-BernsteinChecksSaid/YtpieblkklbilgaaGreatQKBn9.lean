/- Package bernstein: extremes, Range, Coefficients. -/
import Derived.Test.YtpieblkklbilgaaGreatQKBn5
import Derived.Test.YtpieblkklbilgaaGreatQKBn7
import Derived.Deep.DeepCutAuto
set_option linter.unusedVariables false
namespace Go.Proofs.YtpieblkklbilgaaGreat
open Go.RowKit Go.Front Go.Num Stab
attribute [local go_sem] XW.cell XW.frozen
def mnF (m x:Rat):Rat:=if x < m then x else m
def mxF (m x:Rat):Rat:=if m < x then x else m
def mnA (l:List Rat) (j:Nat):Rat:=(l.take j).foldl mnF (l.getD 0 0)
def mxA (l:List Rat) (j:Nat):Rat:=(l.take j).foldl mxF (l.getD 0 0)
def mnL (l:List Rat):Rat:=l.foldl mnF (l.getD 0 0)
def mxL (l:List Rat):Rat:=l.foldl mxF (l.getD 0 0)
theorem mnA_step {l:List Rat} {j:Nat} (h:j < l.length):mnA l (j+1)=mnF (mnA l j) (l.getD j 0):=by
 unfold mnA;rw [← take_snoc h,List.foldl_append];rfl
theorem mxA_step {l:List Rat} {j:Nat} (h:j < l.length):mxA l (j+1)=mxF (mxA l j) (l.getD j 0):=by
 unfold mxA;rw [← take_snoc h,List.foldl_append];rfl
theorem mnA_all {l:List Rat} {j:Nat} (h:l.length≤j):mnA l j=mnL l:=by unfold mnA mnL;rw [List.take_of_length_le h]
theorem mxA_all {l:List Rat} {j:Nat} (h:l.length≤j):mxA l j=mxL l:=by unfold mxA mxL;rw [List.take_of_length_le h]
theorem mA_mem {l:List Rat} (h:l ≠ []) (j:Nat) (hj:j≤l.length):mnA l j ∈ l∧mxA l j ∈ l:=by
 have hl:=List.length_pos_iff.2 h
 have hm:∀ k,k < l.length→l.getD k 0 ∈ l:=fun k hk=>by rw [List.getD_eq_getElem?_getD,List.getElem?_eq_getElem hk];exact List.getElem_mem hk
 induction j with
 | zero=>exact ⟨hm 0 hl,hm 0 hl⟩
 | succ j ih =>
  have ih:=ih (by omega)
  rw [mnA_step (by omega),mxA_step (by omega)]
  unfold mnF mxF
  constructor
  ·split
   ·exact hm j (by omega)
   ·exact ih.1
  ·split
   ·exact hm j (by omega)
   ·exact ih.2
theorem mA_le {l:List Rat} (j:Nat) (hj:j≤l.length):∀ k,k < j→mnA l j≤l.getD k 0∧l.getD k 0≤mxA l j:=by
 induction j with
 | zero=>intro k hk;omega
 | succ j ih =>
  intro k hk
  rw [mnA_step (by omega),mxA_step (by omega)]
  by_cases h:k=j
  ·subst h
   unfold mnF mxF
   constructor <;> split <;> grind
  ·have h1:=ih (by omega) k (by omega)
   unfold mnF mxF
   constructor <;> split <;> grind
theorem mnL_mem {l:List Rat} (h:l ≠ []):mnL l ∈ l∧mxL l ∈ l:=by
 have:=mA_mem h l.length (Nat.le_refl _)
 rwa [mnA_all (Nat.le_refl _),mxA_all (Nat.le_refl _)] at this
theorem mnL_le {l:List Rat} {k:Nat} (hk:k < l.length):mnL l≤l.getD k 0∧l.getD k 0≤mxL l:=by
 have:=mA_le (l:=l) l.length (Nat.le_refl _) k hk
 rwa [mnA_all (Nat.le_refl _),mxA_all (Nat.le_refl _)] at this
theorem cmpR_lt0 {a b:Rat}:cmpR a b < 0↔a < b:=by
 unfold cmpR
 constructor
 ·intro h
  split at h
  ·assumption
  ·split at h <;> omega
 ·intro h;rw [if_pos h];decide
theorem cmpR_gt0 {a b:Rat}:0 < cmpR a b↔b < a:=by
 constructor
 ·intro h
  by_cases h2:b < a
  ·exact h2
  ·have:=cmpR_le h2;omega
 ·intro h;rw [cmpR_gt h];decide
set_option maxRecDepth 8000 in
set_option maxHeartbeats 8000000 in
theorem bext_any (ao:Option Addr) (n cap:Nat) (l:List Rat) (S:Nat) (w:World) (h:CanL w ⟨ao,n,cap⟩ l) (hn:n≤1000) (hz:SzL S l) (hS:S≤10000000) :
  Does 110 [.slice ao n cap] w PT (fun x w'=>IvC w' x (mnL l) (mxL l)):=by
 have H:=Hi h
 have HX:=Hi (Ext.refl w)
 have hle:=h.le
 have hmx:=h.max
 have Hlen:=Hi h.len
 simp only at hle hmx Hlen
 have HZ:=Hi hz
 clear h hz
 unfold Does
 go_enter Tryz.func110,Tryz.ntmps110
 go_upto_region 1 with fail
 refine nm_alloc2 ?_
 intro w1 hE hB0 hB1 hz
 have hz_w1:=nle hz
 have hr_w1:=nle hz.symm
 clear hz
 replace HX:=hE.tr HX
 have hs_w1:=hE.size
 clear hE
 have B2:=Hi hB0
 clear hB0
 obtain ⟨c_B2,f_B2,l_B2⟩:=blk3 B2.out
 have B3:=Hi hB1
 clear hB1
 obtain ⟨c_B3,f_B3,l_B3⟩:=blk3 B3.out
 by_cases h0:n=0
 case pos =>
  subst h0
  have HV:Hid (mnL l=0∧mxL l=0):=Hi (by rw [List.length_eq_zero_iff.1 Hlen.out];exact ⟨rfl,rfl⟩)
  go_wp2_with fail
  refine Calls.mono (rof_any 0 _ (by decide) (by decide)) ?_
  rintro e w11 ⟨x11,rfl,hE,g11⟩
  have G11:=Hi g11
  clear g11
  replace HX:=hE.tr HX
  replace B2:=hE.bl B2
  replace B3:=hE.bl B3
  have hs_w11:=hE.size
  clear hE
  try clear c_B2 f_B2 l_B2
  obtain ⟨c_B2,f_B2,l_B2⟩:=blk3 B2.out
  try clear c_B3 f_B3 l_B3
  obtain ⟨c_B3,f_B3,l_B3⟩:=blk3 B3.out
  go_wp2_with fail
  refine Calls.mono (rof_any 0 _ (by decide) (by decide)) ?_
  rintro e w12 ⟨x12,rfl,hE,g12⟩
  have G12:=Hi g12
  clear g12
  replace HX:=hE.tr HX
  replace B2:=hE.bl B2
  replace B3:=hE.bl B3
  replace G11:=Hi (G11.out.ext hE)
  have hs_w12:=hE.size
  clear hE
  try clear c_B2 f_B2 l_B2
  obtain ⟨c_B2,f_B2,l_B2⟩:=blk3 B2.out
  try clear c_B3 f_B3 l_B3
  obtain ⟨c_B3,f_B3,l_B3⟩:=blk3 B3.out
  go_wp2
  refine nm_two B2.out rfl B3.out rfl (by omega) ?_
  intro y9 y10 T T4
  replace HX:=Hi (T.ext HX.out (by omega))
  replace B2:=Hi (T.bx)
  replace B3:=Hi (T.rest _ _ (by omega) B3.out)
  replace G11:=Hi (G11.out.keep T.keep)
  replace G12:=Hi (G12.out.keep T.keep)
  have hs_y9:=nle T.size
  have hr_y9:=nle T.size.symm
  clear T
  try clear c_B2 f_B2 l_B2
  obtain ⟨c_B2,f_B2,l_B2⟩:=blk3 B2.out
  try clear c_B3 f_B3 l_B3
  obtain ⟨c_B3,f_B3,l_B3⟩:=blk3 B3.out
  have T:=T4
  clear T4
  replace HX:=Hi (T.ext HX.out (by omega))
  replace B2:=Hi (T.rest _ _ (by omega) B2.out)
  replace B3:=Hi (T.bx)
  replace G11:=Hi (G11.out.keep T.keep)
  replace G12:=Hi (G12.out.keep T.keep)
  have hs_y10:=nle T.size
  have hr_y10:=nle T.size.symm
  clear T
  try clear c_B2 f_B2 l_B2
  obtain ⟨c_B2,f_B2,l_B2⟩:=blk3 B2.out
  try clear c_B3 f_B3 l_B3
  obtain ⟨c_B3,f_B3,l_B3⟩:=blk3 B3.out
  exact bodyPost_ret (v:=PT (x11,x12)) (by simp [results,Tryz.results110,go_sem,PT,blk_cell B2.out,blk_cell B3.out]) rfl ⟨(x11,x12),rfl,HX.out,by rw [HV.out.1,HV.out.2];exact ⟨G11.out,G12.out⟩⟩
 have hn0:¬ (n:Int)=0:=by omega
 have hnI:(0:Int) < n:=by omega
 obtain ⟨b,off,r,hao,hbl,⟨hc1,hc2,hc3⟩,hP⟩:=(H.out.ext HX.out).lin.celx (k:=0) (by omega)
 obtain ⟨rneg,ra,rn,rc,rb,rm,rd⟩:=r
 simp only [Nat.zero_mul,Nat.add_zero] at hc1 hc2 hc3
 subst hao
 have RP:=Hi hP
 clear hP
 have hnb:((n:Int) == 0)=false:=by rw [beq_eq_false_iff_ne];exact hn0
 go_upto_region 3 with fail
 go_cut [4,5] (fun p q wr=>∃ (b4 b5:Nat),p=.pointer (some ⟨b4,0,none⟩)∧q=.pointer (some ⟨b5,0,none⟩)∧Ext w1 wr∧w1.heap.size≤b4∧w1.heap.size≤b5∧b5 ≠ b4∧wr.heap[b4]?=some (.cells #[.bool rneg,.slice ra rn rc,.slice rb rm rd] 30 (0,0))∧wr.heap[b5]?=some (.cells #[.bool rneg,.slice ra rn rc,.slice rb rm rd] 30 (0,0)))
 case first =>
  have h1:(w1.alloc (.cells #[.bool rneg,.slice ra rn rc,.slice rb rm rd] 30)).heap[w1.heap.size]?=some (.cells #[.bool rneg,.slice ra rn rc,.slice rb rm rd] 30 (0,0)):=heap_alloc_new _ _
  have h2:((w1.alloc (.cells #[.bool rneg,.slice ra rn rc,.slice rb rm rd] 30)).alloc (.cells #[.bool rneg,.slice ra rn rc,.slice rb rm rd] 30)).heap[w1.heap.size]?=some (.cells #[.bool rneg,.slice ra rn rc,.slice rb rm rd] 30 (0,0)):=(Ext.alloc _ _).block h1
  have h3:((w1.alloc (.cells #[.bool rneg,.slice ra rn rc,.slice rb rm rd] 30)).alloc (.cells #[.bool rneg,.slice ra rn rc,.slice rb rm rd] 30)).heap[w1.heap.size+1]?=some (.cells #[.bool rneg,.slice ra rn rc,.slice rb rm rd] 30 (0,0)):=by
   have:=heap_alloc_new (w1.alloc (.cells #[.bool rneg,.slice ra rn rc,.slice rb rm rd] 30)) (.cells #[.bool rneg,.slice ra rn rc,.slice rb rm rd] 30)
   rw [World.size_alloc] at this
   exact this
  have hE:Ext w1 ((w1.alloc (.cells #[.bool rneg,.slice ra rn rc,.slice rb rm rd] 30)).alloc (.cells #[.bool rneg,.slice ra rn rc,.slice rb rm rd] 30)).drew:=(Ext.alloc _ _).trans ((Ext.alloc _ _).trans (Ext.drew _))
  have H2:=Hi h2
  have H3:=Hi h3
  have HE:=Hi hE
  clear h1 h2 h3 hE
  go_region
  all_goals go_wp2_with fail
  all_goals go_meet
  all_goals first | exact ⟨w1.heap.size,w1.heap.size+1,rfl,rfl,HE.out,Nat.le_refl _,Nat.le_succ _,by omega,H2.out,H3.out⟩ | exact ⟨w1.heap.size+1,w1.heap.size,rfl,rfl,HE.out,Nat.le_succ _,Nat.le_refl _,by omega,H3.out,H2.out⟩
 case rest =>
 obtain ⟨b4,b5,rfl,rfl,hE,hl4,hl5,hne,ha4,ha5⟩:=hcut
 have A4:=Hi ha4
 have A5:=Hi ha5
 clear ha4 ha5
 replace HX:=hE.tr HX
 replace B2:=hE.bl B2
 replace B3:=hE.bl B3
 replace RP:=Hi (RP.out.ext hE)
 have hs_wc:=hE.size
 clear hE
 try clear c_B2 f_B2 l_B2
 obtain ⟨c_B2,f_B2,l_B2⟩:=blk3 B2.out
 try clear c_B3 f_B3 l_B3
 obtain ⟨c_B3,f_B3,l_B3⟩:=blk3 B3.out
 obtain ⟨c_A4,f_A4,l_A4⟩:=blk3 A4.out
 obtain ⟨c_A5,f_A5,l_A5⟩:=blk3 A5.out
 obtain ⟨b2,hb2⟩:∃ b,b=w.heap.size:=⟨_,rfl⟩
 obtain ⟨b3,hb3⟩:∃ b,b=w.heap.size+1:=⟨_,rfl⟩
 have q2:w.heap.size≤b2:=by omega
 have q3:w.heap.size≤b3:=by omega
 have q23:b3 ≠ b2:=by omega
 have q4:w.heap.size≤b4:=by omega
 have q5:w.heap.size≤b5:=by omega
 have n24:b2 ≠ b4:=by omega
 have n25:b2 ≠ b5:=by omega
 have n34:b3 ≠ b4:=by omega
 have n35:b3 ≠ b5:=by omega
 rw [← hb3] at B3 ⊢
 rw [← hb2] at B2 ⊢
 have HL0:Hid (CanR wc ⟨rneg,ra,rn,rc,rb,rm,rd⟩ (mnA l 0)):=RP
 have HH0:Hid (CanR wc ⟨rneg,ra,rn,rc,rb,rm,rd⟩ (mxA l 0)):=RP
 have HNE:Hid (l ≠ []):=Hi (fun h=>by have:=Hlen.out;rw [h] at this;exact h0 this.symm)
 have HZA:Hid (∀ j,j≤n→Sz S (mnA l j)∧Sz S (mxA l j)):=Hi (fun j hj=>let h:=mA_mem HNE.out j (by rw [Hlen.out];exact hj);⟨HZ.out _ h.1,HZ.out _ h.2⟩)
 clear hb2 hb3 hl4 hl5 hc1 hc2 hc3 hbl c_B2 f_B2 l_B2 c_B3 f_B3 l_B3 c_A4 f_A4 l_A4 c_A5 f_A5 l_A5
 go_wp2
 go_loopg [21] n (fun g i wr=>∃ (j:Nat) (x y:RH),j+g=n∧i=.int .i64 (j:Nat)∧Ext w wr∧wr.heap[b2]?=some (.cells #[.bool false,.slice none 0 0,.slice none 0 0] 30 (0,0))∧wr.heap[b3]?=some (.cells #[.bool false,.slice none 0 0,.slice none 0 0] 30 (0,0))∧wr.heap[b4]?=some (.cells #[.bool x.neg,.slice x.a x.n x.c,.slice x.b x.m x.d] 30 (0,0))∧wr.heap[b5]?=some (.cells #[.bool y.neg,.slice y.a y.n y.c,.slice y.b y.m y.d] 30 (0,0))∧CanR wr x (mnA l j)∧CanR wr y (mxA l j))
 case atStart=>exact ⟨0,⟨rneg,ra,rn,rc,rb,rm,rd⟩,⟨rneg,ra,rn,rc,rb,rm,rd⟩,by omega,rfl,HX.out,B2.out,B3.out,A4.out,A5.out,HL0.out,HH0.out⟩
 case round =>
  obtain ⟨j,⟨xn,xa,xl,xc,xb,xm,xd⟩,⟨yn,ya,yl,yc,yb,ym,yd⟩,hj,rfl,g1,g2,g3,g4,g5,g6,g7⟩:=hrel
  clear HX B2 B3 A4 A5 HL0 HH0 RP
  have HX:=Hi g1
  have B2:=Hi g2
  have B3:=Hi g3
  have B4:=Hi g4
  have B5:=Hi g5
  have HL:=Hi g6
  have HH:=Hi g7
  clear g1 g2 g3 g4 g5 g6 g7
  try clear c_B2 f_B2 l_B2
  obtain ⟨c_B2,f_B2,l_B2⟩:=blk3 B2.out
  try clear c_B3 f_B3 l_B3
  obtain ⟨c_B3,f_B3,l_B3⟩:=blk3 B3.out
  try clear c_B4 f_B4 l_B4
  obtain ⟨c_B4,f_B4,l_B4⟩:=blk3 B4.out
  try clear c_B5 f_B5 l_B5
  obtain ⟨c_B5,f_B5,l_B5⟩:=blk3 B5.out
  by_cases h1:gk=0
  case pos =>
   subst h1
   obtain rfl:j=n:=by omega
   have hin:¬ (j:Int) < (j:Int):=by omega
   have HV:Hid (mnA l j=mnL l∧mxA l j=mxL l):=Hi ⟨mnA_all (by rw [Hlen.out];exact Nat.le_refl _),mxA_all (by rw [Hlen.out];exact Nat.le_refl _)⟩
   rw [HV.out.1] at HL
   rw [HV.out.2] at HH
   go_upto_region 12 with fail
   go_region
   refine nm_twod B2.out rfl B3.out rfl q23 ?_
   intro y3 y4 y5 T T4 E5
   replace HX:=Hi (T.ext HX.out (by omega))
   replace B2:=Hi (T.bx)
   replace B3:=Hi (T.rest _ _ (by omega) B3.out)
   replace B4:=Hi (T.rest _ _ (by omega) B4.out)
   replace B5:=Hi (T.rest _ _ (by omega) B5.out)
   replace HL:=Hi (HL.out.keep T.keep)
   replace HH:=Hi (HH.out.keep T.keep)
   have hs_y3:=nle T.size
   have hr_y3:=nle T.size.symm
   clear T
   try clear c_B2 f_B2 l_B2
   obtain ⟨c_B2,f_B2,l_B2⟩:=blk3 B2.out
   try clear c_B3 f_B3 l_B3
   obtain ⟨c_B3,f_B3,l_B3⟩:=blk3 B3.out
   try clear c_B4 f_B4 l_B4
   obtain ⟨c_B4,f_B4,l_B4⟩:=blk3 B4.out
   try clear c_B5 f_B5 l_B5
   obtain ⟨c_B5,f_B5,l_B5⟩:=blk3 B5.out
   have T:=T4
   clear T4
   replace HX:=Hi (T.ext HX.out (by omega))
   replace B2:=Hi (T.rest _ _ (by omega) B2.out)
   replace B3:=Hi (T.bx)
   replace B4:=Hi (T.rest _ _ (by omega) B4.out)
   replace B5:=Hi (T.rest _ _ (by omega) B5.out)
   replace HL:=Hi (HL.out.keep T.keep)
   replace HH:=Hi (HH.out.keep T.keep)
   have hs_y4:=nle T.size
   have hr_y4:=nle T.size.symm
   clear T
   try clear c_B2 f_B2 l_B2
   obtain ⟨c_B2,f_B2,l_B2⟩:=blk3 B2.out
   try clear c_B3 f_B3 l_B3
   obtain ⟨c_B3,f_B3,l_B3⟩:=blk3 B3.out
   try clear c_B4 f_B4 l_B4
   obtain ⟨c_B4,f_B4,l_B4⟩:=blk3 B4.out
   try clear c_B5 f_B5 l_B5
   obtain ⟨c_B5,f_B5,l_B5⟩:=blk3 B5.out
   replace HX:=Hi (HX.out.trans E5)
   replace B2:=Hi (E5.block B2.out)
   replace B3:=Hi (E5.block B3.out)
   replace B4:=Hi (E5.block B4.out)
   replace B5:=Hi (E5.block B5.out)
   replace HL:=Hi (HL.out.ext E5)
   replace HH:=Hi (HH.out.ext E5)
   have hs_y5:=E5.size
   clear E5
   try clear c_B2 f_B2 l_B2
   obtain ⟨c_B2,f_B2,l_B2⟩:=blk3 B2.out
   try clear c_B3 f_B3 l_B3
   obtain ⟨c_B3,f_B3,l_B3⟩:=blk3 B3.out
   try clear c_B4 f_B4 l_B4
   obtain ⟨c_B4,f_B4,l_B4⟩:=blk3 B4.out
   try clear c_B5 f_B5 l_B5
   obtain ⟨c_B5,f_B5,l_B5⟩:=blk3 B5.out
   go_wp2
   exact bodyPost_ret (v:=PT (⟨xn,xa,xl,xc,xb,xm,xd⟩,⟨yn,ya,yl,yc,yb,ym,yd⟩)) (by simp [results,Tryz.results110,go_sem,PT,blk_cell B2.out,blk_cell B3.out]) rfl ⟨(⟨xn,xa,xl,xc,xb,xm,xd⟩,⟨yn,ya,yl,yc,yb,ym,yd⟩),rfl,HX.out,HL.out,HH.out⟩
  obtain ⟨bv,off',r,hao,hbl,⟨hc1,hc2,hc3⟩,hP⟩:=(H.out.ext HX.out).lin.celx (k:=j) (by omega)
  obtain ⟨rfl,rfl⟩:b=bv∧off=off':=by simpa using hao
  obtain ⟨tneg,ta,tn,tc,tb,tm,td⟩:=r
  simp only at hc1 hc2 hc3
  have RP:=Hi hP
  clear hP hao
  have hjn:(j:Int) < n:=by omega
  have ZX:=Hi (HZ.out.at (i:=j) (by rw [Hlen.out];omega))
  have ZM:=Hi (HZA.out j (by omega))
  have HS1:=Hi (mnA_step (l:=l) (j:=j) (by rw [Hlen.out];omega))
  have HS2:=Hi (mxA_step (l:=l) (j:=j) (by rw [Hlen.out];omega))
  obtain ⟨v,hv⟩:∃ v,v=l.getD j 0:=⟨_,rfl⟩
  rw [← hv] at RP ZX HS1 HS2
  clear hv
  have p4:b4 < wr.heap.size:=l_B4
  have p5:b5 < wr.heap.size:=l_B5
  go_upto_region 7 with fail
  refine nm_alloc ?_
  intro y1 hE hB0 hz
  have hz_y1:=nle hz
  have hr_y1:=nle hz.symm
  clear hz
  replace HX:=hE.tr HX
  replace B2:=hE.bl B2
  replace B3:=hE.bl B3
  replace B4:=hE.bl B4
  replace B5:=hE.bl B5
  replace HL:=Hi (HL.out.ext hE)
  replace HH:=Hi (HH.out.ext hE)
  replace RP:=Hi (RP.out.ext hE)
  have hs_y1:=hE.size
  clear hE
  try clear c_B2 f_B2 l_B2
  obtain ⟨c_B2,f_B2,l_B2⟩:=blk3 B2.out
  try clear c_B3 f_B3 l_B3
  obtain ⟨c_B3,f_B3,l_B3⟩:=blk3 B3.out
  try clear c_B4 f_B4 l_B4
  obtain ⟨c_B4,f_B4,l_B4⟩:=blk3 B4.out
  try clear c_B5 f_B5 l_B5
  obtain ⟨c_B5,f_B5,l_B5⟩:=blk3 B5.out
  have B7:=Hi hB0
  clear hB0
  obtain ⟨c_B7,f_B7,l_B7⟩:=blk3 B7.out
  go_wp2_with fail
  refine Calls.mono (rcmp_any ⟨tneg,ta,tn,tc,tb,tm,td⟩ ⟨xn,xa,xl,xc,xb,xm,xd⟩ v (mnA l j) _ (RP.out.raw ZX.out (by omega)) (HL.out.raw ZM.out.1 (by omega))) ?_
  rintro e w27 ⟨x27,rfl,hE,-⟩
  replace HX:=hE.tr HX
  replace B2:=hE.bl B2
  replace B3:=hE.bl B3
  replace B4:=hE.bl B4
  replace B5:=hE.bl B5
  replace HL:=Hi (HL.out.ext hE)
  replace HH:=Hi (HH.out.ext hE)
  replace RP:=Hi (RP.out.ext hE)
  replace B7:=hE.bl B7
  have hs_w27:=hE.size
  clear hE
  try clear c_B2 f_B2 l_B2
  obtain ⟨c_B2,f_B2,l_B2⟩:=blk3 B2.out
  try clear c_B3 f_B3 l_B3
  obtain ⟨c_B3,f_B3,l_B3⟩:=blk3 B3.out
  try clear c_B4 f_B4 l_B4
  obtain ⟨c_B4,f_B4,l_B4⟩:=blk3 B4.out
  try clear c_B5 f_B5 l_B5
  obtain ⟨c_B5,f_B5,l_B5⟩:=blk3 B5.out
  try clear c_B7 f_B7 l_B7
  obtain ⟨c_B7,f_B7,l_B7⟩:=blk3 B7.out
  by_cases h2:v < mnA l j
  case pos =>
   have hc:=cmpR_lt0.2 h2
   have HM1:Hid (mnA l (j+1)=v):=Hi (by rw [HS1.out];exact if_pos h2)
   obtain ⟨c,e⟩:∃ c,c=cmpR v (mnA l j):=⟨_,rfl⟩
   rw [← e] at hc ⊢
   clear e h2
   have HLn:=RP
   go_upto_region 9 with fail
   clear HL
   refine nm_set3 B4.out rfl ?_
   intro y8 T
   replace HX:=Hi (T.ext HX.out (by omega))
   replace B2:=Hi (T.rest _ _ (by omega) B2.out)
   replace B3:=Hi (T.rest _ _ (by omega) B3.out)
   replace B4:=Hi (T.bx)
   replace B5:=Hi (T.rest _ _ (by omega) B5.out)
   replace HH:=Hi (HH.out.keep T.keep)
   replace RP:=Hi (RP.out.keep T.keep)
   replace B7:=Hi (T.rest _ _ (by omega) B7.out)
   replace HLn:=Hi (HLn.out.keep T.keep)
   have hs_y8:=nle T.size
   have hr_y8:=nle T.size.symm
   clear T
   try clear c_B2 f_B2 l_B2
   obtain ⟨c_B2,f_B2,l_B2⟩:=blk3 B2.out
   try clear c_B3 f_B3 l_B3
   obtain ⟨c_B3,f_B3,l_B3⟩:=blk3 B3.out
   try clear c_B4 f_B4 l_B4
   obtain ⟨c_B4,f_B4,l_B4⟩:=blk3 B4.out
   try clear c_B5 f_B5 l_B5
   obtain ⟨c_B5,f_B5,l_B5⟩:=blk3 B5.out
   try clear c_B7 f_B7 l_B7
   obtain ⟨c_B7,f_B7,l_B7⟩:=blk3 B7.out
   go_wp2_with fail
   refine Calls.mono (rcmp_any ⟨tneg,ta,tn,tc,tb,tm,td⟩ ⟨yn,ya,yl,yc,yb,ym,yd⟩ v (mxA l j) _ (RP.out.raw ZX.out (by omega)) (HH.out.raw ZM.out.2 (by omega))) ?_
   rintro e w32 ⟨x32,rfl,hE,-⟩
   replace HX:=hE.tr HX
   replace B2:=hE.bl B2
   replace B3:=hE.bl B3
   replace B4:=hE.bl B4
   replace B5:=hE.bl B5
   replace HH:=Hi (HH.out.ext hE)
   replace RP:=Hi (RP.out.ext hE)
   replace B7:=hE.bl B7
   replace HLn:=Hi (HLn.out.ext hE)
   have hs_w32:=hE.size
   clear hE
   try clear c_B2 f_B2 l_B2
   obtain ⟨c_B2,f_B2,l_B2⟩:=blk3 B2.out
   try clear c_B3 f_B3 l_B3
   obtain ⟨c_B3,f_B3,l_B3⟩:=blk3 B3.out
   try clear c_B4 f_B4 l_B4
   obtain ⟨c_B4,f_B4,l_B4⟩:=blk3 B4.out
   try clear c_B5 f_B5 l_B5
   obtain ⟨c_B5,f_B5,l_B5⟩:=blk3 B5.out
   try clear c_B7 f_B7 l_B7
   obtain ⟨c_B7,f_B7,l_B7⟩:=blk3 B7.out
   by_cases h3:mxA l j < v
   case pos =>
    have hc':=cmpR_gt0.2 h3
    have HM2:Hid (mxA l (j+1)=v):=Hi (by rw [HS2.out];exact if_pos h3)
    obtain ⟨c',e⟩:∃ c',c'=cmpR v (mxA l j):=⟨_,rfl⟩
    rw [← e] at hc' ⊢
    clear e h3
    go_upto_region 11 with fail
    refine nm_set3 B5.out rfl ?_
    intro y9 T
    replace HX:=Hi (T.ext HX.out (by omega))
    replace B2:=Hi (T.rest _ _ (by omega) B2.out)
    replace B3:=Hi (T.rest _ _ (by omega) B3.out)
    replace B4:=Hi (T.rest _ _ (by omega) B4.out)
    replace B5:=Hi (T.bx)
    replace HH:=Hi (HH.out.keep T.keep)
    replace RP:=Hi (RP.out.keep T.keep)
    replace B7:=Hi (T.rest _ _ (by omega) B7.out)
    replace HLn:=Hi (HLn.out.keep T.keep)
    have hs_y9:=nle T.size
    have hr_y9:=nle T.size.symm
    clear T
    try clear c_B2 f_B2 l_B2
    obtain ⟨c_B2,f_B2,l_B2⟩:=blk3 B2.out
    try clear c_B3 f_B3 l_B3
    obtain ⟨c_B3,f_B3,l_B3⟩:=blk3 B3.out
    try clear c_B4 f_B4 l_B4
    obtain ⟨c_B4,f_B4,l_B4⟩:=blk3 B4.out
    try clear c_B5 f_B5 l_B5
    obtain ⟨c_B5,f_B5,l_B5⟩:=blk3 B5.out
    try clear c_B7 f_B7 l_B7
    obtain ⟨c_B7,f_B7,l_B7⟩:=blk3 B7.out
    go_wp2
    go_roundg (gk - 1)
    case measure=>omega
    case rel=>exact ⟨j+1,⟨tneg,ta,tn,tc,tb,tm,td⟩,⟨tneg,ta,tn,tc,tb,tm,td⟩,by omega,by go_num,HX.out,B2.out,B3.out,B4.out,B5.out,by rw [HM1.out];exact HLn.out,by rw [HM2.out];exact RP.out⟩
   have hc':¬ 0 < cmpR v (mxA l j):=fun h=>h3 (cmpR_gt0.1 h)
   have HM2:Hid (mxA l (j+1)=mxA l j):=Hi (by rw [HS2.out];exact if_neg h3)
   obtain ⟨c',e⟩:∃ c',c'=cmpR v (mxA l j):=⟨_,rfl⟩
   rw [← e] at hc' ⊢
   clear e h3
   go_wp2
   go_roundg (gk - 1)
   case measure=>omega
   case rel=>exact ⟨j+1,⟨tneg,ta,tn,tc,tb,tm,td⟩,⟨yn,ya,yl,yc,yb,ym,yd⟩,by omega,by go_num,HX.out,B2.out,B3.out,B4.out,B5.out,by rw [HM1.out];exact HLn.out,by rw [HM2.out];exact HH.out⟩
  have hc:¬ cmpR v (mnA l j) < 0:=fun h=>h2 (cmpR_lt0.1 h)
  have HM1:Hid (mnA l (j+1)=mnA l j):=Hi (by rw [HS1.out];exact if_neg h2)
  obtain ⟨c,e⟩:∃ c,c=cmpR v (mnA l j):=⟨_,rfl⟩
  rw [← e] at hc ⊢
  clear e h2
  go_wp2_with fail
  refine Calls.mono (rcmp_any ⟨tneg,ta,tn,tc,tb,tm,td⟩ ⟨yn,ya,yl,yc,yb,ym,yd⟩ v (mxA l j) _ (RP.out.raw ZX.out (by omega)) (HH.out.raw ZM.out.2 (by omega))) ?_
  rintro e w32 ⟨x32,rfl,hE,-⟩
  replace HX:=hE.tr HX
  replace B2:=hE.bl B2
  replace B3:=hE.bl B3
  replace B4:=hE.bl B4
  replace B5:=hE.bl B5
  replace HL:=Hi (HL.out.ext hE)
  replace HH:=Hi (HH.out.ext hE)
  replace RP:=Hi (RP.out.ext hE)
  replace B7:=hE.bl B7
  have hs_w32:=hE.size
  clear hE
  try clear c_B2 f_B2 l_B2
  obtain ⟨c_B2,f_B2,l_B2⟩:=blk3 B2.out
  try clear c_B3 f_B3 l_B3
  obtain ⟨c_B3,f_B3,l_B3⟩:=blk3 B3.out
  try clear c_B4 f_B4 l_B4
  obtain ⟨c_B4,f_B4,l_B4⟩:=blk3 B4.out
  try clear c_B5 f_B5 l_B5
  obtain ⟨c_B5,f_B5,l_B5⟩:=blk3 B5.out
  try clear c_B7 f_B7 l_B7
  obtain ⟨c_B7,f_B7,l_B7⟩:=blk3 B7.out
  by_cases h3:mxA l j < v
  case pos =>
   have hc':=cmpR_gt0.2 h3
   have HM2:Hid (mxA l (j+1)=v):=Hi (by rw [HS2.out];exact if_pos h3)
   obtain ⟨c',e⟩:∃ c',c'=cmpR v (mxA l j):=⟨_,rfl⟩
   rw [← e] at hc' ⊢
   clear e h3
   go_upto_region 11 with fail
   refine nm_set3 B5.out rfl ?_
   intro y9 T
   replace HX:=Hi (T.ext HX.out (by omega))
   replace B2:=Hi (T.rest _ _ (by omega) B2.out)
   replace B3:=Hi (T.rest _ _ (by omega) B3.out)
   replace B4:=Hi (T.rest _ _ (by omega) B4.out)
   replace B5:=Hi (T.bx)
   replace HL:=Hi (HL.out.keep T.keep)
   replace HH:=Hi (HH.out.keep T.keep)
   replace RP:=Hi (RP.out.keep T.keep)
   replace B7:=Hi (T.rest _ _ (by omega) B7.out)
   have hs_y9:=nle T.size
   have hr_y9:=nle T.size.symm
   clear T
   try clear c_B2 f_B2 l_B2
   obtain ⟨c_B2,f_B2,l_B2⟩:=blk3 B2.out
   try clear c_B3 f_B3 l_B3
   obtain ⟨c_B3,f_B3,l_B3⟩:=blk3 B3.out
   try clear c_B4 f_B4 l_B4
   obtain ⟨c_B4,f_B4,l_B4⟩:=blk3 B4.out
   try clear c_B5 f_B5 l_B5
   obtain ⟨c_B5,f_B5,l_B5⟩:=blk3 B5.out
   try clear c_B7 f_B7 l_B7
   obtain ⟨c_B7,f_B7,l_B7⟩:=blk3 B7.out
   go_wp2
   go_roundg (gk - 1)
   case measure=>omega
   case rel=>exact ⟨j+1,⟨xn,xa,xl,xc,xb,xm,xd⟩,⟨tneg,ta,tn,tc,tb,tm,td⟩,by omega,by go_num,HX.out,B2.out,B3.out,B4.out,B5.out,by rw [HM1.out];exact HL.out,by rw [HM2.out];exact RP.out⟩
  have hc':¬ 0 < cmpR v (mxA l j):=fun h=>h3 (cmpR_gt0.1 h)
  have HM2:Hid (mxA l (j+1)=mxA l j):=Hi (by rw [HS2.out];exact if_neg h3)
  obtain ⟨c',e⟩:∃ c',c'=cmpR v (mxA l j):=⟨_,rfl⟩
  rw [← e] at hc' ⊢
  clear e h3
  go_wp2
  go_roundg (gk - 1)
  case measure=>omega
  case rel=>exact ⟨j+1,⟨xn,xa,xl,xc,xb,xm,xd⟩,⟨yn,ya,yl,yc,yb,ym,yd⟩,by omega,by go_num,HX.out,B2.out,B3.out,B4.out,B5.out,by rw [HM1.out];exact HL.out,by rw [HM2.out];exact HH.out⟩
end Go.Proofs.YtpieblkklbilgaaGreat
