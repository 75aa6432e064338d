/- Neg of package rational; Add, Sub of package poly. -/
import Derived.Test.YtdchjfcklppmgaaGreatQXM26
import Derived.Test.YtdchjfcklppmgaaGreatQXM27
set_option linter.unusedVariables false
set_option maxRecDepth 8000
set_option maxHeartbeats 4000000
namespace Go.Proofs.YtdchjfcklppmgaaGreat
open Go.RowKit Go.Front Go.Num Stab
attribute [local go_sem] XW.cell XW.frozen
theorem rneg_any (s:RH) (q:Rat) (w:World) (h:RawR w s q):Does 257 [s.v] w RH.v (fun r w'=>CanR w' r (-q)):=by
 have HR:=Hi h
 have HX:=Hi (Ext.refl w)
 obtain ⟨neg,ao,n,c,bo,m,d⟩:=s
 clear h
 unfold Does
 go_enter Tryz.func257,Tryz.ntmps257
 go_upto_region 1 with fail
 refine nm_alloc2 ?_
 intro w1 hE hB0 hB1 hz
 have hz_w1:=nle hz
 have hr_w1:=nle hz.symm
 clear hz
 replace HX:=hE.tr HX
 have hs_w1:=hE.size
 clear hE
 have B1:=Hi hB0
 clear hB0
 obtain ⟨c_B1,f_B1,l_B1⟩:=blk3 B1.out
 have B2:=Hi hB1
 clear hB1
 obtain ⟨c_B2,f_B2,l_B2⟩:=blk3 B2.out
 go_wp2_with fail
 refine Calls.mono (flip_any ⟨neg,ao,n,c,bo,m,d⟩ _) ?_
 rintro e w1 ⟨x1,rfl,hE,-⟩
 replace HX:=hE.tr HX
 replace B1:=hE.bl B1
 replace B2:=hE.bl B2
 have hs_w1:=hE.size
 clear hE
 try clear c_B1 f_B1 l_B1
 obtain ⟨c_B1,f_B1,l_B1⟩:=blk3 B1.out
 try clear c_B2 f_B2 l_B2
 obtain ⟨c_B2,f_B2,l_B2⟩:=blk3 B2.out
 go_wp2_with fail
 refine Calls.mono (rtrim_any ⟨!neg,ao,n,c,bo,m,d⟩ _ _ (HR.out.neg.ext HX.out)) ?_
 rintro e w2 ⟨x2,rfl,hE,g2⟩
 have G2:=Hi g2
 clear g2
 replace HX:=hE.tr HX
 replace B1:=hE.bl B1
 replace B2:=hE.bl B2
 have hs_w2:=hE.size
 clear hE
 try clear c_B1 f_B1 l_B1
 obtain ⟨c_B1,f_B1,l_B1⟩:=blk3 B1.out
 try clear c_B2 f_B2 l_B2
 obtain ⟨c_B2,f_B2,l_B2⟩:=blk3 B2.out
 go_wp2
 have hF:=((((Fin.start (L:=w.heap.size + 1) HX.out (noU_block B2.out rfl)).set (by omega) (i:=0) (v:=.bool x2.neg) rfl).set (by omega) (i:=1) (v:=.slice x2.a x2.n x2.c) rfl).set (by omega) (i:=2) (v:=.slice x2.b x2.m x2.d) rfl)
 exact bodyPost_ret (v:=x2.v) (by simp [results,Tryz.results257,go_sem,blk_cell B2.out]) rfl ⟨x2,rfl,hF.ext,G2.out.keep hF.keep⟩
theorem padd_le (ao bo:Option Addr) (n c m d:Nat) (p q:List Rat) (w:World) (h:RawL w ⟨ao,n,c⟩ p) (k:RawL w ⟨bo,m,d⟩ q) (hmn:m≤n) (hn:n≤1000000) (hz:SzL 33554432 p) (kz:SzL 33554432 q) :
  Does 173 [.slice ao n c,.slice bo m d] w SH.v (fun s w'=>NewL w.heap.size w' s (add5V p q)):=by
 obtain ⟨i0,hi0,hz0,hz1,hz2⟩:=info_parts infoR
 have H:=Hi h
 have K:=Hi k
 have HX:=Hi (Ext.refl w)
 have hle:=h.le
 have hmx:=h.max
 have kle:=k.le
 have kmx:=k.max
 have Hn:=Hi h.len
 have Hm:=Hi k.len
 simp only at hle hmx kle kmx Hn Hm
 have HZ:=Hi hz
 have KZ:=Hi kz
 have hlt:¬ (n:Int) < m:=by omega
 clear h k hz kz
 unfold Does
 go_enter Tryz.func173,Tryz.ntmps173
 go_upto_region 4 with (refine wpList_make rfl (.tmp 15) (.tmp 15) 41 rfl 30 i0 (RH.v default) 3 Tryz.underlying41 hi0 hz0 hz1 _ _ n rfl rfl (by omega) (by omega) (by rw [hz2]; omega) (by omega) ?_; intro w2 hnew hE)
 have KB:=Hi (RBk.make rfl hnew)
 clear hnew
 replace HX:=hE.tr HX
 have hs_w2:=hE.size
 clear hE
 obtain ⟨L,hL⟩:∃ L,L = w.heap.size:=⟨_,rfl⟩
 have hLw:w.heap.size≤L:=by omega
 rw [← hL] at KB ⊢
 clear hL
 go_wp2
 go_loopg [19] n (fun g v wr=>∃ (i:Nat) (rs:List RH),i + g = n∧v = .int .i64 (i:Nat)∧Ext w wr∧RBk wr L rs #[]∧rs.length = n∧PreC wr rs ((List.range i).map (fun i=>p.getD i 0 + q.getD i 0)))
 case atStart=>exact ⟨0,_,by omega,rfl,HX.out,KB.out,by simp,fun j hj=>by simp at hj⟩
 case round =>
  obtain ⟨i,rs,hi,rfl,g1,g4,g5,g6⟩:=hrel
  clear HX KB
  have HX:=Hi g1
  have KB:=Hi g4
  have HRl:=Hi g5
  have PC:=Hi g6
  clear g1 g4 g5 g6
  have HTl:Hid (((List.range i).map (fun i=>p.getD i 0 + q.getD i 0)).length = i):=Hi (by simp)
  try clear f_KB l_KB
  have f_KB:=blk_frozen KB.out
  have l_KB:=(Array.getElem?_eq_some_iff.1 KB.out).1
  by_cases h0:gk = 0
  case pos =>
   subst h0
   obtain rfl:i = n:=by omega
   have hin:¬ (i:Int) < i:=by omega
   have HV:Hid (add5V p q = tz ((List.range i).map (fun i=>p.getD i 0 + q.getD i 0))):=Hi (by unfold add5V; rw [Hn.out,Hm.out,show max i m = i by omega])
   obtain ⟨ts,hts⟩:∃ ts,ts = (List.range i).map (fun i=>p.getD i 0 + q.getD i 0):=⟨_,rfl⟩
   have HSz:Hid (SzL 67108865 ts):=Hi (by
    intro x hx
    rw [hts] at hx
    obtain ⟨y,hy,rfl⟩:=List.mem_map.1 hx
    exact ((HZ.out.getD (by decide) y).add (KZ.out.getD (by decide) y)).mono (by decide))
   rw [← hts] at PC HTl HV
   clear hts
   have LL:Hid (NewL w.heap.size wr ⟨some ⟨L,0,none⟩,i,i⟩ ts):=Hi (PreC.list PC.out KB.out HRl.out HTl.out hLw (by omega))
   clear KB
   clear PC
   go_wp2_with fail
   refine Calls.mono (pcut_any (some ⟨L,0,none⟩) i i ts _ (LL.out.can.raw HSz.out (by decide))) ?_
   rintro e w1 ⟨x1,rfl,hE,g1⟩
   have G1:=Hi g1
   clear g1
   replace HX:=hE.tr HX
   replace LL:=Hi (LL.out.ext hE)
   have hs_w1:=hE.size
   clear hE
   obtain ⟨q1,q2⟩:=G1.out
   have HQ1:=Hi q1
   have HQ2:=Hi q2
   clear q1 q2 G1
   go_wp2
   go_ret
   refine ⟨⟨some ⟨L,0,none⟩,(tz ts).length,i⟩,rfl,HX.out,?_⟩
   have:=LIn.take LL.out HQ2.out
   rw [← HQ1.out] at this
   rw [HV.out]
   exact this
  have hin:(i:Int) < n:=by omega
  obtain ⟨b,off,r,hao,hbl,⟨hc1,hc2,hc3⟩,hP⟩:=(H.out.ext HX.out).cells' (k:=i) (by omega)
  obtain ⟨rneg,ra,rn,rc,rb,rm,rd⟩:=r
  simp only at hc1 hc2 hc3
  subst hao
  have RP:=Hi hP
  clear hP
  have HMp:Hid ((List.range i).map (fun i=>p.getD i 0 + q.getD i 0) ++ [p.getD i 0 + q.getD i 0] = (List.range (i + 1)).map (fun i=>p.getD i 0 + q.getD i 0)):=Hi (range_snoc' (fun i=>p.getD i 0 + q.getD i 0) i).symm
  by_cases hm1:i < m
  case pos =>
   have him:(i:Int) < m:=by omega
   obtain ⟨b',off',r',hbo,hbl',⟨kc1,kc2,kc3⟩,hQ⟩:=(K.out.ext HX.out).cells' (k:=i) (by omega)
   obtain ⟨sneg,sa,sn,sc,sb,sm,sd⟩:=r'
   simp only at kc1 kc2 kc3
   subst hbo
   have RQ:=Hi hQ
   clear hQ
   go_upto_region 8 with fail
   refine wp_region_front 12 (fun opIx=>match opIx with
    | 10=>.spec RH default RH.v (fun s w'=>CanR w' s (p.getD i 0 + q.getD i 0))
    | _=>.quiet) (fun _=>[]) (by kernel_rfl) (by kernel_rfl) (fun w0 he0 hz0 hc0 hf0=>?_)
   replace he0:=Hi he0
   simp only [pT]
   repeat (refine wpq fun K h=>?_; go_big_quiet_op; refine h _ ?_; clear h K)
   refine wps he0.out rfl rfl (fun w1 hW hG=>?_) fun x10=>?_
   ·exact spc [RH.v ⟨rneg,ra,rn,rc,rb,rm,rd⟩,RH.v ⟨sneg,sa,sn,sc,sb,sm,sd⟩] Tryz.func153 (radd_any _ _ _ _ _ (RP.out.ext hW) (RQ.out.ext hW))
   simp only [pS]
   repeat (refine wpq fun K h=>?_; go_big_quiet_op; refine h _ ?_; clear h K)
   refine wpF_nil ?_
   intro w5 hI
   have hE:=he0.out.trans hI.ext
   have G10:=Hi ((hI.facts 10:Since _ _).get fun _ e g=>g.ext e)
   clear hI he0 hz0 hc0 hf0
   replace HX:=hE.tr HX
   replace PC:=Hi (PC.out.ext hE)
   replace KB:=hE.bl KB
   have hs_w5:=hE.size
   clear hE
   try clear f_KB l_KB
   have f_KB:=blk_frozen KB.out
   have l_KB:=(Array.getElem?_eq_some_iff.1 KB.out).1
   simp only [pD]
   obtain ⟨f1,f2,f3⟩:=RBk.at (re:=#[]) KB.out (k:=i) (by rw [HRl.out]; omega)
   go_upto_region 10 with fail
   refine nm_rat (k:=i) KB.out rfl (by rw [HRl.out]; omega) ?_
   intro y6 T
   clear f1 f2 f3 hc1 hc2 hc3 kc1 kc2 kc3
   replace HX:=Hi (T.ext HX.out (by omega))
   replace PC:=Hi (PC.out.keep T.keep)
   replace KB:=Hi (T.bx)
   replace G10:=Hi (G10.out.keep T.keep)
   have hs_y6:=nle T.size
   have hr_y6:=nle T.size.symm
   clear T
   try clear f_KB l_KB
   have f_KB:=blk_frozen KB.out
   have l_KB:=(Array.getElem?_eq_some_iff.1 KB.out).1
   replace PC:=Hi (PC.out.snoc (x:=x10) (i:=i) HTl.out (by rw [HRl.out]; omega) G10.out)
   rw [HMp.out] at PC
   go_wp2
   go_roundg (gk - 1)
   case measure=>omega
   case rel=>exact ⟨i + 1,_,by omega,by go_num,HX.out,KB.out,by rw [List.length_set]; exact HRl.out,PC.out⟩
  have him:¬ (i:Int) < m:=by omega
  have HQ0:Hid (p.getD i 0 + q.getD i 0 = p.getD i 0):=Hi (by rw [pd_over (l:=q) (by rw [Hm.out]; omega)]; exact Rat.add_zero _)
  go_wp2_with fail
  refine Calls.mono (rtrim_any ⟨rneg,ra,rn,rc,rb,rm,rd⟩ (p.getD i 0) _ RP.out) ?_
  rintro e w4 ⟨x4,rfl,hE,g4⟩
  have G4:=Hi g4
  clear g4
  replace HX:=hE.tr HX
  replace PC:=Hi (PC.out.ext hE)
  replace KB:=hE.bl KB
  have hs_w4:=hE.size
  clear hE
  try clear f_KB l_KB
  have f_KB:=blk_frozen KB.out
  have l_KB:=(Array.getElem?_eq_some_iff.1 KB.out).1
  obtain ⟨f1,f2,f3⟩:=RBk.at (re:=#[]) KB.out (k:=i) (by rw [HRl.out]; omega)
  go_upto_region 10 with fail
  refine nm_rat (k:=i) KB.out rfl (by rw [HRl.out]; omega) ?_
  intro y6 T
  clear f1 f2 f3 hc1 hc2 hc3
  replace HX:=Hi (T.ext HX.out (by omega))
  replace PC:=Hi (PC.out.keep T.keep)
  replace KB:=Hi (T.bx)
  replace G4:=Hi (G4.out.keep T.keep)
  have hs_y6:=nle T.size
  have hr_y6:=nle T.size.symm
  clear T
  try clear f_KB l_KB
  have f_KB:=blk_frozen KB.out
  have l_KB:=(Array.getElem?_eq_some_iff.1 KB.out).1
  replace PC:=Hi (PC.out.snoc (x:=x4) (q:=p.getD i 0 + q.getD i 0) (i:=i) HTl.out (by rw [HRl.out]; omega) (by rw [HQ0.out]; exact G4.out))
  rw [HMp.out] at PC
  go_wp2
  go_roundg (gk - 1)
  case measure=>omega
  case rel=>exact ⟨i + 1,_,by omega,by go_num,HX.out,KB.out,by rw [List.length_set]; exact HRl.out,PC.out⟩
theorem padd_lt (ao bo:Option Addr) (n c m d:Nat) (p q:List Rat) (w:World) (h:RawL w ⟨ao,n,c⟩ p) (k:RawL w ⟨bo,m,d⟩ q) (hmn:m < n) (hn:n≤1000000) (hz:SzL 33554432 p) (kz:SzL 33554432 q) :
  Does 173 [.slice bo m d,.slice ao n c] w SH.v (fun s w'=>NewL w.heap.size w' s (add5V q p)):=by
 obtain ⟨i0,hi0,hz0,hz1,hz2⟩:=info_parts infoR
 have H:=Hi h
 have K:=Hi k
 have HX:=Hi (Ext.refl w)
 have hle:=h.le
 have hmx:=h.max
 have kle:=k.le
 have kmx:=k.max
 have Hn:=Hi h.len
 have Hm:=Hi k.len
 simp only at hle hmx kle kmx Hn Hm
 have HZ:=Hi hz
 have KZ:=Hi kz
 have hlt:(m:Int) < n:=by omega
 clear h k hz kz
 unfold Does
 go_enter Tryz.func173,Tryz.ntmps173
 go_upto_region 4 with (refine wpList_make rfl (.tmp 15) (.tmp 15) 41 rfl 30 i0 (RH.v default) 3 Tryz.underlying41 hi0 hz0 hz1 _ _ n rfl rfl (by omega) (by omega) (by rw [hz2]; omega) (by omega) ?_; intro w2 hnew hE)
 have KB:=Hi (RBk.make rfl hnew)
 clear hnew
 replace HX:=hE.tr HX
 have hs_w2:=hE.size
 clear hE
 obtain ⟨L,hL⟩:∃ L,L = w.heap.size:=⟨_,rfl⟩
 have hLw:w.heap.size≤L:=by omega
 rw [← hL] at KB ⊢
 clear hL
 go_wp2
 go_loopg [19] n (fun g v wr=>∃ (i:Nat) (rs:List RH),i + g = n∧v = .int .i64 (i:Nat)∧Ext w wr∧RBk wr L rs #[]∧rs.length = n∧PreC wr rs ((List.range i).map (fun i=>p.getD i 0 + q.getD i 0)))
 case atStart=>exact ⟨0,_,by omega,rfl,HX.out,KB.out,by simp,fun j hj=>by simp at hj⟩
 case round =>
  obtain ⟨i,rs,hi,rfl,g1,g4,g5,g6⟩:=hrel
  clear HX KB
  have HX:=Hi g1
  have KB:=Hi g4
  have HRl:=Hi g5
  have PC:=Hi g6
  clear g1 g4 g5 g6
  have HTl:Hid (((List.range i).map (fun i=>p.getD i 0 + q.getD i 0)).length = i):=Hi (by simp)
  try clear f_KB l_KB
  have f_KB:=blk_frozen KB.out
  have l_KB:=(Array.getElem?_eq_some_iff.1 KB.out).1
  by_cases h0:gk = 0
  case pos =>
   subst h0
   obtain rfl:i = n:=by omega
   have hin:¬ (i:Int) < i:=by omega
   have HV:Hid (add5V q p = tz ((List.range i).map (fun i=>p.getD i 0 + q.getD i 0))):=Hi (by unfold add5V; rw [Hn.out,Hm.out,show max m i = i by omega]; congr 2; funext j; exact Rat.add_comm _ _)
   obtain ⟨ts,hts⟩:∃ ts,ts = (List.range i).map (fun i=>p.getD i 0 + q.getD i 0):=⟨_,rfl⟩
   have HSz:Hid (SzL 67108865 ts):=Hi (by
    intro x hx
    rw [hts] at hx
    obtain ⟨y,hy,rfl⟩:=List.mem_map.1 hx
    exact ((HZ.out.getD (by decide) y).add (KZ.out.getD (by decide) y)).mono (by decide))
   rw [← hts] at PC HTl HV
   clear hts
   have LL:Hid (NewL w.heap.size wr ⟨some ⟨L,0,none⟩,i,i⟩ ts):=Hi (PreC.list PC.out KB.out HRl.out HTl.out hLw (by omega))
   clear KB
   clear PC
   go_wp2_with fail
   refine Calls.mono (pcut_any (some ⟨L,0,none⟩) i i ts _ (LL.out.can.raw HSz.out (by decide))) ?_
   rintro e w1 ⟨x1,rfl,hE,g1⟩
   have G1:=Hi g1
   clear g1
   replace HX:=hE.tr HX
   replace LL:=Hi (LL.out.ext hE)
   have hs_w1:=hE.size
   clear hE
   obtain ⟨q1,q2⟩:=G1.out
   have HQ1:=Hi q1
   have HQ2:=Hi q2
   clear q1 q2 G1
   go_wp2
   go_ret
   refine ⟨⟨some ⟨L,0,none⟩,(tz ts).length,i⟩,rfl,HX.out,?_⟩
   have:=LIn.take LL.out HQ2.out
   rw [← HQ1.out] at this
   rw [HV.out]
   exact this
  have hin:(i:Int) < n:=by omega
  obtain ⟨b,off,r,hao,hbl,⟨hc1,hc2,hc3⟩,hP⟩:=(H.out.ext HX.out).cells' (k:=i) (by omega)
  obtain ⟨rneg,ra,rn,rc,rb,rm,rd⟩:=r
  simp only at hc1 hc2 hc3
  subst hao
  have RP:=Hi hP
  clear hP
  have HMp:Hid ((List.range i).map (fun i=>p.getD i 0 + q.getD i 0) ++ [p.getD i 0 + q.getD i 0] = (List.range (i + 1)).map (fun i=>p.getD i 0 + q.getD i 0)):=Hi (range_snoc' (fun i=>p.getD i 0 + q.getD i 0) i).symm
  by_cases hm1:i < m
  case pos =>
   have him:(i:Int) < m:=by omega
   obtain ⟨b',off',r',hbo,hbl',⟨kc1,kc2,kc3⟩,hQ⟩:=(K.out.ext HX.out).cells' (k:=i) (by omega)
   obtain ⟨sneg,sa,sn,sc,sb,sm,sd⟩:=r'
   simp only at kc1 kc2 kc3
   subst hbo
   have RQ:=Hi hQ
   clear hQ
   go_upto_region 8 with fail
   refine wp_region_front 12 (fun opIx=>match opIx with
    | 10=>.spec RH default RH.v (fun s w'=>CanR w' s (p.getD i 0 + q.getD i 0))
    | _=>.quiet) (fun _=>[]) (by kernel_rfl) (by kernel_rfl) (fun w0 he0 hz0 hc0 hf0=>?_)
   replace he0:=Hi he0
   simp only [pT]
   repeat (refine wpq fun K h=>?_; go_big_quiet_op; refine h _ ?_; clear h K)
   refine wps he0.out rfl rfl (fun w1 hW hG=>?_) fun x10=>?_
   ·exact spc [RH.v ⟨rneg,ra,rn,rc,rb,rm,rd⟩,RH.v ⟨sneg,sa,sn,sc,sb,sm,sd⟩] Tryz.func153 (radd_any _ _ _ _ _ (RP.out.ext hW) (RQ.out.ext hW))
   simp only [pS]
   repeat (refine wpq fun K h=>?_; go_big_quiet_op; refine h _ ?_; clear h K)
   refine wpF_nil ?_
   intro w5 hI
   have hE:=he0.out.trans hI.ext
   have G10:=Hi ((hI.facts 10:Since _ _).get fun _ e g=>g.ext e)
   clear hI he0 hz0 hc0 hf0
   replace HX:=hE.tr HX
   replace PC:=Hi (PC.out.ext hE)
   replace KB:=hE.bl KB
   have hs_w5:=hE.size
   clear hE
   try clear f_KB l_KB
   have f_KB:=blk_frozen KB.out
   have l_KB:=(Array.getElem?_eq_some_iff.1 KB.out).1
   simp only [pD]
   obtain ⟨f1,f2,f3⟩:=RBk.at (re:=#[]) KB.out (k:=i) (by rw [HRl.out]; omega)
   go_upto_region 10 with fail
   refine nm_rat (k:=i) KB.out rfl (by rw [HRl.out]; omega) ?_
   intro y6 T
   clear f1 f2 f3 hc1 hc2 hc3 kc1 kc2 kc3
   replace HX:=Hi (T.ext HX.out (by omega))
   replace PC:=Hi (PC.out.keep T.keep)
   replace KB:=Hi (T.bx)
   replace G10:=Hi (G10.out.keep T.keep)
   have hs_y6:=nle T.size
   have hr_y6:=nle T.size.symm
   clear T
   try clear f_KB l_KB
   have f_KB:=blk_frozen KB.out
   have l_KB:=(Array.getElem?_eq_some_iff.1 KB.out).1
   replace PC:=Hi (PC.out.snoc (x:=x10) (i:=i) HTl.out (by rw [HRl.out]; omega) G10.out)
   rw [HMp.out] at PC
   go_wp2
   go_roundg (gk - 1)
   case measure=>omega
   case rel=>exact ⟨i + 1,_,by omega,by go_num,HX.out,KB.out,by rw [List.length_set]; exact HRl.out,PC.out⟩
  have him:¬ (i:Int) < m:=by omega
  have HQ0:Hid (p.getD i 0 + q.getD i 0 = p.getD i 0):=Hi (by rw [pd_over (l:=q) (by rw [Hm.out]; omega)]; exact Rat.add_zero _)
  go_wp2_with fail
  refine Calls.mono (rtrim_any ⟨rneg,ra,rn,rc,rb,rm,rd⟩ (p.getD i 0) _ RP.out) ?_
  rintro e w4 ⟨x4,rfl,hE,g4⟩
  have G4:=Hi g4
  clear g4
  replace HX:=hE.tr HX
  replace PC:=Hi (PC.out.ext hE)
  replace KB:=hE.bl KB
  have hs_w4:=hE.size
  clear hE
  try clear f_KB l_KB
  have f_KB:=blk_frozen KB.out
  have l_KB:=(Array.getElem?_eq_some_iff.1 KB.out).1
  obtain ⟨f1,f2,f3⟩:=RBk.at (re:=#[]) KB.out (k:=i) (by rw [HRl.out]; omega)
  go_upto_region 10 with fail
  refine nm_rat (k:=i) KB.out rfl (by rw [HRl.out]; omega) ?_
  intro y6 T
  clear f1 f2 f3 hc1 hc2 hc3
  replace HX:=Hi (T.ext HX.out (by omega))
  replace PC:=Hi (PC.out.keep T.keep)
  replace KB:=Hi (T.bx)
  replace G4:=Hi (G4.out.keep T.keep)
  have hs_y6:=nle T.size
  have hr_y6:=nle T.size.symm
  clear T
  try clear f_KB l_KB
  have f_KB:=blk_frozen KB.out
  have l_KB:=(Array.getElem?_eq_some_iff.1 KB.out).1
  replace PC:=Hi (PC.out.snoc (x:=x4) (q:=p.getD i 0 + q.getD i 0) (i:=i) HTl.out (by rw [HRl.out]; omega) (by rw [HQ0.out]; exact G4.out))
  rw [HMp.out] at PC
  go_wp2
  go_roundg (gk - 1)
  case measure=>omega
  case rel=>exact ⟨i + 1,_,by omega,by go_num,HX.out,KB.out,by rw [List.length_set]; exact HRl.out,PC.out⟩
theorem padd_any (ao bo:Option Addr) (n c m d:Nat) (p q:List Rat) (w:World) (h:RawL w ⟨ao,n,c⟩ p) (k:RawL w ⟨bo,m,d⟩ q) (hn:n≤1000000) (hm:m≤1000000) (hz:SzL 33554432 p) (kz:SzL 33554432 q) :
  Does 173 [.slice ao n c,.slice bo m d] w SH.v (fun s w'=>NewL w.heap.size w' s (add5V p q)):=by
 rcases Nat.lt_or_ge n m with h1 | h1
 ·exact padd_lt bo ao m d n c q p w k h h1 hm kz hz
 ·exact padd_le ao bo n c m d p q w h k h1 hn hz kz
def subV (p q:List Rat):List Rat:=add5V p (q.map (fun x=>-x))
theorem psub_any (ao bo:Option Addr) (n c m d:Nat) (p q:List Rat) (w:World) (h:RawL w ⟨ao,n,c⟩ p) (k:RawL w ⟨bo,m,d⟩ q) (hn:n≤1000000) (hm:m≤1000000) (hz:SzL 33554432 p) (kz:SzL 33554432 q) :
  Does 159 [.slice ao n c,.slice bo m d] w SH.v (fun s w'=>NewL w.heap.size w' s (subV p q)):=by
 obtain ⟨i0,hi0,hz0,hz1,hz2⟩:=info_parts infoR
 have H:=Hi h
 have K:=Hi k
 have HX:=Hi (Ext.refl w)
 have kle:=k.le
 have kmx:=k.max
 have Hm:=Hi k.len
 simp only at kle kmx Hm
 have HZ:=Hi hz
 have KZ:=Hi kz
 clear h k hz kz
 unfold Does
 go_enter Tryz.func159,Tryz.ntmps159
 go_upto_region 2 with (refine wpList_make rfl (.tmp 8) (.tmp 8) 41 rfl 30 i0 (RH.v default) 3 Tryz.underlying41 hi0 hz0 hz1 _ _ m rfl rfl (by omega) (by omega) (by rw [hz2]; omega) (by omega) ?_; intro w2 hnew hE)
 have KB:=Hi (RBk.make rfl hnew)
 clear hnew
 replace HX:=hE.tr HX
 have hs_w2:=hE.size
 clear hE
 obtain ⟨L,hL⟩:∃ L,L = w.heap.size:=⟨_,rfl⟩
 have hLw:w.heap.size≤L:=by omega
 rw [← hL] at KB ⊢
 clear hL
 go_wp2
 go_loopg [12] m (fun g v wr=>∃ (i:Nat) (rs:List RH),i + g = m∧v = .int .i64 (i:Nat)∧Ext w wr∧RBk wr L rs #[]∧rs.length = m∧PreC wr rs ((q.take i).map (fun x=>-x)))
 case atStart=>exact ⟨0,_,by omega,rfl,HX.out,KB.out,by simp,fun j hj=>by simp at hj⟩
 case round =>
  obtain ⟨i,rs,hi,rfl,g1,g4,g5,g6⟩:=hrel
  clear HX KB
  have HX:=Hi g1
  have KB:=Hi g4
  have HRl:=Hi g5
  have PC:=Hi g6
  clear g1 g4 g5 g6
  have HTl:Hid (((q.take i).map (fun x=>-x)).length = i):=Hi (by rw [List.length_map,List.length_take,Hm.out]; omega)
  try clear f_KB l_KB
  have f_KB:=blk_frozen KB.out
  have l_KB:=(Array.getElem?_eq_some_iff.1 KB.out).1
  by_cases h0:gk = 0
  case pos =>
   subst h0
   obtain rfl:i = m:=by omega
   have hin:¬ (i:Int) < i:=by omega
   have HE:Hid (q.take i = q):=Hi (List.take_of_length_le (by rw [Hm.out]; exact Nat.le_refl _))
   rw [HE.out] at PC HTl
   obtain ⟨ts,hts⟩:∃ ts,ts = q.map (fun x=>-x):=⟨_,rfl⟩
   have HSz:Hid (SzL 33554432 ts):=Hi (by
    intro x hx
    rw [hts] at hx
    obtain ⟨y,hy,rfl⟩:=List.mem_map.1 hx
    exact (KZ.out y hy).neg)
   have HV:Hid (subV p q = add5V p ts):=Hi (by rw [hts]; rfl)
   rw [← hts] at PC HTl
   clear hts
   have LL:Hid (NewL w.heap.size wr ⟨some ⟨L,0,none⟩,i,i⟩ ts):=Hi (PreC.list PC.out KB.out HRl.out HTl.out hLw (by omega))
   clear KB
   clear PC
   go_wp2_with fail
   refine Calls.mono (padd_any ao (some ⟨L,0,none⟩) n c i i p ts _ (H.out.ext HX.out) (LL.out.can.raw HSz.out (by decide)) hn hm HZ.out HSz.out) ?_
   rintro e w1 ⟨x1,rfl,hE,g1⟩
   have G1:=Hi g1
   clear g1
   replace HX:=hE.tr HX
   replace LL:=Hi (LL.out.ext hE)
   have hs_w1:=hE.size
   clear hE
   go_wp2
   go_ret
   exact ⟨x1,rfl,HX.out,by rw [HV.out]; exact G1.out.mono (by omega)⟩
  have hin:(i:Int) < m:=by omega
  obtain ⟨b,off,r,hao,hbl,⟨hc1,hc2,hc3⟩,hP⟩:=(K.out.ext HX.out).cells' (k:=i) (by omega)
  obtain ⟨rneg,ra,rn,rc,rb,rm,rd⟩:=r
  simp only at hc1 hc2 hc3
  subst hao
  have RP:=Hi hP
  clear hP
  go_wp2_with fail
  refine Calls.mono (rneg_any ⟨rneg,ra,rn,rc,rb,rm,rd⟩ (q.getD i 0) _ RP.out) ?_
  rintro e w4 ⟨x4,rfl,hE,g4⟩
  have G4:=Hi g4
  clear g4
  replace HX:=hE.tr HX
  replace PC:=Hi (PC.out.ext hE)
  replace KB:=hE.bl KB
  have hs_w4:=hE.size
  clear hE
  try clear f_KB l_KB
  have f_KB:=blk_frozen KB.out
  have l_KB:=(Array.getElem?_eq_some_iff.1 KB.out).1
  obtain ⟨f1,f2,f3⟩:=RBk.at (re:=#[]) KB.out (k:=i) (by rw [HRl.out]; omega)
  go_upto_region 6 with fail
  refine nm_rat (k:=i) KB.out rfl (by rw [HRl.out]; omega) ?_
  intro y6 T
  clear f1 f2 f3 hc1 hc2 hc3
  replace HX:=Hi (T.ext HX.out (by omega))
  replace PC:=Hi (PC.out.keep T.keep)
  replace KB:=Hi (T.bx)
  replace G4:=Hi (G4.out.keep T.keep)
  have hs_y6:=nle T.size
  have hr_y6:=nle T.size.symm
  clear T
  try clear f_KB l_KB
  have f_KB:=blk_frozen KB.out
  have l_KB:=(Array.getElem?_eq_some_iff.1 KB.out).1
  replace PC:=Hi (PC.out.snoc (x:=x4) (i:=i) HTl.out (by rw [HRl.out]; omega) G4.out)
  have HMp:Hid ((q.take i).map (fun x=>-x) ++ [-(q.getD i 0)] = (q.take (i + 1)).map (fun x=>-x)):=Hi (by rw [← take_snoc (by rw [Hm.out]; omega),List.map_append]; rfl)
  rw [HMp.out] at PC
  go_wp2
  go_roundg (gk - 1)
  case measure=>omega
  case rel=>exact ⟨i + 1,_,by omega,by go_num,HX.out,KB.out,by rw [List.length_set]; exact HRl.out,PC.out⟩
end Go.Proofs.YtdchjfcklppmgaaGreat
