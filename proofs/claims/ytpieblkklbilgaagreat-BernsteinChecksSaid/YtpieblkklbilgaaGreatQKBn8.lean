/- Package bernstein: Prove, Coefficients. -/
import Derived.Test.YtpieblkklbilgaaGreatQKBn7
import Derived.Laws.EntriesVeiled
set_option linter.unusedVariables false
namespace Go.Proofs.YtpieblkklbilgaaGreat
open Go.RowKit Go.Front Go.Num Stab
attribute [local go_sem] XW.cell XW.frozen
theorem nm_set7 {w1:World} {b:Nat} {T:TypeId} {c0 c1 c2 c3 c4 c5 c6 v0 v1 v2 v3 v4 v5 v6:Value} {F:World→Prop} (hb:w1.heap[b]?=some (.cells #[c0,c1,c2,c3,c4,c5,c6] T (0,0))) (hn:#[c0,c1,c2,c3,c4,c5,c6].toList.all nonU=true) (h:∀ w2,PutB w1 b T #[v0,v1,v2,v3,v4,v5,v6] w2→F w2) :
  F (((((((w1.setCell ⟨b,0,none⟩ v0).setCell ⟨b,1,none⟩ v1).setCell ⟨b,2,none⟩ v2).setCell ⟨b,3,none⟩ v3).setCell ⟨b,4,none⟩ v4).setCell ⟨b,5,none⟩ v5).setCell ⟨b,6,none⟩ v6):=by
 have e0:=blk_set hb 0 v0
 simp only [List.setIfInBounds_toArray,List.set_cons_zero] at e0
 have e1:=blk_set e0 1 v1
 simp only [List.setIfInBounds_toArray,List.set_cons_zero,List.set_cons_succ] at e1
 have e2:=blk_set e1 2 v2
 simp only [List.setIfInBounds_toArray,List.set_cons_zero,List.set_cons_succ] at e2
 have e3:=blk_set e2 3 v3
 simp only [List.setIfInBounds_toArray,List.set_cons_zero,List.set_cons_succ] at e3
 have e4:=blk_set e3 4 v4
 simp only [List.setIfInBounds_toArray,List.set_cons_zero,List.set_cons_succ] at e4
 have e5:=blk_set e4 5 v5
 simp only [List.setIfInBounds_toArray,List.set_cons_zero,List.set_cons_succ] at e5
 have e6:=blk_set e5 6 v6
 simp only [List.setIfInBounds_toArray,List.set_cons_zero,List.set_cons_succ] at e6
 exact h _ (PutB.of (Array.getElem?_eq_some_iff.1 hb).1 (noU_block hb hn) (((((((Mods.setCell w1 ⟨b,0,none⟩ v0).trans (Mods.setCell _ ⟨b,1,none⟩ v1)).trans (Mods.setCell _ ⟨b,2,none⟩ v2)).trans (Mods.setCell _ ⟨b,3,none⟩ v3)).trans (Mods.setCell _ ⟨b,4,none⟩ v4)).trans (Mods.setCell _ ⟨b,5,none⟩ v5)).trans (Mods.setCell _ ⟨b,6,none⟩ v6)) (by simp [World.setCell]) e6)
abbrev zR:RH:=⟨false,none,0,0,none,0,0⟩
abbrev SgV (x:(RH × RH) × SH):Value:=.agg #[.bool x.1.1.neg,.slice x.1.1.a x.1.1.n x.1.1.c,.slice x.1.1.b x.1.1.m x.1.1.d,.bool x.1.2.neg,.slice x.1.2.a x.1.2.n x.1.2.c,.slice x.1.2.b x.1.2.m x.1.2.d,.slice x.2.a x.2.n x.2.c]
abbrev PvT (x:((RH × RH) × SH) × Int):Value:=.tuple #[SgV x.1,.int .i64 x.2]
def prV (p:List Rat) (a b:Rat):Option (List Rat):=if p=[] then none else cvV 12 a b (lcW p a b)
def PvP (B:Nat) (w:World) (x:((RH × RH) × SH) × Int) (a b:Rat) (r:Option (List Rat)):Prop :=
 match r with
 | none=>x=(((zR,zR),⟨none,0,0⟩),22)
 | some qs=>x.2=0∧IvC w x.1.1 a b∧OwnI w (B≤·) x.1.2.v x.1.2.n qs
set_option maxRecDepth 8000 in
set_option maxHeartbeats 16000000 in
theorem bprove_any (ao:Option Addr) (n cap:Nat) (l:List Rat) (s t:RH) (a b:Rat) (S T:Nat) (w:World) (h:RawL w ⟨ao,n,cap⟩ l) (hs:RawR w s a) (ht:RawR w t b) (hn:n≤1000) (h8:(tz l).length≤8) (hz:SzL S (tz l)) (za:Sz T a) (zb:Sz T b) (hS:S≤1000) (hT:T≤450) :
  Does 22 [.slice ao n cap,IvV (s,t)] w PvT (fun x w'=>PvP w.heap.size w' x (loV a b) (hiV a b) (prV (tz l) (loV a b) (hiV a b))):=by
 have HX:=Hi (Ext.refl w)
 have HS:=Hi hs
 have HT:=Hi ht
 have LA:=Hi h
 have LA0:=Hi h
 have ZA:Hid (Sz T (loV a b)):=Hi (by rcases lo_or a b with e | e <;> rw [e] <;> assumption)
 have ZB:Hid (Sz T (hiV a b)):=Hi (by rcases hi_or a b with e | e <;> rw [e] <;> assumption)
 have HZ:=Hi hz
 have hAB:=lo_hi a b
 have HWZ:Hid (∀ x ∈ lcW (tz l) (loV a b) (hiV a b),Wz (9 * S+80 * T+76) x):=Hi (lcW_wz hz h8 ZA.out ZB.out hAB)
 have HLO:Hid (loV (loV a b) (hiV a b)=loV a b):=Hi (lo_of hAB)
 have HHI:Hid (hiV (loV a b) (hiV a b)=hiV a b):=Hi (hi_of hAB)
 clear h hs ht za zb hz hAB
 obtain ⟨sn,sa,sl,sc,sb,sm,sd⟩:=s
 obtain ⟨tn,ta,tl,tc,tb,tm,td⟩:=t
 obtain ⟨N,hN⟩:∃ N,N=(tz l).length:=⟨_,rfl⟩
 have HN:=Hi hN
 unfold Does
 go_enter Tryz.func22,Tryz.ntmps22
 go_upto_region 1 with fail
 refine nm_alloc2 ?_
 intro w1 hE hB0 hB1 hz
 have hz_w1:=nle hz
 have hr_w1:=nle hz.symm
 clear hz
 replace HX:=hE.tr HX
 replace HS:=Hi (HS.out.ext hE)
 replace HT:=Hi (HT.out.ext hE)
 replace LA:=Hi (LA.out.ext hE)
 have hs_w1:=hE.size
 clear hE
 have B3:=Hi hB0
 clear hB0
 obtain ⟨c_B3,f_B3,l_B3⟩:=blk3 B3.out
 have B4:=Hi hB1
 clear hB1
 obtain ⟨c_B4,f_B4,l_B4⟩:=blk3 B4.out
 go_wp2_with fail
 refine Calls.mono (pdegree_any ao n cap l _ LA.out) ?_
 rintro e w12 ⟨x12,rfl,hE,-⟩
 replace HX:=hE.tr HX
 replace HS:=Hi (HS.out.ext hE)
 replace HT:=Hi (HT.out.ext hE)
 replace LA:=Hi (LA.out.ext hE)
 replace B3:=hE.bl B3
 replace B4:=hE.bl B4
 have hs_w12:=hE.size
 clear hE
 try clear c_B3 f_B3 l_B3
 obtain ⟨c_B3,f_B3,l_B3⟩:=blk3 B3.out
 try clear c_B4 f_B4 l_B4
 obtain ⟨c_B4,f_B4,l_B4⟩:=blk3 B4.out
 rw [← hN]
 rw [← hN] at h8
 clear hN
 have hd1:¬ (48:Int) < (N:Int) - 1:=by omega
 by_cases h0:N=0
 case pos =>
  subst h0
  have hd2:((0:Nat):Int) - 1 < 0:=by decide
  have HV:Hid (prV (tz l) (loV a b) (hiV a b)=none):=Hi (by unfold prV;rw [if_pos (List.length_eq_zero_iff.1 HN.out.symm)])
  clear LA
  clear HS
  clear HT
  go_wp2
  refine nm_set7 B4.out (by rfl) ?_
  intro w2 T
  replace HX:=Hi (T.ext HX.out (by omega))
  replace B3:=Hi (T.rest _ _ (by omega) B3.out)
  replace B4:=Hi (T.bx)
  have hs_w2:=nle T.size
  have hr_w2:=nle T.size.symm
  clear T
  try clear c_B3 f_B3 l_B3
  obtain ⟨c_B3,f_B3,l_B3⟩:=blk3 B3.out
  try clear c_B4 f_B4 l_B4
  obtain ⟨c_B4,f_B4,l_B4⟩:=blk3 B4.out
  exact bodyPost_ret (v:=PvT (((zR,zR),⟨none,0,0⟩),22)) (by simp [results,Tryz.results22,go_sem,blk_cell B4.out]) rfl ⟨(((zR,zR),⟨none,0,0⟩),22),rfl,HX.out,by rw [HV.out];rfl⟩
 have hd2:¬ (N:Int) - 1 < 0:=by omega
 have HP0:Hid (tz l ≠ []):=Hi (fun h=>h0 (by rw [HN.out,h];rfl))
 clear LA
 go_upto_region 8 with fail
 refine nm_alloc2 ?_
 intro w13 hE hB0 hB1 hz
 have hz_w13:=nle hz
 have hr_w13:=nle hz.symm
 clear hz
 replace HX:=hE.tr HX
 replace HS:=Hi (HS.out.ext hE)
 replace HT:=Hi (HT.out.ext hE)
 replace B3:=hE.bl B3
 replace B4:=hE.bl B4
 have hs_w13:=hE.size
 clear hE
 try clear c_B3 f_B3 l_B3
 obtain ⟨c_B3,f_B3,l_B3⟩:=blk3 B3.out
 try clear c_B4 f_B4 l_B4
 obtain ⟨c_B4,f_B4,l_B4⟩:=blk3 B4.out
 have B7:=Hi hB0
 clear hB0
 obtain ⟨c_B7,f_B7,l_B7⟩:=blk3 B7.out
 have B8:=Hi hB1
 clear hB1
 obtain ⟨c_B8,f_B8,l_B8⟩:=blk3 B8.out
 go_upto_region 9 with fail
 refine nm_set1 B8.out rfl ?_
 intro w14 T
 replace HX:=Hi (T.ext HX.out (by omega))
 replace HS:=Hi (HS.out.keep T.keep)
 replace HT:=Hi (HT.out.keep T.keep)
 replace B3:=Hi (T.rest _ _ (by omega) B3.out)
 replace B4:=Hi (T.rest _ _ (by omega) B4.out)
 replace B7:=Hi (T.rest _ _ (by omega) B7.out)
 replace B8:=Hi (T.bx)
 have hs_w14:=nle T.size
 have hr_w14:=nle T.size.symm
 clear T
 try clear c_B3 f_B3 l_B3
 obtain ⟨c_B3,f_B3,l_B3⟩:=blk3 B3.out
 try clear c_B4 f_B4 l_B4
 obtain ⟨c_B4,f_B4,l_B4⟩:=blk3 B4.out
 try clear c_B7 f_B7 l_B7
 obtain ⟨c_B7,f_B7,l_B7⟩:=blk3 B7.out
 try clear c_B8 f_B8 l_B8
 obtain ⟨c_B8,f_B8,l_B8⟩:=blk3 B8.out
 go_wp2_with fail
 refine Calls.mono (ivtrim_any ⟨sn,sa,sl,sc,sb,sm,sd⟩ ⟨tn,ta,tl,tc,tb,tm,td⟩ a b _ HS.out HT.out) ?_
 rintro e w23 ⟨x23,rfl,hE,g23⟩
 have G23:=Hi g23
 clear g23
 replace HX:=hE.tr HX
 replace HS:=Hi (HS.out.ext hE)
 replace HT:=Hi (HT.out.ext hE)
 replace B3:=hE.bl B3
 replace B4:=hE.bl B4
 replace B7:=hE.bl B7
 replace B8:=hE.bl B8
 have hs_w23:=hE.size
 clear hE
 try clear c_B3 f_B3 l_B3
 obtain ⟨c_B3,f_B3,l_B3⟩:=blk3 B3.out
 try clear c_B4 f_B4 l_B4
 obtain ⟨c_B4,f_B4,l_B4⟩:=blk3 B4.out
 try clear c_B7 f_B7 l_B7
 obtain ⟨c_B7,f_B7,l_B7⟩:=blk3 B7.out
 try clear c_B8 f_B8 l_B8
 obtain ⟨c_B8,f_B8,l_B8⟩:=blk3 B8.out
 clear HS
 clear HT
 obtain ⟨⟨ln,la,ll,lc,lb,lm,ld⟩,⟨hn',ha,hl,hcc,hb,hm,hd⟩⟩:=x23
 have HL:=Hi G23.out.1
 have HH:=Hi G23.out.2
 clear G23
 simp only at HL HH
 go_upto_region 10 with fail
 refine nm_set6 B3.out rfl ?_
 intro w24 T
 replace HX:=Hi (T.ext HX.out (by omega))
 replace B3:=Hi (T.bx)
 replace B4:=Hi (T.rest _ _ (by omega) B4.out)
 replace B7:=Hi (T.rest _ _ (by omega) B7.out)
 replace B8:=Hi (T.rest _ _ (by omega) B8.out)
 replace HL:=Hi (HL.out.keep T.keep)
 replace HH:=Hi (HH.out.keep T.keep)
 have hs_w24:=nle T.size
 have hr_w24:=nle T.size.symm
 clear T
 try clear c_B3 f_B3 l_B3
 obtain ⟨c_B3,f_B3,l_B3⟩:=blk3 B3.out
 try clear c_B4 f_B4 l_B4
 obtain ⟨c_B4,f_B4,l_B4⟩:=blk3 B4.out
 try clear c_B7 f_B7 l_B7
 obtain ⟨c_B7,f_B7,l_B7⟩:=blk3 B7.out
 try clear c_B8 f_B8 l_B8
 obtain ⟨c_B8,f_B8,l_B8⟩:=blk3 B8.out
 have LA1:=Hi (LA0.out.ext HX.out)
 go_wp2_with fail
 refine Calls.mono (blocal_any ao n cap l ⟨ln,la,ll,lc,lb,lm,ld⟩ ⟨hn',ha,hl,hcc,hb,hm,hd⟩ (loV a b) (hiV a b) S T _ LA1.out (HL.out.raw ZA.out (by omega)) (HH.out.raw ZB.out (by omega)) hn HP0.out (by rw [← HN.out];exact h8) HZ.out ZA.out ZB.out hS hT) ?_
 rintro e w27 ⟨x27,rfl,hE,g27⟩
 have G27:=Hi g27
 clear g27
 replace HX:=hE.tr HX
 replace B3:=hE.bl B3
 replace B4:=hE.bl B4
 replace B7:=hE.bl B7
 replace B8:=hE.bl B8
 replace HL:=Hi (HL.out.ext hE)
 replace HH:=Hi (HH.out.ext hE)
 have hs_w27:=hE.size
 clear hE
 try clear c_B3 f_B3 l_B3
 obtain ⟨c_B3,f_B3,l_B3⟩:=blk3 B3.out
 try clear c_B4 f_B4 l_B4
 obtain ⟨c_B4,f_B4,l_B4⟩:=blk3 B4.out
 try clear c_B7 f_B7 l_B7
 obtain ⟨c_B7,f_B7,l_B7⟩:=blk3 B7.out
 try clear c_B8 f_B8 l_B8
 obtain ⟨c_B8,f_B8,l_B8⟩:=blk3 B8.out
 rw [HLO.out,HHI.out] at G27
 obtain ⟨x28,⟨zn,za,zl,zc,zb,zm,zd⟩⟩:=x27
 obtain ⟨⟨Lw,hLw,hxw,hRw⟩,hz27⟩:=G27.out
 simp only at hxw
 rw [lc_len,← HN.out] at hxw
 subst hxw
 have HR:=Hi hRw
 clear hRw hz27 G27 LA1
 go_upto_region 11 with fail
 refine nm_alloc ?_
 intro w30 hE hB0 hz
 have hz_w30:=nle hz
 have hr_w30:=nle hz.symm
 clear hz
 replace HX:=hE.tr HX
 replace B3:=hE.bl B3
 replace B4:=hE.bl B4
 replace B7:=hE.bl B7
 replace B8:=hE.bl B8
 replace HL:=Hi (HL.out.ext hE)
 replace HH:=Hi (HH.out.ext hE)
 replace HR:=Hi (HR.out.ext hE)
 have hs_w30:=hE.size
 clear hE
 try clear c_B3 f_B3 l_B3
 obtain ⟨c_B3,f_B3,l_B3⟩:=blk3 B3.out
 try clear c_B4 f_B4 l_B4
 obtain ⟨c_B4,f_B4,l_B4⟩:=blk3 B4.out
 try clear c_B7 f_B7 l_B7
 obtain ⟨c_B7,f_B7,l_B7⟩:=blk3 B7.out
 try clear c_B8 f_B8 l_B8
 obtain ⟨c_B8,f_B8,l_B8⟩:=blk3 B8.out
 have B10:=Hi hB0
 clear hB0
 obtain ⟨c_B10,f_B10,l_B10⟩:=blk3 B10.out
 go_wp2_with fail
 have hcv:CvI w30 w12.heap.size (w12.heap.size+1) (fun _=>False) 0 [] (.slice none 0 0):=⟨B7.out,B8.out,OwnI.nil _ _,fun k h=>h.elim,by omega⟩
 refine Calls.mono (cover_any w12.heap.size (w12.heap.size+1) N (by omega) (by omega) 12 0 rfl ⟨ln,la,ll,lc,lb,lm,ld⟩ ⟨hn',ha,hl,hcc,hb,hm,hd⟩ (loV a b) (hiV a b) (some ⟨Lw,0,none⟩) N (lcW (tz l) (loV a b) (hiV a b)) T (9 * S+80 * T+76) 0 (.slice none 0 0) (fun _=>False) [] _ HL.out HH.out ZA.out ZB.out (by omega) (RowC.can HR.out (by rw [lc_len,← HN.out]) (Nat.le_refl _) (by omega)) HWZ.out (by omega) (by omega) hcv (by decide)) ?_
 rintro r5 w31 ⟨rfl,m1,k1,v1,n1',D1,qs1,⟨cb,cf,co,cD,-⟩,hD1,hn1',hx1⟩
 have hE7:∀ k,k ≠ w12.heap.size→¬ (k=w12.heap.size ∨ False):=fun k hk h=>h.elim hk id
 obtain ⟨va,vc,rfl⟩:=co.sh
 replace HX:=Hi (Ext.mods HX.out m1 (fun k h=>h.elim (fun h=>by omega) (fun h=>h.elim)))
 replace B3:=Hi (m1.blk (hE7 _ (by omega)) B3.out)
 replace B4:=Hi (m1.blk (hE7 _ (by omega)) B4.out)
 replace HL:=Hi (HL.out.keep k1)
 replace HH:=Hi (HH.out.keep k1)
 have HO:Hid (OwnI w31 (fun k=>w30.heap.size≤k) (.slice va n1' vc) n1' qs1):=Hi (co.mono (fun k _ h=>(hD1 k h).resolve_left id))
 replace B7:=Hi cb
 have hsz31:=m1.size
 have HX1:=Hi hx1
 have HPV:Hid (prV (tz l) (loV a b) (hiV a b)=cvV 12 (loV a b) (hiV a b) (lcW (tz l) (loV a b) (hiV a b))):=Hi (if_neg HP0.out)
 clear m1 k1 cb cf co cD hD1 hx1 hcv B8 B10 HR c_B3 f_B3 l_B3 c_B4 f_B4 l_B4 c_B7 f_B7 l_B7 c_B8 f_B8 l_B8 c_B10 f_B10 l_B10
 try clear c_B3 f_B3 l_B3
 obtain ⟨c_B3,f_B3,l_B3⟩:=blk3 B3.out
 try clear c_B4 f_B4 l_B4
 obtain ⟨c_B4,f_B4,l_B4⟩:=blk3 B4.out
 try clear c_B7 f_B7 l_B7
 obtain ⟨c_B7,f_B7,l_B7⟩:=blk3 B7.out
 rcases hc1:cvV 12 (loV a b) (hiV a b) (lcW (tz l) (loV a b) (hiV a b)) with _ | xs
 case none =>
  have HV:Hid (prV (tz l) (loV a b) (hiV a b)=none):=Hi (by rw [HPV.out,hc1])
  clear hc1
  simp only [Option.isSome]
  go_wp2
  refine nm_set7 B4.out (by rfl) ?_
  intro w40 T
  replace HX:=Hi (T.ext HX.out (by omega))
  replace HL:=Hi (HL.out.keep T.keep)
  replace HH:=Hi (HH.out.keep T.keep)
  replace B3:=Hi (T.rest _ _ (by omega) B3.out)
  replace B4:=Hi (T.bx)
  replace B7:=Hi (T.rest _ _ (by omega) B7.out)
  replace HO:=Hi (HO.out.put T (by intro h;(try dsimp only at h);omega))
  have hs_w40:=nle T.size
  have hr_w40:=nle T.size.symm
  clear T
  try clear c_B3 f_B3 l_B3
  obtain ⟨c_B3,f_B3,l_B3⟩:=blk3 B3.out
  try clear c_B4 f_B4 l_B4
  obtain ⟨c_B4,f_B4,l_B4⟩:=blk3 B4.out
  try clear c_B7 f_B7 l_B7
  obtain ⟨c_B7,f_B7,l_B7⟩:=blk3 B7.out
  exact bodyPost_ret (v:=PvT (((zR,zR),⟨none,0,0⟩),22)) (by simp [results,Tryz.results22,go_sem,blk_cell B4.out]) rfl ⟨(((zR,zR),⟨none,0,0⟩),22),rfl,HX.out,by rw [HV.out];rfl⟩
 case some =>
 have HV:Hid (prV (tz l) (loV a b) (hiV a b)=some xs):=Hi (by rw [HPV.out,hc1])
 have HQ:Hid (qs1=xs):=Hi (HX1.out xs hc1)
 clear hc1
 simp only [Option.isSome]
 go_wp2
 refine nm_set7 B4.out (by rfl) ?_
 intro w40 T
 replace HX:=Hi (T.ext HX.out (by omega))
 replace HL:=Hi (HL.out.keep T.keep)
 replace HH:=Hi (HH.out.keep T.keep)
 replace B3:=Hi (T.rest _ _ (by omega) B3.out)
 replace B4:=Hi (T.bx)
 replace B7:=Hi (T.rest _ _ (by omega) B7.out)
 replace HO:=Hi (HO.out.put T (by intro h;(try dsimp only at h);omega))
 have hs_w40:=nle T.size
 have hr_w40:=nle T.size.symm
 clear T
 try clear c_B3 f_B3 l_B3
 obtain ⟨c_B3,f_B3,l_B3⟩:=blk3 B3.out
 try clear c_B4 f_B4 l_B4
 obtain ⟨c_B4,f_B4,l_B4⟩:=blk3 B4.out
 try clear c_B7 f_B7 l_B7
 obtain ⟨c_B7,f_B7,l_B7⟩:=blk3 B7.out
 exact bodyPost_ret (v:=PvT (((⟨ln,la,ll,lc,lb,lm,ld⟩,⟨hn',ha,hl,hcc,hb,hm,hd⟩),⟨va,n1',vc⟩),0)) (by simp [results,Tryz.results22,go_sem,blk_cell B4.out]) rfl
  ⟨(((⟨ln,la,ll,lc,lb,lm,ld⟩,⟨hn',ha,hl,hcc,hb,hm,hd⟩),⟨va,n1',vc⟩),0),rfl,HX.out,by
   rw [HV.out]
   exact ⟨rfl,⟨HL.out,HH.out⟩,by rw [← HQ.out];exact HO.out.mono (fun k _ h=>by have h:w30.heap.size≤k:=h;omega)⟩⟩
end Go.Proofs.YtpieblkklbilgaaGreat
