/- Valid, of, limited, together, square of package response. -/
import Derived.Test.YtpieblkklbilgaaGreatQPM27
import Derived.Test.YtpieblkklbilgaaGreatQPM26
set_option linter.unusedVariables false
set_option maxRecDepth 8000
set_option maxHeartbeats 2000000
namespace Go.Proofs.YtpieblkklbilgaaGreat
open Go.RowKit Go.Front Go.Num Stab
attribute [local go_sem] XW.cell XW.frozen
structure FH where
 b:SH
 a:SH
abbrev FH.v (f:FH):Value:=.agg #[f.b.v,f.a.v]
def RawF (w:World) (f:FH) (b a:List Rat):Prop:=RawL w f.b b∧RawL w f.a a
def CanF (w:World) (f:FH) (b a:List Rat):Prop:=CanL w f.b b∧CanL w f.a a
theorem RawF.ext {w w':World} {f:FH} {b a:List Rat} (h:RawF w f b a) (he:Ext w w'):RawF w' f b a:=⟨h.1.ext he,h.2.ext he⟩
theorem CanF.ext {w w':World} {f:FH} {b a:List Rat} (h:CanF w f b a) (he:Ext w w'):CanF w' f b a:=⟨h.1.ext he,h.2.ext he⟩
theorem CanF.raw {w:World} {f:FH} {b a:List Rat} {s:Nat} (h:CanF w f b a) (hb:SzL s b) (ha:SzL s a) (hs:s≤134217728):RawF w f b a:=⟨h.1.raw hb hs,h.2.raw ha hs⟩
def VF (b a:List Rat):Prop:=(tz b).length≤49∧(tz a).length≤49∧a.getD 0 0=1
instance (b a:List Rat):Decidable (VF b a):=by unfold VF;exact inferInstance
theorem nm_setF {w1:World} {b:Nat} {T:TypeId} {c0 c1 v0 v1:Value} {F:World→Prop} (hb:w1.heap[b]?=some (.cells #[c0,c1] T (0,0))) (hn:#[c0,c1].toList.all nonU=true) (h:∀ w2,PutB w1 b T #[v0,v1] w2→F w2) :
  F ((w1.setCell ⟨b,0,none⟩ v0).setCell ⟨b,1,none⟩ v1) :=
 h _ (PutB.of (Array.getElem?_eq_some_iff.1 hb).1 (noU_block hb hn) ((Mods.setCell w1 ⟨b,0,none⟩ v0).trans (Mods.setCell _ ⟨b,1,none⟩ v1)) (by simp [World.setCell]) (blk_set (blk_set hb 0 v0) 1 v1))
theorem valid20_any (f:FH) (b a:List Rat) (w:World) (h:RawF w f b a) :
  Does 124 [f.v] w (fun _:Unit=>.bool (decide (VF b a))) (fun _ _=>True):=by
 obtain ⟨⟨ba,bn,bc⟩,⟨aa,an,ac⟩⟩:=f
 have HB:=Hi h.1
 have HA:=Hi h.2
 have HX:=Hi (Ext.refl w)
 have hal:=h.2.len
 have hle:=h.2.le
 have hmx:=h.2.max
 simp only at hal hle hmx
 have Hal:=Hi hal
 clear h hal
 obtain ⟨P,hP⟩:∃ P,P=(tz b).length:=⟨_,rfl⟩
 obtain ⟨Q,hQ⟩:∃ Q,Q=(tz a).length:=⟨_,rfl⟩
 have HV:Hid (VF b a↔P≤49∧Q≤49∧a.getD 0 0=1):=Hi (by unfold VF;rw [hP,hQ])
 have HP:=Hi hP
 have HQ:=Hi hQ
 clear hP hQ
 unfold Does
 simp only [FH.v,SH.v]
 go_enter Tryz.func124,Tryz.ntmps124
 go_upto_region 1 with fail
 refine nm_alloc ?_
 intro w1 hE hB0 hz
 have hz_w1:=nle hz
 have hr_w1:=nle hz.symm
 clear hz
 replace HX:=hE.tr HX
 have hs_w1:=hE.size
 clear hE
 have B1:=Hi hB0
 clear hB0
 obtain ⟨c_B1,f_B1,l_B1⟩:=blk3 B1.out
 obtain ⟨b1,hb1⟩:∃ b1,b1=w.heap.size:=⟨_,rfl⟩
 have hbw:w.heap.size≤b1:=by omega
 rw [← hb1] at B1 ⊢
 clear hb1 c_B1 f_B1 l_B1
 try clear c_B1 f_B1 l_B1
 obtain ⟨c_B1,f_B1,l_B1⟩:=blk3 B1.out
 go_wp2_with fail
 refine Calls.mono (pdegree_any ba bn bc b _ (HB.out.ext HX.out)) ?_
 rintro e w2 ⟨x2,rfl,hE,-⟩
 replace HX:=hE.tr HX
 replace B1:=hE.bl B1
 have hs_w2:=hE.size
 clear hE
 try clear c_B1 f_B1 l_B1
 obtain ⟨c_B1,f_B1,l_B1⟩:=blk3 B1.out
 rw [← HP.out]
 by_cases hp:P≤49
 case neg =>
  have hp1:(48:Int) < (P:Int) - 1:=by omega
  have HD:Hid (decide (VF b a)=false):=Hi (decide_eq_false (fun h=>hp (HV.out.1 h).1))
  go_wp2
  go_ret
  exact ⟨(),by rw [HD.out];rfl,HX.out,trivial⟩
 have hp1:¬ (48:Int) < (P:Int) - 1:=by omega
 go_wp2_with fail
 refine Calls.mono (pdegree_any aa an ac a _ (HA.out.ext HX.out)) ?_
 rintro e w3 ⟨x3,rfl,hE,-⟩
 replace HX:=hE.tr HX
 replace B1:=hE.bl B1
 have hs_w3:=hE.size
 clear hE
 try clear c_B1 f_B1 l_B1
 obtain ⟨c_B1,f_B1,l_B1⟩:=blk3 B1.out
 rw [← HQ.out]
 by_cases hq:Q≤49
 case neg =>
  have hq1:(48:Int) < (Q:Int) - 1:=by omega
  have HD:Hid (decide (VF b a)=false):=Hi (decide_eq_false (fun h=>hq (HV.out.1 h).2.1))
  go_wp2
  go_ret
  exact ⟨(),by rw [HD.out];rfl,HX.out,trivial⟩
 have hq1:¬ (48:Int) < (Q:Int) - 1:=by omega
 by_cases h0:an=0
 case pos =>
  subst h0
  have HD:Hid (decide (VF b a)=false):=Hi (decide_eq_false (fun h=>by
   have h1:=(HV.out.1 h).2.2
   rw [pd_over (by rw [Hal.out];exact Nat.zero_le _)] at h1
   exact absurd h1 (by decide)))
  go_upto_region 3 with fail
  go_quiet (fail)
  go_wp2
  go_ret
  exact ⟨(),by rw [HD.out];rfl,HX.out.trans (Ext.drewN _ _),trivial⟩
 have han:0 < an:=by omega
 have hanI:(0:Int) < an:=by omega
 obtain ⟨bx,off,r,hao,hbl,⟨hc1,hc2,hc3⟩,hPc⟩:=(HA.out.ext HX.out).cells' (k:=0) (by omega)
 obtain ⟨rneg,ra,rn,rc,rb,rm,rd⟩:=r
 simp only [Nat.zero_mul,Nat.add_zero] at hc1 hc2 hc3
 have HC:=Hi hPc
 clear hPc
 subst hao
 obtain ⟨cc,hcc⟩:∃ cc,cc=cmpR (a.getD 0 0) ((1:Int):Rat):=⟨_,rfl⟩
 have HCC:=Hi hcc
 have HD:Hid (decide (VF b a)=decide (cc=0)):=Hi (by
  congr 1
  rw [HV.out,hcc,pcmp_eq]
  exact propext ⟨fun h=>h.2.2,fun h=>⟨hp,hq,h⟩⟩)
 clear hcc
 go_upto_region 3 with fail
 refine wp_region_front 11 (fun opIx=>match opIx with
  | 9=>.spec RH default RH.v (fun s w'=>CanR w' s (((1:Int):Rat)))
  | 10=>.spec Unit () (fun _=>.int .i64 cc) (fun _ _=>True)
  | _=>.quiet) (fun | 10=>[9] | _=>[]) (by kernel_rfl) (by kernel_rfl) (fun w0 he0 hz0 hc0 hf0=>?_)
 replace he0:=Hi he0
 simp only [pT]
 repeat (refine wpq fun K h=>?_;go_big_quiet_op;refine h _ ?_;clear h K;(try rw [decide_eq_true han]))
 refine wps he0.out rfl rfl (fun w1 hW hG=>?_) fun x9=>?_
 ·exact spc [.int .i64 1] Tryz.func128 (rof_any 1 _ (by decide) (by decide))
 simp only [pS]
 repeat (refine wpq fun K h=>?_;go_big_quiet_op;refine h _ ?_;clear h K;(try rw [decide_eq_true han]))
 refine wps he0.out rfl rfl (fun w1 hW hG=>?_) fun x10=>?_
 ·have g9:=(hG 9 (by decide):Since _ _).get fun _ e g=>g.ext e
  exact spc [RH.v ⟨rneg,ra,rn,rc,rb,rm,rd⟩,x9.v] Tryz.func98 ((by rw [HCC.out];exact rcmp_any _ x9 _ _ _ (HC.out.ext hW) (g9.raw (Sz.int (by decide)) (by decide))))
 simp only [pS]
 repeat (refine wpq fun K h=>?_;go_big_quiet_op;refine h _ ?_;clear h K;(try rw [decide_eq_true han]))
 refine wpF_nil ?_
 intro w4 hI
 have hE:=he0.out.trans hI.ext
 have G9:=Hi ((hI.facts 9:Since _ _).get fun _ e g=>g.ext e)
 clear hI he0 hz0 hc0 hf0
 replace HX:=hE.tr HX
 replace B1:=hE.bl B1
 have hs_w4:=hE.size
 clear hE
 try clear c_B1 f_B1 l_B1
 obtain ⟨c_B1,f_B1,l_B1⟩:=blk3 B1.out
 simp only [pD]
 clear hc1 hc2 hc3
 by_cases hc0:cc=0
 case pos =>
  subst hc0
  go_wp2
  go_ret
  exact ⟨(),by rw [HD.out];rfl,HX.out,trivial⟩
 have hcb:(cc == 0)=false:=by simpa using hc0
 go_wp2
 go_ret
 exact ⟨(),by rw [HD.out,decide_eq_false hc0];rfl,HX.out,trivial⟩
abbrev sdV (s:SH):Value:=.agg #[s.v]
abbrev qdV (f:FH):Value:=.agg #[f.b.v,f.a.v]
theorem of20_any (f:FH) (b a:List Rat) (w:World) (h:RawF w f b a) (hb:f.b.n≤1000000) (ha:f.a.n≤1000000) :
  Does 127 [f.v] w qdV (fun x w'=>CanF w' x (tz b) (tz a)):=by
 obtain ⟨⟨ba,bn,bc⟩,⟨aa,an,ac⟩⟩:=f
 have HB:=Hi h.1
 have HA:=Hi h.2
 have HX:=Hi (Ext.refl w)
 simp only at hb ha
 clear h
 unfold Does
 simp only [FH.v,SH.v]
 go_enter Tryz.func127,Tryz.ntmps127
 go_upto_region 1 with fail
 refine nm_alloc2 ?_
 intro w1 hE hB0 hB1 hz
 have hz_w1:=nle hz
 have hr_w1:=nle hz.symm
 clear hz
 replace HX:=hE.tr HX
 have hs_w1:=hE.size
 clear hE
 have B1:=Hi hB0
 clear hB0
 obtain ⟨c_B1,f_B1,l_B1⟩:=blk3 B1.out
 have B2:=Hi hB1
 clear hB1
 obtain ⟨c_B2,f_B2,l_B2⟩:=blk3 B2.out
 obtain ⟨N,hN⟩:∃ N,N=w1.heap.size:=⟨_,rfl⟩
 have hN1:w1.heap.size≤N:=by omega
 have hN2:w.heap.size+1 < N:=by omega
 have HN:=Hi hN
 clear hN
 refine wp_region_front 9 (fun opIx=>match opIx with
  | 2=>.spec (SH) (default) (SH.v) (fun x w'=>NewL N w' x (tz b))
  | 6=>.spec (SH) (default) (SH.v) (fun x w'=>NewL N w' x (tz a))
  | _=>.quiet) (fun _=>[]) (by kernel_rfl) (by kernel_rfl) (fun w0 he0 hz0 hc0 hf0=>?_)
 replace he0:=Hi he0
 simp only [pT]
 repeat (refine wpq fun K h=>?_;go_big_quiet_op;refine h _ ?_;clear h K)
 refine wps he0.out rfl rfl (fun w1 hW hG=>?_) fun x2=>?_
 ·exact spc [.slice ba bn bc] Tryz.func162 ((ptrim_any ba bn bc b _ ((HB.out.ext HX.out).ext hW) (by omega)).weak (fun _ _ _ h=>h.mono (by rw [HN.out];exact hW.size)))
 simp only [pS]
 repeat (refine wpq fun K h=>?_;go_big_quiet_op;refine h _ ?_;clear h K)
 refine wps he0.out rfl rfl (fun w1 hW hG=>?_) fun x6=>?_
 ·exact spc [.slice aa an ac] Tryz.func162 ((ptrim_any aa an ac a _ ((HA.out.ext HX.out).ext hW) (by omega)).weak (fun _ _ _ h=>h.mono (by rw [HN.out];exact hW.size)))
 simp only [pS]
 repeat (refine wpq fun K h=>?_;go_big_quiet_op;refine h _ ?_;clear h K)
 refine wpF_nil ?_
 intro w2 hI
 have hE:=he0.out.trans hI.ext
 have G2:=Hi ((hI.facts 2:Since _ _).get fun _ e g=>g.ext e)
 have G6:=Hi ((hI.facts 6:Since _ _).get fun _ e g=>g.ext e)
 clear hI he0 hz0 hc0 hf0
 replace HX:=hE.tr HX
 replace B1:=hE.bl B1
 replace B2:=hE.bl B2
 have hs_w2:=hE.size
 clear hE
 try clear c_B1 f_B1 l_B1
 obtain ⟨c_B1,f_B1,l_B1⟩:=blk3 B1.out
 try clear c_B2 f_B2 l_B2
 obtain ⟨c_B2,f_B2,l_B2⟩:=blk3 B2.out
 simp only [pD]
 go_wp2
 refine nm_setF (F:=fun W=>bodyPost _ _ _ _ _ W) B2.out rfl ?_
 intro w3 T
 replace HX:=Hi (T.ext HX.out (by omega))
 replace B1:=Hi (T.rest _ _ (by omega) B1.out)
 replace B2:=Hi (T.bx)
 replace G2:=Hi (G2.out.put T (by omega))
 replace G6:=Hi (G6.out.put T (by omega))
 have hs_w3:=nle T.size
 have hr_w3:=nle T.size.symm
 clear T
 try clear c_B1 f_B1 l_B1
 obtain ⟨c_B1,f_B1,l_B1⟩:=blk3 B1.out
 try clear c_B2 f_B2 l_B2
 obtain ⟨c_B2,f_B2,l_B2⟩:=blk3 B2.out
 exact bodyPost_ret (v:=qdV ⟨x2,x6⟩) (by simp [results,Tryz.results127,go_sem,c_B2]) rfl ⟨⟨x2,x6⟩,rfl,HX.out,G2.out.can,G6.out.can⟩
abbrev FE (x:FH × Int):Value:=.tuple #[x.1.v,.int .i64 x.2]
def FEP (v:Int × List Rat × List Rat) (x:FH × Int) (w:World):Prop:=x.2=v.1∧CanF w x.1 v.2.1 v.2.2
theorem canF_nil (w:World):CanF w ⟨⟨none,0,0⟩,⟨none,0,0⟩⟩ [] []:=⟨(NewL.nil 0 w).can,(NewL.nil 0 w).can⟩
def FEN (N:Nat) (v:Int × List Rat × List Rat) (x:FH × Int) (w:World):Prop:=x.2=v.1∧NewL N w x.1.b v.2.1∧NewL N w x.1.a v.2.2
theorem FEN.ext {N:Nat} {v:Int × List Rat × List Rat} {x:FH × Int} {w w':World} (h:FEN N v x w) (he:Ext w w'):FEN N v x w':=⟨h.1,h.2.1.ext he,h.2.2.ext he⟩
theorem FEN.can {N:Nat} {v:Int × List Rat × List Rat} {x:FH × Int} {w:World} (h:FEN N v x w):FEP v x w:=⟨h.1,h.2.1.can,h.2.2.can⟩
theorem together_any (f:FH) (b a:List Rat) (w:World) (h:RawF w f b a) (hb:f.b.n≤1000000) (ha:f.a.n≤1000000) :
  Does 134 [f.v] w (fun _:Unit=>.int .i64 (((tz b).length:Int) - 1+(((tz a).length:Int) - 1))) (fun _ _=>True):=by
 obtain ⟨⟨ba,bn,bc⟩,⟨aa,an,ac⟩⟩:=f
 have HB:=Hi h.1
 have HA:=Hi h.2
 have HX:=Hi (Ext.refl w)
 have h1:(tz b).length≤1000000:=by have:=h.1.len;have h4:=tz_len_le b;simp only at this hb;omega
 have h2:(tz a).length≤1000000:=by have:=h.2.len;have h4:=tz_len_le a;simp only at this ha;omega
 obtain ⟨P,hP⟩:∃ P,P=(tz b).length:=⟨_,rfl⟩
 obtain ⟨Q,hQ⟩:∃ Q,Q=(tz a).length:=⟨_,rfl⟩
 have HP:=Hi hP
 have HQ:=Hi hQ
 rw [← hP,← hQ]
 rw [← hP] at h1
 rw [← hQ] at h2
 clear h hP hQ
 unfold Does
 simp only [FH.v,SH.v]
 go_enter Tryz.func134,Tryz.ntmps134
 go_upto_region 1 with fail
 refine nm_alloc ?_
 intro w1 hE hB0 hz
 have hz_w1:=nle hz
 have hr_w1:=nle hz.symm
 clear hz
 replace HX:=hE.tr HX
 have hs_w1:=hE.size
 clear hE
 have B1:=Hi hB0
 clear hB0
 obtain ⟨c_B1,f_B1,l_B1⟩:=blk3 B1.out
 refine wp_region_front 6 (fun opIx=>match opIx with
  | 2=>.spec Unit () (fun _=>.int .i64 ((P:Int) - 1)) (fun _ _=>True)
  | 5=>.spec Unit () (fun _=>.int .i64 ((Q:Int) - 1)) (fun _ _=>True)
  | _=>.quiet) (fun _=>[]) (by kernel_rfl) (by kernel_rfl) (fun w0 he0 hz0 hc0 hf0=>?_)
 replace he0:=Hi he0
 simp only [pT]
 repeat (refine wpq fun K h=>?_;go_big_quiet_op;refine h _ ?_;clear h K)
 refine wps he0.out rfl rfl (fun w1 hW hG=>?_) fun x2=>?_
 ·exact spc [.slice ba bn bc] Tryz.func86 ((by rw [HP.out];exact pdegree_any ba bn bc b _ ((HB.out.ext HX.out).ext hW)))
 simp only [pS]
 repeat (refine wpq fun K h=>?_;go_big_quiet_op;refine h _ ?_;clear h K)
 refine wps he0.out rfl rfl (fun w1 hW hG=>?_) fun x5=>?_
 ·exact spc [.slice aa an ac] Tryz.func86 ((by rw [HQ.out];exact pdegree_any aa an ac a _ ((HA.out.ext HX.out).ext hW)))
 simp only [pS]
 repeat (refine wpq fun K h=>?_;go_big_quiet_op;refine h _ ?_;clear h K)
 refine wpF_nil ?_
 intro w2 hI
 have hE:=he0.out.trans hI.ext
 clear hI he0 hz0 hc0 hf0
 replace HX:=hE.tr HX
 replace B1:=hE.bl B1
 have hs_w2:=hE.size
 clear hE
 try clear c_B1 f_B1 l_B1
 obtain ⟨c_B1,f_B1,l_B1⟩:=blk3 B1.out
 simp only [pD]
 go_wp2
 go_ret
 exact ⟨(),by go_num,HX.out,trivial⟩
theorem square_any (t:SH) (p:List Rat) (s:Nat) (w:World) (h:RawL w t p) (hn:t.n≤12) (hz:SzL s p) (hs1:1≤s) (hs:s≤400) :
  Does 131 [sdV t] w SH.v (fun x w'=>CanL w' x (crossV p p)):=by
 obtain ⟨ta,tn,tc⟩:=t
 have H:=Hi h
 have HX:=Hi (Ext.refl w)
 have HZ:=Hi hz
 simp only at hn
 clear h hz
 unfold Does
 simp only [sdV,SH.v]
 go_enter Tryz.func131,Tryz.ntmps131
 go_upto_region 1 with fail
 refine nm_alloc ?_
 intro w1 hE hB0 hz
 have hz_w1:=nle hz
 have hr_w1:=nle hz.symm
 clear hz
 replace HX:=hE.tr HX
 have hs_w1:=hE.size
 clear hE
 have B1:=Hi hB0
 clear hB0
 obtain ⟨c_B1,f_B1,l_B1⟩:=blk3 B1.out
 go_wp2_with fail
 refine Calls.mono (magnitude_any ta tn tc s p _ (H.out.ext HX.out) hn HZ.out hs1 hs) ?_
 rintro e w2 ⟨x2,rfl,hE,g2⟩
 have G2:=Hi g2
 clear g2
 replace HX:=hE.tr HX
 replace B1:=hE.bl B1
 have hs_w2:=hE.size
 clear hE
 try clear c_B1 f_B1 l_B1
 obtain ⟨c_B1,f_B1,l_B1⟩:=blk3 B1.out
 obtain ⟨⟨a2,n2,c2⟩,e2⟩:=x2
 obtain ⟨he,hl⟩:=G2.out
 simp only at he hl
 subst he
 simp only [RF,SH.v]
 go_wp2
 go_ret
 exact ⟨⟨a2,n2,c2⟩,rfl,HX.out,hl⟩
end Go.Proofs.YtpieblkklbilgaaGreat
