/- Bound of the reference 07; Same of zeros. -/
import Derived.Test.YtpieblkklbilgaaGreatQEBnG
import Derived.Test.YtpieblkklbilgaaGreatQEBnB
import Derived.Test.YtpieblkklbilgaaGreatQEBn8
set_option linter.unusedVariables false
set_option maxRecDepth 8000
set_option maxHeartbeats 8000000
namespace Go.Proofs.YtpieblkklbilgaaGreat
open Go.RowKit Go.Front Go.Num Stab
attribute [local go_sem] XW.cell XW.frozen
theorem rsame3_zero (w:World):Does 116 [RH.v zR,RH.v zR] w (fun _:Unit=>.bool true) (fun _ _=>True):=by
 have U:=Hi (u32_none w)
 unfold Does
 go_enter Tryz.func116,Tryz.ntmps116
 go_wp2_with fail
 refine Calls.mono (isame2_any ⟨false,none,0,0⟩ ⟨false,none,0,0⟩ [] [] _ (U.out.ext Ext.al2) (U.out.ext Ext.al2)) ?_
 rintro e w1 ⟨x1,rfl,hE,g1⟩
 have G1:=Hi g1
 clear g1
 obtain ⟨hcw,hfw⟩:=bcellE hE
 have hsw:=hE.size
 (try simp only [World.size_alloc] at hsw)
 have hs0:w.heap.size < w1.heap.size:=by omega
 have hs1:w.heap.size+1 < w1.heap.size:=by omega
 have E1:=Hi ((Ext.al2).trans hE)
 have X1:=Hi hE
 clear hE
 simp only [and_self,decide_true]
 go_wp2_with fail
 refine Calls.mono (same1_any ⟨none,0,0⟩ ⟨none,0,0⟩ [] [] _ (U.out.ext E1.out) (U.out.ext E1.out)) ?_
 rintro e w2 ⟨x2,rfl,hE,g2⟩
 have G2:=Hi g2
 clear g2
 obtain ⟨hcw,hfw⟩:=bcellE hE
 have hsw:=hE.size
 (try simp only [World.size_alloc] at hsw)
 have hs0:w.heap.size < w2.heap.size:=by omega
 have hs1:w.heap.size+1 < w2.heap.size:=by omega
 have E2:=Hi ((E1.out).trans hE)
 have X2:=Hi hE
 clear hE
 simp only [decide_true]
 go_wp2
 go_ret
 exact ⟨(),rfl,E2.out,trivial⟩
theorem ivsame4_zero (w:World):Does 44 [IvV (zR,zR),IvV (zR,zR)] w (fun _:Unit=>.bool true) (fun _ _=>True):=by
 have HX:=Hi (Ext.refl w)
 unfold Does
 go_enter Tryz.func44,Tryz.ntmps44
 go_upto_region 1 with fail
 refine nm_alloc2 ?_
 intro w1 hE hB0 hB1 hz
 have hz_w1:=nle hz
 have hr_w1:=nle hz.symm
 clear hz
 replace HX:=hE.tr HX
 have hs_w1:=hE.size
 clear hE
 have B2:=Hi hB0
 clear hB0
 obtain ⟨c_B2,f_B2,l_B2⟩:=blk3 B2.out
 have B3:=Hi hB1
 clear hB1
 obtain ⟨c_B3,f_B3,l_B3⟩:=blk3 B3.out
 go_wp2_with fail
 refine Calls.mono (rsame3_zero _) ?_
 rintro e w9 ⟨x9,rfl,hE,-⟩
 replace HX:=hE.tr HX
 replace B2:=hE.bl B2
 replace B3:=hE.bl B3
 have hs_w9:=hE.size
 clear hE
 try clear c_B2 f_B2 l_B2
 obtain ⟨c_B2,f_B2,l_B2⟩:=blk3 B2.out
 try clear c_B3 f_B3 l_B3
 obtain ⟨c_B3,f_B3,l_B3⟩:=blk3 B3.out
 go_wp2_with fail
 refine Calls.mono (rsame3_zero _) ?_
 rintro e w15 ⟨x15,rfl,hE,-⟩
 replace HX:=hE.tr HX
 replace B2:=hE.bl B2
 replace B3:=hE.bl B3
 have hs_w15:=hE.size
 clear hE
 try clear c_B2 f_B2 l_B2
 obtain ⟨c_B2,f_B2,l_B2⟩:=blk3 B2.out
 try clear c_B3 f_B3 l_B3
 obtain ⟨c_B3,f_B3,l_B3⟩:=blk3 B3.out
 go_wp2
 go_ret
 exact ⟨(),rfl,HX.out,trivial⟩
theorem rb_sz {S:Nat} {p:List Rat} (hp:SzL S p) (h8:p.length≤8) (d:Nat):∀ {a b:Rat} {T:Nat},a≤b→Sz T a→Sz T b→(T+3) * 2 ^ d≤63→Sz (17 * S+112 * 60+116) (rbn d p a b)∧Sz (17 * S+112 * 60+116) (rbx d p a b):=by
  induction d with
  | zero =>
    intro a b T hab za zb hT
    have h:=mL_sz (bcL_szl hp h8 za zb hab) (by omega)
    exact ⟨h.1.mono (by omega),h.2.mono (by omega)⟩
  | succ d ih =>
    intro a b T hab za zb hT
    obtain ⟨g1,g2⟩:=md_le hab
    have zm:=md_sz za zb
    have e : (2 * T + 3 + 3) * 2 ^ d ≤ 63 := by rw [Nat.pow_succ] at hT; have : (2 * T + 3 + 3) * 2 ^ d = (T + 3) * (2 ^ d * 2) := by grind
                                                omega
    have h1:=ih g1 (za.mono (by omega)) zm e
    have h2:=ih g2 zm (zb.mono (by omega)) e
    unfold rbn rbx mnF mxF
    constructor <;> split
    · exact h2.1
    · exact h1.1
    · exact h2.2
    · exact h1.2
theorem rb_le' (d:Nat) (p:List Rat) {a b:Rat} (h:a≤b):rbn d p a b≤rbx d p a b:=by
 by_cases hp:p=[]
 ·subst hp;rw [(rb_nil d a b).1,(rb_nil d a b).2];exact Rat.le_refl
 ·exact rb_le hp d h
def BndP (d:Nat):Prop :=
 ∀ (ao:Option Addr) (n cap:Nat) (l:List Rat) (s t:RH) (a b:Rat) (S T:Nat) (w:World),RawL w ⟨ao,n,cap⟩ l→RawR w s a→RawR w t b→n≤1000→(tz l).length≤8→FrB S (tz l)→Sz T a→Sz T b→S≤100→1≤T→(T+3) * 2 ^ d≤63→a≤b →
  Does 115 [.slice ao n cap,IvV (s,t),.int .i64 (d:Nat)] w IvV (fun x w'=>IvC w' x (rbn d (tz l) a b) (rbx d (tz l) a b))
theorem rbnd_step (d:Nat) (hd12:d≤12) (ih:∀ d',d=d'+1→BndP d'):BndP d:=by
 intro ao n cap l s t a b S T w h hs ht hn h8 hz za zb hS hT1 hT hab
 have HX:=Hi (Ext.refl w)
 have LA:=Hi h
 have HS:=Hi hs
 have HT:=Hi ht
 have HZ:=Hi hz
 have ZA:=Hi za
 have ZB:=Hi zb
 have HAB:=Hi hab
 have IH:=Hi ih
 have hT60:T≤60:=by have:=Nat.le_mul_of_pos_right (T+3) (Nat.two_pow_pos d);omega
 have HBZ:=Hi (rb_sz hz.sz h8 d hab za zb hT)
 clear h hs ht hz za zb hab ih
 obtain ⟨sn,sa,sl,sc,sb,sm',sd⟩:=s
 obtain ⟨tn,ta,tl,tc,tb,tm,td⟩:=t
 unfold Does
 go_enter Tryz.func115,Tryz.ntmps115
 go_upto_region 1 with fail
 refine nm_alloc2 ?_
 intro w1 hE hB0 hB1 hz
 have hz_w1:=nle hz
 have hr_w1:=nle hz.symm
 clear hz
 replace HX:=hE.tr HX
 replace HS:=Hi (HS.out.ext hE)
 replace HT:=Hi (HT.out.ext hE)
 replace LA:=Hi (LA.out.ext hE)
 have hs_w1:=hE.size
 clear hE
 have B4:=Hi hB0
 clear hB0
 obtain ⟨c_B4,f_B4,l_B4⟩:=blk3 B4.out
 have B6:=Hi hB1
 clear hB1
 obtain ⟨c_B6,f_B6,l_B6⟩:=blk3 B6.out
 cases d with
 | zero =>
  have hd:((0:Nat):Int)=0:=rfl
  go_wp2_with fail
  refine Calls.mono ((by have h:=rrange7_any ao n cap l ⟨sn,sa,sl,sc,sb,sm',sd⟩ ⟨tn,ta,tl,tc,tb,tm,td⟩ a b S T _ LA.out HS.out HT.out hn h8 HZ.out ZA.out ZB.out hS hT1 hT60;rw [lo_of HAB.out,hi_of HAB.out] at h;exact h)) ?_
  rintro e w12 ⟨x12,rfl,hE,g12⟩
  have G12:=Hi g12
  clear g12
  replace HX:=hE.tr HX
  replace HS:=Hi (HS.out.ext hE)
  replace HT:=Hi (HT.out.ext hE)
  replace LA:=Hi (LA.out.ext hE)
  replace B4:=hE.bl B4
  replace B6:=hE.bl B6
  have hs_w12:=hE.size
  clear hE
  try clear c_B4 f_B4 l_B4
  obtain ⟨c_B4,f_B4,l_B4⟩:=blk3 B4.out
  try clear c_B6 f_B6 l_B6
  obtain ⟨c_B6,f_B6,l_B6⟩:=blk3 B6.out
  obtain ⟨⟨ln,la,ll,lc,lb,lm,ld⟩,⟨hn',ha,hl,hcc,hb,hm,hd'⟩⟩:=x12
  have HL:=Hi G12.out.1
  have HH:=Hi G12.out.2
  clear G12
  simp only at HL HH
  clear LA
  go_wp2
  refine nm_set6 (F:=fun W=>bodyPost _ _ _ _ _ W) B6.out rfl ?_
  intro w20 T
  replace HX:=Hi (T.ext HX.out (by omega))
  replace HS:=Hi (HS.out.keep T.keep)
  replace HT:=Hi (HT.out.keep T.keep)
  replace B4:=Hi (T.rest _ _ (by omega) B4.out)
  replace B6:=Hi (T.bx)
  replace HL:=Hi (HL.out.keep T.keep)
  replace HH:=Hi (HH.out.keep T.keep)
  have hs_w20:=nle T.size
  have hr_w20:=nle T.size.symm
  clear T
  try clear c_B4 f_B4 l_B4
  obtain ⟨c_B4,f_B4,l_B4⟩:=blk3 B4.out
  try clear c_B6 f_B6 l_B6
  obtain ⟨c_B6,f_B6,l_B6⟩:=blk3 B6.out
  exact bodyPost_ret (v:=IvV (⟨ln,la,ll,lc,lb,lm,ld⟩,⟨hn',ha,hl,hcc,hb,hm,hd'⟩)) (by simp [results,Tryz.results115,go_sem,c_B6]) rfl ⟨(⟨ln,la,ll,lc,lb,lm,ld⟩,⟨hn',ha,hl,hcc,hb,hm,hd'⟩),rfl,HX.out,HL.out,HH.out⟩
 | succ d =>
  have hds:((d+1:Nat):Int) - 1=(d:Nat):=by omega
  have hdb:(((d+1:Nat):Int) == 0)=false:=by rw [beq_eq_false_iff_ne];omega
  obtain ⟨g1,g2⟩:=md_le HAB.out
  have HM1:=Hi g1
  have HM2:=Hi g2
  have e:(2 * T+3+3) * 2 ^ d≤63:=by
   rw [Nat.pow_succ] at hT
   have:(2 * T+3+3) * 2 ^ d=(T+3) * (2 ^ d * 2):=by grind
   omega
  have ZM:=Hi (md_sz ZA.out ZB.out)
  have ZA2:=Hi (ZA.out.mono (show T≤2 * T+3 by omega))
  have ZB2:=Hi (ZB.out.mono (show T≤2 * T+3 by omega))
  have ZR1:=Hi (rb_sz HZ.out.sz h8 d HM1.out ZA2.out ZM.out e)
  have ZR2:=Hi (rb_sz HZ.out.sz h8 d HM2.out ZM.out ZB2.out e)
  have HL1:=Hi (rb_le' d (tz l) HM1.out)
  have HL2:=Hi (rb_le' d (tz l) HM2.out)
  have HE:=Hi e
  clear g1 g2 e hT
  go_wp2_with fail
  refine Calls.mono (ivmid4_any ⟨sn,sa,sl,sc,sb,sm',sd⟩ ⟨tn,ta,tl,tc,tb,tm,td⟩ a b T _ HS.out HT.out ZA.out ZB.out (by omega)) ?_
  rintro e w14 ⟨x14,rfl,hE,g14⟩
  have G14:=Hi g14
  clear g14
  replace HX:=hE.tr HX
  replace HS:=Hi (HS.out.ext hE)
  replace HT:=Hi (HT.out.ext hE)
  replace LA:=Hi (LA.out.ext hE)
  replace B4:=hE.bl B4
  replace B6:=hE.bl B6
  have hs_w14:=hE.size
  clear hE
  try clear c_B4 f_B4 l_B4
  obtain ⟨c_B4,f_B4,l_B4⟩:=blk3 B4.out
  try clear c_B6 f_B6 l_B6
  obtain ⟨c_B6,f_B6,l_B6⟩:=blk3 B6.out
  obtain ⟨mn,ma,ml,mc,mb,mm,md⟩:=x14
  have GM:Hid (CanR w14 ⟨mn,ma,ml,mc,mb,mm,md⟩ (mdV a b)):=G14
  clear G14
  go_upto_region 4 with fail
  refine nm_alloc ?_
  intro w15 hE hB0 hz
  have hz_w15:=nle hz
  have hr_w15:=nle hz.symm
  clear hz
  replace HX:=hE.tr HX
  replace HS:=Hi (HS.out.ext hE)
  replace HT:=Hi (HT.out.ext hE)
  replace LA:=Hi (LA.out.ext hE)
  replace B4:=hE.bl B4
  replace B6:=hE.bl B6
  replace GM:=Hi (GM.out.ext hE)
  have hs_w15:=hE.size
  clear hE
  try clear c_B4 f_B4 l_B4
  obtain ⟨c_B4,f_B4,l_B4⟩:=blk3 B4.out
  try clear c_B6 f_B6 l_B6
  obtain ⟨c_B6,f_B6,l_B6⟩:=blk3 B6.out
  have B7:=Hi hB0
  clear hB0
  obtain ⟨c_B7,f_B7,l_B7⟩:=blk3 B7.out
  refine wp_region_front 17 (fun opIx=>match opIx with
   | 7=>.spec (RH × RH) (default) (IvV) (fun x w'=>IvC w' x (rbn d (tz l) a (mdV a b)) (rbx d (tz l) a (mdV a b)))
   | 15=>.spec (RH × RH) (default) (IvV) (fun x w'=>IvC w' x (rbn d (tz l) (mdV a b) b) (rbx d (tz l) (mdV a b) b))
   | 16=>.spec (RH × RH) (default) (IvV) (fun x w'=>IvC w' x (rbn (d+1) (tz l) a b) (rbx (d+1) (tz l) a b))
   | _=>.quiet) (fun | 16=>[7,15] | _=>[]) (by kernel_rfl) (by kernel_rfl) (fun w0 he0 hz0 hc0 hf0=>?_)
  replace he0:=Hi he0
  simp only [pT]
  repeat (refine wpq fun K h=>?_;go_big_quiet_op;refine h _ ?_;clear h K)
  refine wps he0.out rfl rfl (fun w1 hW hG=>?_) fun x20=>?_
  ·exact spc [.slice ao n cap,IvV (⟨sn,sa,sl,sc,sb,sm',sd⟩,⟨mn,ma,ml,mc,mb,mm,md⟩),.int .i64 (d:Nat)] Tryz.func115 (IH.out d rfl ao n cap l ⟨sn,sa,sl,sc,sb,sm',sd⟩ ⟨mn,ma,ml,mc,mb,mm,md⟩ a (mdV a b) S (2 * T+3) _ (LA.out.ext hW) (HS.out.ext hW) ((GM.out.ext hW).raw ZM.out (by omega)) hn h8 HZ.out ZA2.out ZM.out hS (by omega) HE.out HM1.out)
  simp only [pS]
  repeat (refine wpq fun K h=>?_;go_big_quiet_op;refine h _ ?_;clear h K)
  refine wps he0.out rfl rfl (fun w1 hW hG=>?_) fun x21=>?_
  ·exact spc [.slice ao n cap,IvV (⟨mn,ma,ml,mc,mb,mm,md⟩,⟨tn,ta,tl,tc,tb,tm,td⟩),.int .i64 (d:Nat)] Tryz.func115 (IH.out d rfl ao n cap l ⟨mn,ma,ml,mc,mb,mm,md⟩ ⟨tn,ta,tl,tc,tb,tm,td⟩ (mdV a b) b S (2 * T+3) _ (LA.out.ext hW) ((GM.out.ext hW).raw ZM.out (by omega)) (HT.out.ext hW) hn h8 HZ.out ZM.out ZB2.out hS (by omega) HE.out HM2.out)
  simp only [pS]
  repeat (refine wpq fun K h=>?_;go_big_quiet_op;refine h _ ?_;clear h K)
  refine wps he0.out rfl rfl (fun w1 hW hG=>?_) fun x22=>?_
  ·have g20:=(hG 7 (by decide):Since _ _).get fun _ e g=>g.ext e
   have g21:=(hG 15 (by decide):Since _ _).get fun _ e g=>g.ext e
   exact spc [IvV x20,IvV x21] Tryz.func120 ((by have h:=ivhull4_any x20.1 x20.2 x21.1 x21.2 _ _ _ _ (17 * S+112 * 60+116) _ (g20.1.raw ZR1.out.1 (by omega)) (g20.2.raw ZR1.out.2 (by omega)) (g21.1.raw ZR2.out.1 (by omega)) (g21.2.raw ZR2.out.2 (by omega)) ZR1.out.1 ZR1.out.2 ZR2.out.1 ZR2.out.2 (by omega);rw [lo_of HL1.out,hi_of HL1.out,lo_of HL2.out,hi_of HL2.out,loV_mn,hiV_mx] at h;exact h))
  simp only [pS]
  repeat (refine wpq fun K h=>?_;go_big_quiet_op;refine h _ ?_;clear h K)
  refine wpF_nil ?_
  intro w16 hI
  have hE:=he0.out.trans hI.ext
  have G20:=Hi ((hI.facts 7:Since _ _).get fun _ e g=>g.ext e)
  have G21:=Hi ((hI.facts 15:Since _ _).get fun _ e g=>g.ext e)
  have G22:=Hi ((hI.facts 16:Since _ _).get fun _ e g=>g.ext e)
  clear hI he0 hz0 hc0 hf0
  replace HX:=hE.tr HX
  replace HS:=Hi (HS.out.ext hE)
  replace HT:=Hi (HT.out.ext hE)
  replace LA:=Hi (LA.out.ext hE)
  replace B4:=hE.bl B4
  replace B6:=hE.bl B6
  replace GM:=Hi (GM.out.ext hE)
  replace B7:=hE.bl B7
  have hs_w16:=hE.size
  clear hE
  try clear c_B4 f_B4 l_B4
  obtain ⟨c_B4,f_B4,l_B4⟩:=blk3 B4.out
  try clear c_B6 f_B6 l_B6
  obtain ⟨c_B6,f_B6,l_B6⟩:=blk3 B6.out
  try clear c_B7 f_B7 l_B7
  obtain ⟨c_B7,f_B7,l_B7⟩:=blk3 B7.out
  simp only [pD]
  obtain ⟨⟨ln,la,ll,lc,lb,lm,ld⟩,⟨hn',ha,hl,hcc,hb,hm,hd'⟩⟩:=x22
  have HL:=Hi G22.out.1
  have HH:=Hi G22.out.2
  clear G20 G21 G22
  simp only at HL HH
  clear LA
  go_wp2
  refine nm_set6 (F:=fun W=>bodyPost _ _ _ _ _ W) B6.out rfl ?_
  intro w20 T
  replace HX:=Hi (T.ext HX.out (by omega))
  replace HS:=Hi (HS.out.keep T.keep)
  replace HT:=Hi (HT.out.keep T.keep)
  replace B4:=Hi (T.rest _ _ (by omega) B4.out)
  replace B6:=Hi (T.bx)
  replace GM:=Hi (GM.out.keep T.keep)
  replace B7:=Hi (T.rest _ _ (by omega) B7.out)
  replace HL:=Hi (HL.out.keep T.keep)
  replace HH:=Hi (HH.out.keep T.keep)
  have hs_w20:=nle T.size
  have hr_w20:=nle T.size.symm
  clear T
  try clear c_B4 f_B4 l_B4
  obtain ⟨c_B4,f_B4,l_B4⟩:=blk3 B4.out
  try clear c_B6 f_B6 l_B6
  obtain ⟨c_B6,f_B6,l_B6⟩:=blk3 B6.out
  try clear c_B7 f_B7 l_B7
  obtain ⟨c_B7,f_B7,l_B7⟩:=blk3 B7.out
  exact bodyPost_ret (v:=IvV (⟨ln,la,ll,lc,lb,lm,ld⟩,⟨hn',ha,hl,hcc,hb,hm,hd'⟩)) (by simp [results,Tryz.results115,go_sem,c_B6]) rfl ⟨(⟨ln,la,ll,lc,lb,lm,ld⟩,⟨hn',ha,hl,hcc,hb,hm,hd'⟩),rfl,HX.out,HL.out,HH.out⟩
theorem rbnd_any (d:Nat) (hd:d≤12):BndP d:=by
 induction d with
 | zero=>exact rbnd_step 0 (by decide) (fun d' h=>by omega)
 | succ d ih =>
  refine rbnd_step (d+1) hd (fun d' h=>?_)
  obtain rfl:d=d':=by omega
  exact ih (by omega)
abbrev IeT (x:(RH × RH) × Int):Value:=.tuple #[IvV x.1,.int .i64 x.2]
theorem rbound7_any (ao:Option Addr) (n cap:Nat) (l:List Rat) (s t:RH) (a b:Rat) (d S T:Nat) (w:World) (h:RawL w ⟨ao,n,cap⟩ l) (hs:RawR w s a) (ht:RawR w t b) (hn:n≤1000) (h8:(tz l).length≤8) (hz:FrB S (tz l)) (za:Sz T a) (zb:Sz T b) (hS:S≤100) (hT1:1≤T) (hT:(T+3) * 2 ^ d≤63) (hd:d≤12) :
  Does 43 [.slice ao n cap,IvV (s,t),.int .i64 (d:Nat)] w IeT (fun x w'=>x.2=0∧IvC w' x.1 (rbn d (tz l) (loV a b) (hiV a b)) (rbx d (tz l) (loV a b) (hiV a b))):=by
 have HX:=Hi (Ext.refl w)
 have LA:=Hi h
 have HS:=Hi hs
 have HT:=Hi ht
 have HZ:=Hi hz
 have ZA:=Hi (lo_sz za zb)
 have ZB:=Hi (hi_sz za zb)
 have HAB:=Hi (lo_hi a b)
 have hd0:¬ (d:Int) < 0:=by omega
 have hd1:¬ (12:Int) < (d:Int):=by omega
 have hT60:T≤60:=by have:=Nat.le_mul_of_pos_right (T+3) (Nat.two_pow_pos d);omega
 obtain ⟨P,hP⟩:∃ P,P=(tz l).length:=⟨_,rfl⟩
 clear h hs ht hz za zb
 obtain ⟨sn,sa,sl,sc,sb,sm',sd⟩:=s
 obtain ⟨tn,ta,tl,tc,tb,tm,td⟩:=t
 unfold Does
 go_enter Tryz.func43,Tryz.ntmps43
 go_upto_region 1 with fail
 refine nm_alloc2 ?_
 intro w1 hE hB0 hB1 hz
 have hz_w1:=nle hz
 have hr_w1:=nle hz.symm
 clear hz
 replace HX:=hE.tr HX
 replace HS:=Hi (HS.out.ext hE)
 replace HT:=Hi (HT.out.ext hE)
 replace LA:=Hi (LA.out.ext hE)
 have hs_w1:=hE.size
 clear hE
 have B4:=Hi hB0
 clear hB0
 obtain ⟨c_B4,f_B4,l_B4⟩:=blk3 B4.out
 have B6:=Hi hB1
 clear hB1
 obtain ⟨c_B6,f_B6,l_B6⟩:=blk3 B6.out
 go_wp2_with fail
 refine Calls.mono (degree5_any ao n cap l _ LA.out (by omega)) ?_
 rintro e w18 ⟨x18,rfl,hE,-⟩
 replace HX:=hE.tr HX
 replace HS:=Hi (HS.out.ext hE)
 replace HT:=Hi (HT.out.ext hE)
 replace LA:=Hi (LA.out.ext hE)
 replace B4:=hE.bl B4
 replace B6:=hE.bl B6
 have hs_w18:=hE.size
 clear hE
 try clear c_B4 f_B4 l_B4
 obtain ⟨c_B4,f_B4,l_B4⟩:=blk3 B4.out
 try clear c_B6 f_B6 l_B6
 obtain ⟨c_B6,f_B6,l_B6⟩:=blk3 B6.out
 rw [← hP]
 have hg:¬ (48:Int) < (P:Int) - 1:=by omega
 clear hP
 go_wp2_with fail
 refine Calls.mono (ivtrim4_any ⟨sn,sa,sl,sc,sb,sm',sd⟩ ⟨tn,ta,tl,tc,tb,tm,td⟩ a b _ HS.out HT.out) ?_
 rintro e w23 ⟨x23,rfl,hE,g23⟩
 have G23:=Hi g23
 clear g23
 replace HX:=hE.tr HX
 replace HS:=Hi (HS.out.ext hE)
 replace HT:=Hi (HT.out.ext hE)
 replace LA:=Hi (LA.out.ext hE)
 replace B4:=hE.bl B4
 replace B6:=hE.bl B6
 have hs_w23:=hE.size
 clear hE
 try clear c_B4 f_B4 l_B4
 obtain ⟨c_B4,f_B4,l_B4⟩:=blk3 B4.out
 try clear c_B6 f_B6 l_B6
 obtain ⟨c_B6,f_B6,l_B6⟩:=blk3 B6.out
 obtain ⟨⟨ln,la,ll,lc,lb,lm,ld⟩,⟨hn',ha,hl,hcc,hb,hm,hd'⟩⟩:=x23
 have HL:=Hi G23.out.1
 have HH:=Hi G23.out.2
 clear G23
 simp only at HL HH
 go_wp2_with fail
 refine Calls.mono (rbnd_any d hd ao n cap l ⟨ln,la,ll,lc,lb,lm,ld⟩ ⟨hn',ha,hl,hcc,hb,hm,hd'⟩ _ _ S T _ LA.out (HL.out.raw ZA.out (by omega)) (HH.out.raw ZB.out (by omega)) hn h8 HZ.out ZA.out ZB.out hS hT1 hT HAB.out) ?_
 rintro e w25 ⟨x25,rfl,hE,g25⟩
 have G25:=Hi g25
 clear g25
 replace HX:=hE.tr HX
 replace HS:=Hi (HS.out.ext hE)
 replace HT:=Hi (HT.out.ext hE)
 replace LA:=Hi (LA.out.ext hE)
 replace B4:=hE.bl B4
 replace B6:=hE.bl B6
 replace HL:=Hi (HL.out.ext hE)
 replace HH:=Hi (HH.out.ext hE)
 have hs_w25:=hE.size
 clear hE
 try clear c_B4 f_B4 l_B4
 obtain ⟨c_B4,f_B4,l_B4⟩:=blk3 B4.out
 try clear c_B6 f_B6 l_B6
 obtain ⟨c_B6,f_B6,l_B6⟩:=blk3 B6.out
 obtain ⟨⟨un,ua,ul,uc,ub,um,ud⟩,⟨vn,va,vl,vc,vb,vm,vd⟩⟩:=x25
 have HU:=Hi G25.out.1
 have HV:=Hi G25.out.2
 clear G25
 simp only at HU HV
 clear LA
 go_wp2
 refine nm_set6 (F:=fun W=>bodyPost _ _ _ _ _ W) B6.out rfl ?_
 intro w20 T
 replace HX:=Hi (T.ext HX.out (by omega))
 replace HS:=Hi (HS.out.keep T.keep)
 replace HT:=Hi (HT.out.keep T.keep)
 replace B4:=Hi (T.rest _ _ (by omega) B4.out)
 replace B6:=Hi (T.bx)
 replace HL:=Hi (HL.out.keep T.keep)
 replace HH:=Hi (HH.out.keep T.keep)
 replace HU:=Hi (HU.out.keep T.keep)
 replace HV:=Hi (HV.out.keep T.keep)
 have hs_w20:=nle T.size
 have hr_w20:=nle T.size.symm
 clear T
 try clear c_B4 f_B4 l_B4
 obtain ⟨c_B4,f_B4,l_B4⟩:=blk3 B4.out
 try clear c_B6 f_B6 l_B6
 obtain ⟨c_B6,f_B6,l_B6⟩:=blk3 B6.out
 exact bodyPost_ret (v:=IeT ((⟨un,ua,ul,uc,ub,um,ud⟩,⟨vn,va,vl,vc,vb,vm,vd⟩),0)) (by simp [results,Tryz.results43,go_sem,c_B6]) rfl ⟨((⟨un,ua,ul,uc,ub,um,ud⟩,⟨vn,va,vl,vc,vb,vm,vd⟩),0),rfl,HX.out,rfl,HU.out,HV.out⟩
theorem rbound7_err (ao:Option Addr) (n cap:Nat) (s t:RH) (d:Int) (w:World) (hd:d < 0 ∨ 12 < d) :
  Does 43 [.slice ao n cap,IvV (s,t),.int .i64 d] w IeT (fun x w'=>x=((zR,zR),1)):=by
 have HX:=Hi (Ext.refl w)
 obtain ⟨sn,sa,sl,sc,sb,sm',sd⟩:=s
 obtain ⟨tn,ta,tl,tc,tb,tm,td⟩:=t
 unfold Does
 go_enter Tryz.func43,Tryz.ntmps43
 go_upto_region 1 with fail
 refine nm_alloc2 ?_
 intro w1 hE hB0 hB1 hz
 have hz_w1:=nle hz
 have hr_w1:=nle hz.symm
 clear hz
 replace HX:=hE.tr HX
 have hs_w1:=hE.size
 clear hE
 have B4:=Hi hB0
 clear hB0
 obtain ⟨c_B4,f_B4,l_B4⟩:=blk3 B4.out
 have B6:=Hi hB1
 clear hB1
 obtain ⟨c_B6,f_B6,l_B6⟩:=blk3 B6.out
 rcases hd with hd | hd
 case inl =>
  go_wp2
  refine nm_set6 (F:=fun W=>bodyPost _ _ _ _ _ W) B6.out rfl ?_
  intro w20 T
  replace HX:=Hi (T.ext HX.out (by omega))
  replace B4:=Hi (T.rest _ _ (by omega) B4.out)
  replace B6:=Hi (T.bx)
  have hs_w20:=nle T.size
  have hr_w20:=nle T.size.symm
  clear T
  try clear c_B4 f_B4 l_B4
  obtain ⟨c_B4,f_B4,l_B4⟩:=blk3 B4.out
  try clear c_B6 f_B6 l_B6
  obtain ⟨c_B6,f_B6,l_B6⟩:=blk3 B6.out
  exact bodyPost_ret (v:=IeT ((zR,zR),1)) (by simp [results,Tryz.results43,go_sem,c_B6]) rfl ⟨((zR,zR),1),rfl,HX.out,rfl⟩
 case inr =>
  have hd0:¬ d < 0:=by omega
  go_wp2
  refine nm_set6 (F:=fun W=>bodyPost _ _ _ _ _ W) B6.out rfl ?_
  intro w20 T
  replace HX:=Hi (T.ext HX.out (by omega))
  replace B4:=Hi (T.rest _ _ (by omega) B4.out)
  replace B6:=Hi (T.bx)
  have hs_w20:=nle T.size
  have hr_w20:=nle T.size.symm
  clear T
  try clear c_B4 f_B4 l_B4
  obtain ⟨c_B4,f_B4,l_B4⟩:=blk3 B4.out
  try clear c_B6 f_B6 l_B6
  obtain ⟨c_B6,f_B6,l_B6⟩:=blk3 B6.out
  exact bodyPost_ret (v:=IeT ((zR,zR),1)) (by simp [results,Tryz.results43,go_sem,c_B6]) rfl ⟨((zR,zR),1),rfl,HX.out,rfl⟩
theorem bbound_err (ao:Option Addr) (n cap:Nat) (s t:RH) (d:Int) (w:World) (hd:d < 0 ∨ 12 < d) :
  Does 42 [.slice ao n cap,IvV (s,t),.int .i64 d] w IeT (fun x w'=>x=((zR,zR),1)):=by
 have HX:=Hi (Ext.refl w)
 obtain ⟨sn,sa,sl,sc,sb,sm',sd⟩:=s
 obtain ⟨tn,ta,tl,tc,tb,tm,td⟩:=t
 unfold Does
 go_enter Tryz.func42,Tryz.ntmps42
 go_upto_region 1 with fail
 refine nm_alloc2 ?_
 intro w1 hE hB0 hB1 hz
 have hz_w1:=nle hz
 have hr_w1:=nle hz.symm
 clear hz
 replace HX:=hE.tr HX
 have hs_w1:=hE.size
 clear hE
 have B4:=Hi hB0
 clear hB0
 obtain ⟨c_B4,f_B4,l_B4⟩:=blk3 B4.out
 have B6:=Hi hB1
 clear hB1
 obtain ⟨c_B6,f_B6,l_B6⟩:=blk3 B6.out
 rcases hd with hd | hd
 case inl =>
  go_wp2
  refine nm_set6 (F:=fun W=>bodyPost _ _ _ _ _ W) B6.out rfl ?_
  intro w20 T
  replace HX:=Hi (T.ext HX.out (by omega))
  replace B4:=Hi (T.rest _ _ (by omega) B4.out)
  replace B6:=Hi (T.bx)
  have hs_w20:=nle T.size
  have hr_w20:=nle T.size.symm
  clear T
  try clear c_B4 f_B4 l_B4
  obtain ⟨c_B4,f_B4,l_B4⟩:=blk3 B4.out
  try clear c_B6 f_B6 l_B6
  obtain ⟨c_B6,f_B6,l_B6⟩:=blk3 B6.out
  exact bodyPost_ret (v:=IeT ((zR,zR),1)) (by simp [results,Tryz.results42,go_sem,c_B6]) rfl ⟨((zR,zR),1),rfl,HX.out,rfl⟩
 case inr =>
  have hd0:¬ d < 0:=by omega
  go_wp2
  refine nm_set6 (F:=fun W=>bodyPost _ _ _ _ _ W) B6.out rfl ?_
  intro w20 T
  replace HX:=Hi (T.ext HX.out (by omega))
  replace B4:=Hi (T.rest _ _ (by omega) B4.out)
  replace B6:=Hi (T.bx)
  have hs_w20:=nle T.size
  have hr_w20:=nle T.size.symm
  clear T
  try clear c_B4 f_B4 l_B4
  obtain ⟨c_B4,f_B4,l_B4⟩:=blk3 B4.out
  try clear c_B6 f_B6 l_B6
  obtain ⟨c_B6,f_B6,l_B6⟩:=blk3 B6.out
  exact bodyPost_ret (v:=IeT ((zR,zR),1)) (by simp [results,Tryz.results42,go_sem,c_B6]) rfl ⟨((zR,zR),1),rfl,HX.out,rfl⟩
end Go.Proofs.YtpieblkklbilgaaGreat
