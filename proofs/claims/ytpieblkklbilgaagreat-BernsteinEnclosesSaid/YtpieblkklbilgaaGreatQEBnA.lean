/- Package bernstein: the closure of Bound. -/
import Derived.Test.YtpieblkklbilgaaGreatQEBnR
set_option linter.unusedVariables false
namespace Go.Proofs.YtpieblkklbilgaaGreat
open Go.RowKit Go.Front Go.Num Stab
attribute [local go_sem] XW.cell XW.frozen
def bmn:Nat→List Rat→Rat
 | 0,l=>mnL l
 | d+1,l=>mnF (bmn d (hlL l)) (bmn d (hlR l))
def bmx:Nat→List Rat→Rat
 | 0,l=>mxL l
 | d+1,l=>mxF (bmx d (hlL l)) (bmx d (hlR l))
def vsN (f:Bool) (m x:Rat):Rat:=if f then x else mnF m x
def vsX (f:Bool) (m x:Rat):Rat:=if f then x else mxF m x
theorem vsN_two (f:Bool) (m x y:Rat):vsN false (vsN f m x) y=vsN f m (mnF x y):=by
 unfold vsN mnF
 cases f <;> simp <;> grind
theorem vsX_two (f:Bool) (m x y:Rat):vsX false (vsX f m x) y=vsX f m (mxF x y):=by
 unfold vsX mxF
 cases f <;> simp <;> grind
theorem hl_len (l:List Rat):(hlL l).length=l.length∧(hlR l).length=l.length:=⟨row_len _ _,row_len _ _⟩
theorem bm_sz {d:Nat}:∀ {l:List Rat} {S:Nat},0 < l.length→l.length≤9→(∀ x ∈ l,Wz S x)→1≤S→Sz (S+9 * d) (bmn d l)∧Sz (S+9 * d) (bmx d l):=by
 induction d with
 | zero =>
  intro l S h0 h9 h hS
  have:=mL_sz (wz_sz h hS) hS
  exact ⟨this.1,this.2⟩
 | succ d ih =>
  intro l S h0 h9 h hS
  obtain ⟨g1,g2⟩:=hl_wz h9 h
  have e1:=ih (l:=hlL l) (by rw [(hl_len l).1];exact h0) (by rw [(hl_len l).1];exact h9) g1 (by omega)
  have e2:=ih (l:=hlR l) (by rw [(hl_len l).2];exact h0) (by rw [(hl_len l).2];exact h9) g2 (by omega)
  rw [show S+9 * (d+1)=S+9+9 * d by omega]
  unfold bmn bmx mnF mxF
  constructor
  ·split
   ·exact e2.1
   ·exact e1.1
  ·split
   ·exact e2.2
   ·exact e1.2
theorem vs_sz {f:Bool} {m x:Rat} {U:Nat} (h:Sz U m) (k:Sz U x):Sz U (vsN f m x)∧Sz U (vsX f m x):=by
 unfold vsN vsX mnF mxF
 constructor <;> split <;> first | exact k | (split <;> first | exact k | exact h)
def VsI (w:World) (bv bf bl bh:Nat) (f:Bool) (x y:RH) (lo hi:Rat):Prop :=
 w.heap[bv]?=some (.cells #[.func (.func 111) #[] #[.pointer (some ⟨bv,0,none⟩),.pointer (some ⟨bf,0,none⟩),.pointer (some ⟨bl,0,none⟩),.pointer (some ⟨bh,0,none⟩)]] 136 (0,0)) ∧
 w.heap[bf]?=some (.cells #[.bool f] 4 (0,0)) ∧
 w.heap[bl]?=some (.cells #[.bool x.neg,.slice x.a x.n x.c,.slice x.b x.m x.d] 30 (0,0)) ∧
 w.heap[bh]?=some (.cells #[.bool y.neg,.slice y.a y.n y.c,.slice y.b y.m y.d] 30 (0,0)) ∧
 CanR w x lo∧CanR w y hi
def Ds4 (bv bf bl bh:Nat):Prop:=bv ≠ bf∧bv ≠ bl∧bv ≠ bh∧bf ≠ bl∧bf ≠ bh∧bl ≠ bh
def VisP (bv bf bl bh N d:Nat):Prop :=
 ∀ (ao:Option Addr) (cap:Nat) (l:List Rat) (S:Nat) (f:Bool) (x y:RH) (lo hi:Rat) (w:World),
 CanL w ⟨ao,N,cap⟩ l→(∀ x ∈ l,Wz S x)→1≤S→S+9 * d≤900000→VsI w bv bf bl bh f x y lo hi→Sz 900000 lo→Sz 900000 hi →
 Calls Tryz.prog 111 #[.slice ao N cap,.int .i64 (d:Nat),.pointer (some ⟨bv,0,none⟩),.pointer (some ⟨bf,0,none⟩),.pointer (some ⟨bl,0,none⟩),.pointer (some ⟨bh,0,none⟩)] w (fun r w'=>r=.returned (.tuple #[])∧Mods (fun k=>k=bf ∨ k=bl ∨ k=bh) w w'∧Keep w w' ∧
  ∃ x' y',VsI w' bv bf bl bh false x' y' (vsN f lo (bmn d l)) (vsX f hi (bmx d l)))
set_option maxRecDepth 8000 in
set_option maxHeartbeats 16000000 in
theorem visit_step (bv bf bl bh N d:Nat) (hds:Ds4 bv bf bl bh) (hN:0 < N) (hN9:N≤9) (hd12:d≤12) (ih:∀ d',d=d'+1→VisP bv bf bl bh N d'):VisP bv bf bl bh N d:=by
 intro ao cap l S f x y lo hi w hl hlz hS1 hS hvs zl zh
 obtain ⟨hbv,hbf,hbl,hbh,hx,hy⟩:=hvs
 obtain ⟨d1,d2,d3,d4,d5,d6⟩:=hds
 have HM:=Hi (Mods.refl (fun k=>k=bf ∨ k=bl ∨ k=bh) w)
 have HK:=Hi (Keep.refl w)
 have LA:=Hi hl
 have BV:=Hi hbv
 have BF:=Hi hbf
 have BL:=Hi hbl
 have BH:=Hi hbh
 have GL:=Hi hx
 have GH:=Hi hy
 have ZL:=Hi zl
 have ZH:=Hi zh
 have HLZ:=Hi hlz
 have IH:=Hi ih
 have HLl:Hid (l.length=N):=Hi hl.len
 have pv:bv < w.heap.size:=(Array.getElem?_eq_some_iff.1 hbv).1
 have pf:bf < w.heap.size:=(Array.getElem?_eq_some_iff.1 hbf).1
 have pl:bl < w.heap.size:=(Array.getElem?_eq_some_iff.1 hbl).1
 have ph:bh < w.heap.size:=(Array.getElem?_eq_some_iff.1 hbh).1
 have hcpl:=hl.le
 have hcpm:=hl.max
 simp only at hcpl hcpm
 clear hl hlz hbv hbf hbl hbh hx hy zl zh ih
 obtain ⟨xn,xa,xl,xc,xb,xm,xd⟩:=x
 obtain ⟨yn,ya,yl,yc,yb,ym,yd⟩:=y
 simp only at BL BH
 go_enter Tryz.func111,Tryz.ntmps111
 try clear c_BV f_BV l_BV
 obtain ⟨c_BV,f_BV,l_BV⟩:=blk3 BV.out
 try clear c_BF f_BF l_BF
 obtain ⟨c_BF,f_BF,l_BF⟩:=blk3 BF.out
 try clear c_BL f_BL l_BL
 obtain ⟨c_BL,f_BL,l_BL⟩:=blk3 BL.out
 try clear c_BH f_BH l_BH
 obtain ⟨c_BH,f_BH,l_BH⟩:=blk3 BH.out
 cases d with
 | zero =>
  have hd0:¬ (0:Int) < ((0:Nat):Int):=by decide
  have HBZ:=Hi (mL_sz (wz_sz HLZ.out hS1) hS1)
  go_wp2_with fail
  refine Calls.mono (bext_any ao N cap l S _ LA.out (by omega) (wz_sz HLZ.out hS1) (by omega)) ?_
  rintro e w31 ⟨x31,rfl,hE,g31⟩
  have G31:=Hi g31
  clear g31
  replace HM:=Hi (HM.out.trans (Mods.of_ext hE))
  replace HK:=Hi (Keep.trans HK.out (keep_ext hE))
  replace GL:=Hi (GL.out.ext hE)
  replace GH:=Hi (GH.out.ext hE)
  replace LA:=Hi (LA.out.ext hE)
  replace BV:=hE.bl BV
  replace BF:=hE.bl BF
  replace BL:=hE.bl BL
  replace BH:=hE.bl BH
  have hs_w31:=hE.size
  clear hE
  try clear c_BV f_BV l_BV
  obtain ⟨c_BV,f_BV,l_BV⟩:=blk3 BV.out
  try clear c_BF f_BF l_BF
  obtain ⟨c_BF,f_BF,l_BF⟩:=blk3 BF.out
  try clear c_BL f_BL l_BL
  obtain ⟨c_BL,f_BL,l_BL⟩:=blk3 BL.out
  try clear c_BH f_BH l_BH
  obtain ⟨c_BH,f_BH,l_BH⟩:=blk3 BH.out
  obtain ⟨⟨un,ua,ul,uc,ub,um,ud⟩,⟨vn,va,vl',vc,vb,vm,vd⟩⟩:=x31
  have HU:=Hi G31.out.1
  have HV:=Hi G31.out.2
  clear G31
  simp only at HU HV
  clear LA
  go_upto_region 5 with fail
  refine nm_alloc2 ?_
  intro w32 hE hB0 hB1 hz
  have hz_w32:=nle hz
  have hr_w32:=nle hz.symm
  clear hz
  replace HM:=Hi (HM.out.trans (Mods.of_ext hE))
  replace HK:=Hi (Keep.trans HK.out (keep_ext hE))
  replace GL:=Hi (GL.out.ext hE)
  replace GH:=Hi (GH.out.ext hE)
  replace BV:=hE.bl BV
  replace BF:=hE.bl BF
  replace BL:=hE.bl BL
  replace BH:=hE.bl BH
  replace HU:=Hi (HU.out.ext hE)
  replace HV:=Hi (HV.out.ext hE)
  have hs_w32:=hE.size
  clear hE
  try clear c_BV f_BV l_BV
  obtain ⟨c_BV,f_BV,l_BV⟩:=blk3 BV.out
  try clear c_BF f_BF l_BF
  obtain ⟨c_BF,f_BF,l_BF⟩:=blk3 BF.out
  try clear c_BL f_BL l_BL
  obtain ⟨c_BL,f_BL,l_BL⟩:=blk3 BL.out
  try clear c_BH f_BH l_BH
  obtain ⟨c_BH,f_BH,l_BH⟩:=blk3 BH.out
  have B10:=Hi hB0
  clear hB0
  obtain ⟨c_B10,f_B10,l_B10⟩:=blk3 B10.out
  have B11:=Hi hB1
  clear hB1
  obtain ⟨c_B11,f_B11,l_B11⟩:=blk3 B11.out
  cases f with
  | true =>
   go_upto_region 7 with fail
   refine nm_set3 BL.out rfl ?_
   intro w33 T
   replace HM:=Hi (Mods.put HM.out T (by first | exact Or.inl rfl | exact Or.inl (Or.inl rfl) | exact Or.inl (Or.inr (Or.inl rfl)) | exact Or.inl (Or.inr (Or.inr rfl)) | exact Or.inr (by omega)))
   replace HK:=Hi (Keep.trans HK.out T.keep)
   replace GL:=Hi (GL.out.keep T.keep)
   replace GH:=Hi (GH.out.keep T.keep)
   replace BV:=Hi (T.rest _ _ (by omega) BV.out)
   replace BF:=Hi (T.rest _ _ (by omega) BF.out)
   replace BL:=Hi (T.bx)
   replace BH:=Hi (T.rest _ _ (by omega) BH.out)
   replace HU:=Hi (HU.out.keep T.keep)
   replace HV:=Hi (HV.out.keep T.keep)
   replace B10:=Hi (T.rest _ _ (by omega) B10.out)
   replace B11:=Hi (T.rest _ _ (by omega) B11.out)
   have hs_w33:=nle T.size
   have hr_w33:=nle T.size.symm
   clear T
   try clear c_BV f_BV l_BV
   obtain ⟨c_BV,f_BV,l_BV⟩:=blk3 BV.out
   try clear c_BF f_BF l_BF
   obtain ⟨c_BF,f_BF,l_BF⟩:=blk3 BF.out
   try clear c_BL f_BL l_BL
   obtain ⟨c_BL,f_BL,l_BL⟩:=blk3 BL.out
   try clear c_BH f_BH l_BH
   obtain ⟨c_BH,f_BH,l_BH⟩:=blk3 BH.out
   try clear c_B10 f_B10 l_B10
   obtain ⟨c_B10,f_B10,l_B10⟩:=blk3 B10.out
   try clear c_B11 f_B11 l_B11
   obtain ⟨c_B11,f_B11,l_B11⟩:=blk3 B11.out
   go_upto_region 9 with fail
   refine nm_set3 BH.out rfl ?_
   intro w34 T
   replace HM:=Hi (Mods.put HM.out T (by first | exact Or.inl rfl | exact Or.inl (Or.inl rfl) | exact Or.inl (Or.inr (Or.inl rfl)) | exact Or.inl (Or.inr (Or.inr rfl)) | exact Or.inr (by omega)))
   replace HK:=Hi (Keep.trans HK.out T.keep)
   replace GL:=Hi (GL.out.keep T.keep)
   replace GH:=Hi (GH.out.keep T.keep)
   replace BV:=Hi (T.rest _ _ (by omega) BV.out)
   replace BF:=Hi (T.rest _ _ (by omega) BF.out)
   replace BL:=Hi (T.rest _ _ (by omega) BL.out)
   replace BH:=Hi (T.bx)
   replace HU:=Hi (HU.out.keep T.keep)
   replace HV:=Hi (HV.out.keep T.keep)
   replace B10:=Hi (T.rest _ _ (by omega) B10.out)
   replace B11:=Hi (T.rest _ _ (by omega) B11.out)
   have hs_w34:=nle T.size
   have hr_w34:=nle T.size.symm
   clear T
   try clear c_BV f_BV l_BV
   obtain ⟨c_BV,f_BV,l_BV⟩:=blk3 BV.out
   try clear c_BF f_BF l_BF
   obtain ⟨c_BF,f_BF,l_BF⟩:=blk3 BF.out
   try clear c_BL f_BL l_BL
   obtain ⟨c_BL,f_BL,l_BL⟩:=blk3 BL.out
   try clear c_BH f_BH l_BH
   obtain ⟨c_BH,f_BH,l_BH⟩:=blk3 BH.out
   try clear c_B10 f_B10 l_B10
   obtain ⟨c_B10,f_B10,l_B10⟩:=blk3 B10.out
   try clear c_B11 f_B11 l_B11
   obtain ⟨c_B11,f_B11,l_B11⟩:=blk3 B11.out
   go_wp2
   refine nm_set1 (F:=fun W=>bodyPost _ _ _ _ _ W) BF.out rfl ?_
   intro w35 T
   replace HM:=Hi (Mods.put HM.out T (by first | exact Or.inl rfl | exact Or.inl (Or.inl rfl) | exact Or.inl (Or.inr (Or.inl rfl)) | exact Or.inl (Or.inr (Or.inr rfl)) | exact Or.inr (by omega)))
   replace HK:=Hi (Keep.trans HK.out T.keep)
   replace GL:=Hi (GL.out.keep T.keep)
   replace GH:=Hi (GH.out.keep T.keep)
   replace BV:=Hi (T.rest _ _ (by omega) BV.out)
   replace BF:=Hi (T.bx)
   replace BL:=Hi (T.rest _ _ (by omega) BL.out)
   replace BH:=Hi (T.rest _ _ (by omega) BH.out)
   replace HU:=Hi (HU.out.keep T.keep)
   replace HV:=Hi (HV.out.keep T.keep)
   replace B10:=Hi (T.rest _ _ (by omega) B10.out)
   replace B11:=Hi (T.rest _ _ (by omega) B11.out)
   have hs_w35:=nle T.size
   have hr_w35:=nle T.size.symm
   clear T
   try clear c_BV f_BV l_BV
   obtain ⟨c_BV,f_BV,l_BV⟩:=blk3 BV.out
   try clear c_BF f_BF l_BF
   obtain ⟨c_BF,f_BF,l_BF⟩:=blk3 BF.out
   try clear c_BL f_BL l_BL
   obtain ⟨c_BL,f_BL,l_BL⟩:=blk3 BL.out
   try clear c_BH f_BH l_BH
   obtain ⟨c_BH,f_BH,l_BH⟩:=blk3 BH.out
   try clear c_B10 f_B10 l_B10
   obtain ⟨c_B10,f_B10,l_B10⟩:=blk3 B10.out
   try clear c_B11 f_B11 l_B11
   obtain ⟨c_B11,f_B11,l_B11⟩:=blk3 B11.out
   exact bodyPost_end (results_none rfl _ _ _) rfl ⟨rfl,HM.out,HK.out,⟨un,ua,ul,uc,ub,um,ud⟩,⟨vn,va,vl',vc,vb,vm,vd⟩,BV.out,BF.out,BL.out,BH.out,HU.out,HV.out⟩
  | false =>
   go_wp2_with fail
   refine Calls.mono (rcmp_any ⟨un,ua,ul,uc,ub,um,ud⟩ ⟨xn,xa,xl,xc,xb,xm,xd⟩ (mnL l) lo _ (HU.out.raw HBZ.out.1 (by omega)) (GL.out.raw ZL.out (by omega))) ?_
   rintro e w38 ⟨x38,rfl,hE,-⟩
   replace HM:=Hi (HM.out.trans (Mods.of_ext hE))
   replace HK:=Hi (Keep.trans HK.out (keep_ext hE))
   replace GL:=Hi (GL.out.ext hE)
   replace GH:=Hi (GH.out.ext hE)
   replace BV:=hE.bl BV
   replace BF:=hE.bl BF
   replace BL:=hE.bl BL
   replace BH:=hE.bl BH
   replace HU:=Hi (HU.out.ext hE)
   replace HV:=Hi (HV.out.ext hE)
   replace B10:=hE.bl B10
   replace B11:=hE.bl B11
   have hs_w38:=hE.size
   clear hE
   try clear c_BV f_BV l_BV
   obtain ⟨c_BV,f_BV,l_BV⟩:=blk3 BV.out
   try clear c_BF f_BF l_BF
   obtain ⟨c_BF,f_BF,l_BF⟩:=blk3 BF.out
   try clear c_BL f_BL l_BL
   obtain ⟨c_BL,f_BL,l_BL⟩:=blk3 BL.out
   try clear c_BH f_BH l_BH
   obtain ⟨c_BH,f_BH,l_BH⟩:=blk3 BH.out
   try clear c_B10 f_B10 l_B10
   obtain ⟨c_B10,f_B10,l_B10⟩:=blk3 B10.out
   try clear c_B11 f_B11 l_B11
   obtain ⟨c_B11,f_B11,l_B11⟩:=blk3 B11.out
   by_cases h2:mnL l < lo
   case pos =>
    have hc:=cmpR_lt0.2 h2
    have HV1:Hid (vsN false lo (bmn 0 l)=mnL l):=Hi (if_pos h2)
    obtain ⟨c,e⟩:∃ c,c=cmpR (mnL l) lo:=⟨_,rfl⟩
    rw [← e] at hc ⊢
    clear e h2
    go_upto_region 7 with fail
    refine nm_set3 BL.out rfl ?_
    intro w33 T
    replace HM:=Hi (Mods.put HM.out T (by first | exact Or.inl rfl | exact Or.inl (Or.inl rfl) | exact Or.inl (Or.inr (Or.inl rfl)) | exact Or.inl (Or.inr (Or.inr rfl)) | exact Or.inr (by omega)))
    replace HK:=Hi (Keep.trans HK.out T.keep)
    replace GL:=Hi (GL.out.keep T.keep)
    replace GH:=Hi (GH.out.keep T.keep)
    replace BV:=Hi (T.rest _ _ (by omega) BV.out)
    replace BF:=Hi (T.rest _ _ (by omega) BF.out)
    replace BL:=Hi (T.bx)
    replace BH:=Hi (T.rest _ _ (by omega) BH.out)
    replace HU:=Hi (HU.out.keep T.keep)
    replace HV:=Hi (HV.out.keep T.keep)
    replace B10:=Hi (T.rest _ _ (by omega) B10.out)
    replace B11:=Hi (T.rest _ _ (by omega) B11.out)
    have hs_w33:=nle T.size
    have hr_w33:=nle T.size.symm
    clear T
    try clear c_BV f_BV l_BV
    obtain ⟨c_BV,f_BV,l_BV⟩:=blk3 BV.out
    try clear c_BF f_BF l_BF
    obtain ⟨c_BF,f_BF,l_BF⟩:=blk3 BF.out
    try clear c_BL f_BL l_BL
    obtain ⟨c_BL,f_BL,l_BL⟩:=blk3 BL.out
    try clear c_BH f_BH l_BH
    obtain ⟨c_BH,f_BH,l_BH⟩:=blk3 BH.out
    try clear c_B10 f_B10 l_B10
    obtain ⟨c_B10,f_B10,l_B10⟩:=blk3 B10.out
    try clear c_B11 f_B11 l_B11
    obtain ⟨c_B11,f_B11,l_B11⟩:=blk3 B11.out
    go_wp2_with fail
    refine Calls.mono (rcmp_any ⟨vn,va,vl',vc,vb,vm,vd⟩ ⟨yn,ya,yl,yc,yb,ym,yd⟩ (mxL l) hi _ (HV.out.raw HBZ.out.2 (by omega)) (GH.out.raw ZH.out (by omega))) ?_
    rintro e w46 ⟨x46,rfl,hE,-⟩
    replace HM:=Hi (HM.out.trans (Mods.of_ext hE))
    replace HK:=Hi (Keep.trans HK.out (keep_ext hE))
    replace GL:=Hi (GL.out.ext hE)
    replace GH:=Hi (GH.out.ext hE)
    replace BV:=hE.bl BV
    replace BF:=hE.bl BF
    replace BL:=hE.bl BL
    replace BH:=hE.bl BH
    replace HU:=Hi (HU.out.ext hE)
    replace HV:=Hi (HV.out.ext hE)
    replace B10:=hE.bl B10
    replace B11:=hE.bl B11
    have hs_w46:=hE.size
    clear hE
    try clear c_BV f_BV l_BV
    obtain ⟨c_BV,f_BV,l_BV⟩:=blk3 BV.out
    try clear c_BF f_BF l_BF
    obtain ⟨c_BF,f_BF,l_BF⟩:=blk3 BF.out
    try clear c_BL f_BL l_BL
    obtain ⟨c_BL,f_BL,l_BL⟩:=blk3 BL.out
    try clear c_BH f_BH l_BH
    obtain ⟨c_BH,f_BH,l_BH⟩:=blk3 BH.out
    try clear c_B10 f_B10 l_B10
    obtain ⟨c_B10,f_B10,l_B10⟩:=blk3 B10.out
    try clear c_B11 f_B11 l_B11
    obtain ⟨c_B11,f_B11,l_B11⟩:=blk3 B11.out
    by_cases h3:hi < mxL l
    case pos =>
     have hc':=cmpR_gt0.2 h3
     have HV2:Hid (vsX false hi (bmx 0 l)=mxL l):=Hi (if_pos h3)
     obtain ⟨c',e⟩:∃ c',c'=cmpR (mxL l) hi:=⟨_,rfl⟩
     rw [← e] at hc' ⊢
     clear e h3
     go_upto_region 9 with fail
     refine nm_set3 BH.out rfl ?_
     intro w34 T
     replace HM:=Hi (Mods.put HM.out T (by first | exact Or.inl rfl | exact Or.inl (Or.inl rfl) | exact Or.inl (Or.inr (Or.inl rfl)) | exact Or.inl (Or.inr (Or.inr rfl)) | exact Or.inr (by omega)))
     replace HK:=Hi (Keep.trans HK.out T.keep)
     replace GL:=Hi (GL.out.keep T.keep)
     replace GH:=Hi (GH.out.keep T.keep)
     replace BV:=Hi (T.rest _ _ (by omega) BV.out)
     replace BF:=Hi (T.rest _ _ (by omega) BF.out)
     replace BL:=Hi (T.rest _ _ (by omega) BL.out)
     replace BH:=Hi (T.bx)
     replace HU:=Hi (HU.out.keep T.keep)
     replace HV:=Hi (HV.out.keep T.keep)
     replace B10:=Hi (T.rest _ _ (by omega) B10.out)
     replace B11:=Hi (T.rest _ _ (by omega) B11.out)
     have hs_w34:=nle T.size
     have hr_w34:=nle T.size.symm
     clear T
     try clear c_BV f_BV l_BV
     obtain ⟨c_BV,f_BV,l_BV⟩:=blk3 BV.out
     try clear c_BF f_BF l_BF
     obtain ⟨c_BF,f_BF,l_BF⟩:=blk3 BF.out
     try clear c_BL f_BL l_BL
     obtain ⟨c_BL,f_BL,l_BL⟩:=blk3 BL.out
     try clear c_BH f_BH l_BH
     obtain ⟨c_BH,f_BH,l_BH⟩:=blk3 BH.out
     try clear c_B10 f_B10 l_B10
     obtain ⟨c_B10,f_B10,l_B10⟩:=blk3 B10.out
     try clear c_B11 f_B11 l_B11
     obtain ⟨c_B11,f_B11,l_B11⟩:=blk3 B11.out
     go_wp2
     refine nm_set1 (F:=fun W=>bodyPost _ _ _ _ _ W) BF.out rfl ?_
     intro w35 T
     replace HM:=Hi (Mods.put HM.out T (by first | exact Or.inl rfl | exact Or.inl (Or.inl rfl) | exact Or.inl (Or.inr (Or.inl rfl)) | exact Or.inl (Or.inr (Or.inr rfl)) | exact Or.inr (by omega)))
     replace HK:=Hi (Keep.trans HK.out T.keep)
     replace GL:=Hi (GL.out.keep T.keep)
     replace GH:=Hi (GH.out.keep T.keep)
     replace BV:=Hi (T.rest _ _ (by omega) BV.out)
     replace BF:=Hi (T.bx)
     replace BL:=Hi (T.rest _ _ (by omega) BL.out)
     replace BH:=Hi (T.rest _ _ (by omega) BH.out)
     replace HU:=Hi (HU.out.keep T.keep)
     replace HV:=Hi (HV.out.keep T.keep)
     replace B10:=Hi (T.rest _ _ (by omega) B10.out)
     replace B11:=Hi (T.rest _ _ (by omega) B11.out)
     have hs_w35:=nle T.size
     have hr_w35:=nle T.size.symm
     clear T
     try clear c_BV f_BV l_BV
     obtain ⟨c_BV,f_BV,l_BV⟩:=blk3 BV.out
     try clear c_BF f_BF l_BF
     obtain ⟨c_BF,f_BF,l_BF⟩:=blk3 BF.out
     try clear c_BL f_BL l_BL
     obtain ⟨c_BL,f_BL,l_BL⟩:=blk3 BL.out
     try clear c_BH f_BH l_BH
     obtain ⟨c_BH,f_BH,l_BH⟩:=blk3 BH.out
     try clear c_B10 f_B10 l_B10
     obtain ⟨c_B10,f_B10,l_B10⟩:=blk3 B10.out
     try clear c_B11 f_B11 l_B11
     obtain ⟨c_B11,f_B11,l_B11⟩:=blk3 B11.out
     exact bodyPost_end (results_none rfl _ _ _) rfl ⟨rfl,HM.out,HK.out,⟨un,ua,ul,uc,ub,um,ud⟩,⟨vn,va,vl',vc,vb,vm,vd⟩,BV.out,BF.out,BL.out,BH.out,by rw [HV1.out];exact HU.out,by rw [HV2.out];exact HV.out⟩
    have hc':¬ 0 < cmpR (mxL l) hi:=fun h=>h3 (cmpR_gt0.1 h)
    have HV2:Hid (vsX false hi (bmx 0 l)=hi):=Hi (if_neg h3)
    obtain ⟨c',e⟩:∃ c',c'=cmpR (mxL l) hi:=⟨_,rfl⟩
    rw [← e] at hc' ⊢
    clear e h3
    go_wp2
    refine nm_set1 (F:=fun W=>bodyPost _ _ _ _ _ W) BF.out rfl ?_
    intro w35 T
    replace HM:=Hi (Mods.put HM.out T (by first | exact Or.inl rfl | exact Or.inl (Or.inl rfl) | exact Or.inl (Or.inr (Or.inl rfl)) | exact Or.inl (Or.inr (Or.inr rfl)) | exact Or.inr (by omega)))
    replace HK:=Hi (Keep.trans HK.out T.keep)
    replace GL:=Hi (GL.out.keep T.keep)
    replace GH:=Hi (GH.out.keep T.keep)
    replace BV:=Hi (T.rest _ _ (by omega) BV.out)
    replace BF:=Hi (T.bx)
    replace BL:=Hi (T.rest _ _ (by omega) BL.out)
    replace BH:=Hi (T.rest _ _ (by omega) BH.out)
    replace HU:=Hi (HU.out.keep T.keep)
    replace HV:=Hi (HV.out.keep T.keep)
    replace B10:=Hi (T.rest _ _ (by omega) B10.out)
    replace B11:=Hi (T.rest _ _ (by omega) B11.out)
    have hs_w35:=nle T.size
    have hr_w35:=nle T.size.symm
    clear T
    try clear c_BV f_BV l_BV
    obtain ⟨c_BV,f_BV,l_BV⟩:=blk3 BV.out
    try clear c_BF f_BF l_BF
    obtain ⟨c_BF,f_BF,l_BF⟩:=blk3 BF.out
    try clear c_BL f_BL l_BL
    obtain ⟨c_BL,f_BL,l_BL⟩:=blk3 BL.out
    try clear c_BH f_BH l_BH
    obtain ⟨c_BH,f_BH,l_BH⟩:=blk3 BH.out
    try clear c_B10 f_B10 l_B10
    obtain ⟨c_B10,f_B10,l_B10⟩:=blk3 B10.out
    try clear c_B11 f_B11 l_B11
    obtain ⟨c_B11,f_B11,l_B11⟩:=blk3 B11.out
    exact bodyPost_end (results_none rfl _ _ _) rfl ⟨rfl,HM.out,HK.out,⟨un,ua,ul,uc,ub,um,ud⟩,⟨yn,ya,yl,yc,yb,ym,yd⟩,BV.out,BF.out,BL.out,BH.out,by rw [HV1.out];exact HU.out,by rw [HV2.out];exact GH.out⟩
   have hc:¬ cmpR (mnL l) lo < 0:=fun h=>h2 (cmpR_lt0.1 h)
   have HV1:Hid (vsN false lo (bmn 0 l)=lo):=Hi (if_neg h2)
   obtain ⟨c,e⟩:∃ c,c=cmpR (mnL l) lo:=⟨_,rfl⟩
   rw [← e] at hc ⊢
   clear e h2
   go_wp2_with fail
   refine Calls.mono (rcmp_any ⟨vn,va,vl',vc,vb,vm,vd⟩ ⟨yn,ya,yl,yc,yb,ym,yd⟩ (mxL l) hi _ (HV.out.raw HBZ.out.2 (by omega)) (GH.out.raw ZH.out (by omega))) ?_
   rintro e w46 ⟨x46,rfl,hE,-⟩
   replace HM:=Hi (HM.out.trans (Mods.of_ext hE))
   replace HK:=Hi (Keep.trans HK.out (keep_ext hE))
   replace GL:=Hi (GL.out.ext hE)
   replace GH:=Hi (GH.out.ext hE)
   replace BV:=hE.bl BV
   replace BF:=hE.bl BF
   replace BL:=hE.bl BL
   replace BH:=hE.bl BH
   replace HU:=Hi (HU.out.ext hE)
   replace HV:=Hi (HV.out.ext hE)
   replace B10:=hE.bl B10
   replace B11:=hE.bl B11
   have hs_w46:=hE.size
   clear hE
   try clear c_BV f_BV l_BV
   obtain ⟨c_BV,f_BV,l_BV⟩:=blk3 BV.out
   try clear c_BF f_BF l_BF
   obtain ⟨c_BF,f_BF,l_BF⟩:=blk3 BF.out
   try clear c_BL f_BL l_BL
   obtain ⟨c_BL,f_BL,l_BL⟩:=blk3 BL.out
   try clear c_BH f_BH l_BH
   obtain ⟨c_BH,f_BH,l_BH⟩:=blk3 BH.out
   try clear c_B10 f_B10 l_B10
   obtain ⟨c_B10,f_B10,l_B10⟩:=blk3 B10.out
   try clear c_B11 f_B11 l_B11
   obtain ⟨c_B11,f_B11,l_B11⟩:=blk3 B11.out
   by_cases h3:hi < mxL l
   case pos =>
    have hc':=cmpR_gt0.2 h3
    have HV2:Hid (vsX false hi (bmx 0 l)=mxL l):=Hi (if_pos h3)
    obtain ⟨c',e⟩:∃ c',c'=cmpR (mxL l) hi:=⟨_,rfl⟩
    rw [← e] at hc' ⊢
    clear e h3
    go_upto_region 9 with fail
    refine nm_set3 BH.out rfl ?_
    intro w34 T
    replace HM:=Hi (Mods.put HM.out T (by first | exact Or.inl rfl | exact Or.inl (Or.inl rfl) | exact Or.inl (Or.inr (Or.inl rfl)) | exact Or.inl (Or.inr (Or.inr rfl)) | exact Or.inr (by omega)))
    replace HK:=Hi (Keep.trans HK.out T.keep)
    replace GL:=Hi (GL.out.keep T.keep)
    replace GH:=Hi (GH.out.keep T.keep)
    replace BV:=Hi (T.rest _ _ (by omega) BV.out)
    replace BF:=Hi (T.rest _ _ (by omega) BF.out)
    replace BL:=Hi (T.rest _ _ (by omega) BL.out)
    replace BH:=Hi (T.bx)
    replace HU:=Hi (HU.out.keep T.keep)
    replace HV:=Hi (HV.out.keep T.keep)
    replace B10:=Hi (T.rest _ _ (by omega) B10.out)
    replace B11:=Hi (T.rest _ _ (by omega) B11.out)
    have hs_w34:=nle T.size
    have hr_w34:=nle T.size.symm
    clear T
    try clear c_BV f_BV l_BV
    obtain ⟨c_BV,f_BV,l_BV⟩:=blk3 BV.out
    try clear c_BF f_BF l_BF
    obtain ⟨c_BF,f_BF,l_BF⟩:=blk3 BF.out
    try clear c_BL f_BL l_BL
    obtain ⟨c_BL,f_BL,l_BL⟩:=blk3 BL.out
    try clear c_BH f_BH l_BH
    obtain ⟨c_BH,f_BH,l_BH⟩:=blk3 BH.out
    try clear c_B10 f_B10 l_B10
    obtain ⟨c_B10,f_B10,l_B10⟩:=blk3 B10.out
    try clear c_B11 f_B11 l_B11
    obtain ⟨c_B11,f_B11,l_B11⟩:=blk3 B11.out
    go_wp2
    refine nm_set1 (F:=fun W=>bodyPost _ _ _ _ _ W) BF.out rfl ?_
    intro w35 T
    replace HM:=Hi (Mods.put HM.out T (by first | exact Or.inl rfl | exact Or.inl (Or.inl rfl) | exact Or.inl (Or.inr (Or.inl rfl)) | exact Or.inl (Or.inr (Or.inr rfl)) | exact Or.inr (by omega)))
    replace HK:=Hi (Keep.trans HK.out T.keep)
    replace GL:=Hi (GL.out.keep T.keep)
    replace GH:=Hi (GH.out.keep T.keep)
    replace BV:=Hi (T.rest _ _ (by omega) BV.out)
    replace BF:=Hi (T.bx)
    replace BL:=Hi (T.rest _ _ (by omega) BL.out)
    replace BH:=Hi (T.rest _ _ (by omega) BH.out)
    replace HU:=Hi (HU.out.keep T.keep)
    replace HV:=Hi (HV.out.keep T.keep)
    replace B10:=Hi (T.rest _ _ (by omega) B10.out)
    replace B11:=Hi (T.rest _ _ (by omega) B11.out)
    have hs_w35:=nle T.size
    have hr_w35:=nle T.size.symm
    clear T
    try clear c_BV f_BV l_BV
    obtain ⟨c_BV,f_BV,l_BV⟩:=blk3 BV.out
    try clear c_BF f_BF l_BF
    obtain ⟨c_BF,f_BF,l_BF⟩:=blk3 BF.out
    try clear c_BL f_BL l_BL
    obtain ⟨c_BL,f_BL,l_BL⟩:=blk3 BL.out
    try clear c_BH f_BH l_BH
    obtain ⟨c_BH,f_BH,l_BH⟩:=blk3 BH.out
    try clear c_B10 f_B10 l_B10
    obtain ⟨c_B10,f_B10,l_B10⟩:=blk3 B10.out
    try clear c_B11 f_B11 l_B11
    obtain ⟨c_B11,f_B11,l_B11⟩:=blk3 B11.out
    exact bodyPost_end (results_none rfl _ _ _) rfl ⟨rfl,HM.out,HK.out,⟨xn,xa,xl,xc,xb,xm,xd⟩,⟨vn,va,vl',vc,vb,vm,vd⟩,BV.out,BF.out,BL.out,BH.out,by rw [HV1.out];exact GL.out,by rw [HV2.out];exact HV.out⟩
   have hc':¬ 0 < cmpR (mxL l) hi:=fun h=>h3 (cmpR_gt0.1 h)
   have HV2:Hid (vsX false hi (bmx 0 l)=hi):=Hi (if_neg h3)
   obtain ⟨c',e⟩:∃ c',c'=cmpR (mxL l) hi:=⟨_,rfl⟩
   rw [← e] at hc' ⊢
   clear e h3
   go_wp2
   refine nm_set1 (F:=fun W=>bodyPost _ _ _ _ _ W) BF.out rfl ?_
   intro w35 T
   replace HM:=Hi (Mods.put HM.out T (by first | exact Or.inl rfl | exact Or.inl (Or.inl rfl) | exact Or.inl (Or.inr (Or.inl rfl)) | exact Or.inl (Or.inr (Or.inr rfl)) | exact Or.inr (by omega)))
   replace HK:=Hi (Keep.trans HK.out T.keep)
   replace GL:=Hi (GL.out.keep T.keep)
   replace GH:=Hi (GH.out.keep T.keep)
   replace BV:=Hi (T.rest _ _ (by omega) BV.out)
   replace BF:=Hi (T.bx)
   replace BL:=Hi (T.rest _ _ (by omega) BL.out)
   replace BH:=Hi (T.rest _ _ (by omega) BH.out)
   replace HU:=Hi (HU.out.keep T.keep)
   replace HV:=Hi (HV.out.keep T.keep)
   replace B10:=Hi (T.rest _ _ (by omega) B10.out)
   replace B11:=Hi (T.rest _ _ (by omega) B11.out)
   have hs_w35:=nle T.size
   have hr_w35:=nle T.size.symm
   clear T
   try clear c_BV f_BV l_BV
   obtain ⟨c_BV,f_BV,l_BV⟩:=blk3 BV.out
   try clear c_BF f_BF l_BF
   obtain ⟨c_BF,f_BF,l_BF⟩:=blk3 BF.out
   try clear c_BL f_BL l_BL
   obtain ⟨c_BL,f_BL,l_BL⟩:=blk3 BL.out
   try clear c_BH f_BH l_BH
   obtain ⟨c_BH,f_BH,l_BH⟩:=blk3 BH.out
   try clear c_B10 f_B10 l_B10
   obtain ⟨c_B10,f_B10,l_B10⟩:=blk3 B10.out
   try clear c_B11 f_B11 l_B11
   obtain ⟨c_B11,f_B11,l_B11⟩:=blk3 B11.out
   exact bodyPost_end (results_none rfl _ _ _) rfl ⟨rfl,HM.out,HK.out,⟨xn,xa,xl,xc,xb,xm,xd⟩,⟨yn,ya,yl,yc,yb,ym,yd⟩,BV.out,BF.out,BL.out,BH.out,by rw [HV1.out];exact GL.out,by rw [HV2.out];exact GH.out⟩
 | succ d =>
  have hd0:(0:Int) < ((d+1:Nat):Int):=by omega
  have hds:((d+1:Nat):Int) - 1=(d:Nat):=by omega
  obtain ⟨n1,hn1⟩:∃ n1,N=n1+1:=⟨N - 1,by omega⟩
  have HN1:=Hi hn1
  clear hn1
  have HLr:Hid (CanL w ⟨ao,N,cap⟩ (row N (fun i=>l.getD i 0))):=Hi (by rw [row_eta HLl.out];exact LA.out)
  have HZH:Hid (∀ k,k≤n1→Wz S (l.getD k 0)):=Hi (fun k hk=>by
   have hk2:k < l.length:=by rw [HLl.out,HN1.out];omega
   rw [List.getD_eq_getElem?_getD,List.getElem?_eq_getElem hk2]
   exact HLZ.out _ (List.getElem_mem hk2))
  go_wp2_with fail
  refine Calls.mono (bhalves_any ao N n1 cap (fun i=>l.getD i 0) S _ HLr.out HN1.out (by have:=HN1.out;omega) HZH.out hS1 (by omega)) ?_
  rintro e w16 ⟨x16,rfl,hE,g16⟩
  have G16:=Hi g16
  clear g16
  replace HM:=Hi (HM.out.trans (Mods.of_ext hE))
  replace HK:=Hi (Keep.trans HK.out (keep_ext hE))
  replace GL:=Hi (GL.out.ext hE)
  replace GH:=Hi (GH.out.ext hE)
  replace LA:=Hi (LA.out.ext hE)
  replace BV:=hE.bl BV
  replace BF:=hE.bl BF
  replace BL:=hE.bl BL
  replace BH:=hE.bl BH
  have hs_w16:=hE.size
  clear hE
  try clear c_BV f_BV l_BV
  obtain ⟨c_BV,f_BV,l_BV⟩:=blk3 BV.out
  try clear c_BF f_BF l_BF
  obtain ⟨c_BF,f_BF,l_BF⟩:=blk3 BF.out
  try clear c_BL f_BL l_BL
  obtain ⟨c_BL,f_BL,l_BL⟩:=blk3 BL.out
  try clear c_BH f_BH l_BH
  obtain ⟨c_BH,f_BH,l_BH⟩:=blk3 BH.out
  clear LA
  clear HLr HZH
  obtain ⟨x53,x54⟩:=x16
  obtain ⟨⟨Lp,hLp,hxp,hRp⟩,⟨Lq,hLq,hxq,hRq⟩⟩:=G16.out
  simp only at hxp hxq
  rw [row_len] at hxp hxq
  subst hxp hxq
  have HRW:=Hi (hl_row HLl.out HN1.out)
  have HRp:Hid (RowC w16 Lp (hlL l)):=Hi (by rw [HRW.out.1];exact hRp)
  have HRq:Hid (RowC w16 Lq (hlR l)):=Hi (by rw [HRW.out.2];exact hRq)
  have HLL:Hid ((hlL l).length=N∧(hlR l).length=N):=Hi (by rw [(hl_len l).1,(hl_len l).2,HLl.out];exact ⟨rfl,rfl⟩)
  have HWZ:=Hi (hl_wz (l:=l) (S:=S) (by rw [HLl.out];exact hN9) HLZ.out)
  have hLq2:w.heap.size≤Lq:=hLq
  clear hRp hRq G16 hLp hLq
  have HBL:=Hi (bm_sz (d:=d) (l:=hlL l) (S:=S+9) (by rw [HLL.out.1];exact hN) (by rw [HLL.out.1];exact hN9) HWZ.out.1 (by omega))
  have HVS:Hid (VsI w16 bv bf bl bh f ⟨xn,xa,xl,xc,xb,xm,xd⟩ ⟨yn,ya,yl,yc,yb,ym,yd⟩ lo hi):=Hi ⟨BV.out,BF.out,BL.out,BH.out,GL.out,GH.out⟩
  go_wp2_with fail
  refine Calls.mono (IH.out d rfl (some ⟨Lp,0,none⟩) N (hlL l) (S+9) f _ _ lo hi _ (RowC.can HRp.out HLL.out.1 (Nat.le_refl _) (by omega)) HWZ.out.1 (by omega) (by omega) HVS.out ZL.out ZH.out) ?_
  rintro r5 w17 ⟨rfl,m1,k1,x1,y1,vs1⟩
  replace HM:Hid (Mods (fun k=>k=bf ∨ k=bl ∨ k=bh) w w17):=Hi (mods_then HM.out m1 (fun k _ h=>h))
  replace HK:=Hi (Keep.trans HK.out k1)
  replace HRq:=Hi (HRq.out.mods m1 k1 (fun h=>by omega))
  have BV1:=Hi vs1.1
  obtain ⟨c_BV1,f_BV1,l_BV1⟩:=blk3 BV1.out
  have HVS1:=Hi vs1
  have HZ1:=Hi (vs_sz (f:=f) ZL.out (HBL.out.1.mono (by omega)))
  have HZ2:=Hi (vs_sz (f:=f) ZH.out (HBL.out.2.mono (by omega)))
  clear m1 k1 vs1 HVS BV BF BL BH GL GH HRp c_BV f_BV l_BV c_BF f_BF l_BF c_BL f_BL l_BL c_BH f_BH l_BH
  go_wp2_with fail
  refine Calls.mono (IH.out d rfl (some ⟨Lq,0,none⟩) N (hlR l) (S+9) false x1 y1 _ _ _ (RowC.can HRq.out HLL.out.2 (Nat.le_refl _) (by omega)) HWZ.out.2 (by omega) (by omega) HVS1.out HZ1.out.1 HZ2.out.2) ?_
  rintro r6 w18 ⟨rfl,m1,k1,x2,y2,vs2⟩
  replace HM:Hid (Mods (fun k=>k=bf ∨ k=bl ∨ k=bh) w w18):=Hi (mods_then HM.out m1 (fun k _ h=>h))
  replace HK:=Hi (Keep.trans HK.out k1)
  rw [vsN_two,vsX_two] at vs2
  have HVS2:=Hi vs2
  clear m1 k1 vs2 HVS1 BV1 c_BV1 f_BV1 l_BV1 HRq
  go_wp2
  exact bodyPost_ret (v:=.tuple #[]) (results_none rfl _ _ _) rfl ⟨rfl,HM.out,HK.out,x2,y2,HVS2.out⟩
theorem visit_any (bv bf bl bh N:Nat) (hds:Ds4 bv bf bl bh) (hN:0 < N) (hN9:N≤9) (d:Nat) (hd:d≤12):VisP bv bf bl bh N d:=by
 induction d with
 | zero=>exact visit_step bv bf bl bh N 0 hds hN hN9 hd (fun d' h=>by omega)
 | succ d ih =>
  refine visit_step bv bf bl bh N (d+1) hds hN hN9 hd (fun d' h=>?_)
  obtain rfl:d=d':=by omega
  exact ih (by omega)
end Go.Proofs.YtpieblkklbilgaaGreat
