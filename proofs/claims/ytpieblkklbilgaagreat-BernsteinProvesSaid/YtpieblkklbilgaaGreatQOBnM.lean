/- cells and Prove of the reference 07. -/
import Derived.Test.YtpieblkklbilgaaGreatQOQL
import Derived.Test.YtpieblkklbilgaaGreatQOBnG
import Derived.Test.YtpieblkklbilgaaGreatQOBn8
set_option linter.unusedVariables false
namespace Go.Proofs.YtpieblkklbilgaaGreat
open Go.RowKit Go.Front Go.Num Stab
attribute [local go_sem] XW.cell XW.frozen
def Dyd (e:Nat) (x:Rat):Prop:=∃ z:Int,x * ((12 * 2 ^ e:Nat):Rat)=(z:Rat)∧z.natAbs≤12 * 2 ^ e
theorem two_le {e:Nat} (he:e≤12):12 * 2 ^ e≤49152:=by
 have:=Nat.pow_le_pow_right (show 0 < 2 by decide) he
 have h:(2:Nat) ^ 12=4096:=by decide
 omega
theorem Dyd.sz {e:Nat} {x:Rat} (h:Dyd e x) (he:e≤12):Sz 1 x:=by
 obtain ⟨z,h1,h2⟩:=h
 have h3:=two_le he
 have hw:(49152:Nat) < W32 ^ 1:=by decide
 exact (Fr.int (S:=1) (D:=12 * 2 ^ e) (z:=z) (by omega) h1).sz (Nat.le_refl 1) (Nat.mul_pos (by decide) (Nat.two_pow_pos e)) (by omega)
theorem dyd_two (e:Nat):((12 * 2 ^ (e+1):Nat):Rat)=2 * ((12 * 2 ^ e:Nat):Rat):=by
 have:12 * 2 ^ (e+1)=2 * (12 * 2 ^ e):=by rw [Nat.pow_succ];omega
 rw [this,Rat.natCast_mul]
 rfl
theorem Dyd.up {e:Nat} {x:Rat} (h:Dyd e x):Dyd (e+1) x:=by
 obtain ⟨z,h1,h2⟩:=h
 refine ⟨z * 2,?_,?_⟩
 ·rw [dyd_two,Rat.intCast_mul,← h1]
  show _=_ * (2:Rat)
  grind
 ·rw [Int.natAbs_mul,Nat.pow_succ]
  show z.natAbs * 2≤_
  omega
theorem Dyd.mid {e:Nat} {a b:Rat} (h:Dyd e a) (k:Dyd e b):Dyd (e+1) (mdV a b):=by
 obtain ⟨z,h1,h2⟩:=h
 obtain ⟨y,k1,k2⟩:=k
 refine ⟨z+y,?_,?_⟩
 ·rw [dyd_two,Rat.intCast_add,← h1,← k1]
  have hh:hf * 2=1:=by decide +kernel
  show (a+b) * hf * _=_
  grind
 ·have:=Int.natAbs_add_le z y
  rw [Nat.pow_succ]
  omega
theorem cosQ_dyd (n:Int):Dyd 0 (cosQ n):=by
 obtain ⟨m,hm,e⟩:=cosQ_nat n
 refine ⟨(m:Int) - 12,?_,?_⟩
 ·rw [e,Rat.div_def,Rat.mul_assoc]
  have:(((12:Int):Rat))⁻¹ * ((12 * 2 ^ 0:Nat):Rat)=1:=by decide +kernel
  rw [this,Rat.mul_one]
 ·show ((m:Int) - 12).natAbs≤12
  omega
theorem dyd_lo {e:Nat} {a b:Rat} (h:Dyd e a) (k:Dyd e b):Dyd e (loV a b):=by rcases lo_or a b with e | e <;> rw [e] <;> assumption
theorem dyd_hi {e:Nat} {a b:Rat} (h:Dyd e a) (k:Dyd e b):Dyd e (hiV a b):=by rcases hi_or a b with e | e <;> rw [e] <;> assumption
theorem rcl_len (d:Nat) {p:List Rat}:∀ {a b:Rat} {x:List Rat},rcl d p a b=some x→x.length≤2 * 2 ^ d:=by
 induction d with
 | zero =>
  intro a b x h
  unfold rcl at h
  split at h
  ·cases h;simp
  ·cases h
 | succ d ih =>
  intro a b x h
  have hp:=Nat.two_pow_pos d
  unfold rcl at h
  split at h
  ·cases h;rw [Nat.pow_succ];simp only [List.length_cons,List.length_nil];omega
  ·rcases h1:rcl d p a (mdV a b) with _ | u
   ·rw [h1] at h;cases h
   ·rw [h1] at h
    rcases h2:rcl d p (mdV a b) b with _ | v
    ·rw [h2] at h;cases h
    ·rw [h2] at h
     cases h
     have e1:=ih h1
     have e2:=ih h2
     rw [List.length_append,Nat.pow_succ]
     omega
theorem rcl_sz (d:Nat) {p:List Rat}:∀ {e:Nat} {a b:Rat} {x:List Rat},d+e=12→Dyd e a→Dyd e b→rcl d p a b=some x→∀ y ∈ x,∃ k,k≤12∧Dyd k y:=by
 induction d with
 | zero =>
  intro e a b x he ha hb h y hy
  unfold rcl at h
  split at h
  ·cases h
   simp only [List.mem_cons,List.not_mem_nil,or_false] at hy
   rcases hy with rfl | rfl
   ·exact ⟨e,by omega,ha⟩
   ·exact ⟨e,by omega,hb⟩
  ·cases h
 | succ d ih =>
  intro e a b x he ha hb h y hy
  unfold rcl at h
  split at h
  ·cases h
   simp only [List.mem_cons,List.not_mem_nil,or_false] at hy
   rcases hy with rfl | rfl
   ·exact ⟨e,by omega,ha⟩
   ·exact ⟨e,by omega,hb⟩
  ·rcases h1:rcl d p a (mdV a b) with _ | u
   ·rw [h1] at h;cases h
   ·rw [h1] at h
    rcases h2:rcl d p (mdV a b) b with _ | v
    ·rw [h2] at h;cases h
    ·rw [h2] at h
     cases h
     rcases List.mem_append.1 hy with h3 | h3
     ·exact ih (by omega) ha.up (ha.mid hb) h1 y h3
     ·exact ih (by omega) (ha.mid hb) hb.up h2 y h3
theorem OwnI.open {w:World} {D:Nat→Prop} {v:Value} {n:Nat} {qs:List Rat} (h:OwnI w D v n qs) (h0:0 < n):∃ L cap rs,v=.slice (some ⟨L,0,none⟩) n cap∧D L∧(∀ k,k < n * 2→RAt w L (0+k * 3) (rs.getD k default))∧Vals CanR w rs qs∧rs.length=n * 2:=by
 obtain ⟨rs,h1,h2⟩:=h
 rcases h1 with ⟨-,-,rfl⟩ | ⟨L,cap,re,h3,h4,h5,h6,-⟩
 ·omega
 ·exact ⟨L,cap,rs,h3,h4,fun k hk=>by rw [Nat.zero_add];exact h5.at (by rw [h6];exact hk),h2,h6⟩
theorem OwnI.block {w:World} {N:Nat} {x y:RH} {a b:Rat} {D:Nat→Prop} (h:w.heap[N]?=some (.cells #[.bool x.neg,.slice x.a x.n x.c,.slice x.b x.m x.d,.bool y.neg,.slice y.a y.n y.c,.slice y.b y.m y.d] 44 (0,0))) (hx:CanR w x a) (hy:CanR w y b) (hD:D N):OwnI w D (.slice (some ⟨N,0,none⟩) 1 1) 1 [a,b]:=by
 have hb:IBk w N [x,y] #[]:=by
  unfold IBk
  rw [h]
  rfl
 refine ⟨[x,y],Or.inr ⟨N,1,#[],rfl,hD,hb,rfl,Nat.le_refl _,by decide,rfl,rfl⟩,rfl,fun k hk=>?_⟩
 have hk:k < 2:=hk
 have:k=0 ∨ k=1:=by omega
 rcases this with rfl | rfl
 ·exact hx
 ·exact hy
abbrev RcT (x:SH × Bool):Value:=.tuple #[x.1.v,.bool x.2]
def RcO (B:Nat) (w:World) (x:SH × Bool) (r:Option (List Rat)):Prop :=
 match r with
 | none=>x=(⟨none,0,0⟩,false)
 | some qs=>x.2=true∧OwnI w (B≤·) x.1.v x.1.n qs
theorem RcO.some' {B:Nat} {w:World} {x:SH × Bool} {qs:List Rat} (h1:x.2=true) (h2:OwnI w (B≤·) x.1.v x.1.n qs):RcO B w x (some qs):=⟨h1,h2⟩
def RclP (d:Nat):Prop :=
 ∀ (e:Nat),d+e=12→∀ (ao:Option Addr) (n cap:Nat) (l:List Rat) (s t:RH) (a b:Rat) (S:Nat) (w:World),RawL w ⟨ao,n,cap⟩ l→CanR w s a→CanR w t b→n≤1000→(tz l).length≤8→FrB S (tz l)→S≤100→Dyd e a→Dyd e b→a≤b →
  Does 96 [.slice ao n cap,IvV (s,t),.int .i64 (e:Nat)] w RcT (fun x w'=>RcO w.heap.size w' x (rcl d (tz l) a b))
theorem rcl_yes {d:Nat} {p:List Rat} {a b:Rat} (h:psV p a b=true):rcl d p a b=some [a,b]:=by cases d <;> (unfold rcl;rw [if_pos h])
set_option maxRecDepth 8000 in
set_option maxHeartbeats 16000000 in
theorem rcells_step (d:Nat) (ih:∀ d',d=d'+1→RclP d'):RclP d:=by
  intro e hde ao n cap l s t a b S w h hs ht hn h8 hz hS ha hb hab
  have HX:=Hi (Ext.refl w)
  have LA:=Hi h
  have HS:=Hi hs
  have HT:=Hi ht
  have HZ:=Hi hz
  have DA:=Hi ha
  have DB:=Hi hb
  have ZA:=Hi (ha.sz (by omega))
  have ZB:=Hi (hb.sz (by omega))
  have HAB:=Hi hab
  have IH:=Hi ih
  clear h hs ht hz ha hb hab ih
  obtain ⟨sn,sa,sl,sc,sb,sm',sd⟩:=s
  obtain ⟨tn,ta,tl,tc,tb,tm,td⟩:=t
  unfold Does
  go_enter Tryz.func96,Tryz.ntmps96
  go_upto_region 1 with fail
  refine nm_alloc ?_
  intro w1 hE hB0 hz
  have hz_w1:=nle hz
  have hr_w1:=nle hz.symm
  clear hz
  replace HX:=hE.tr HX
  replace HS:=Hi (HS.out.ext hE)
  replace HT:=Hi (HT.out.ext hE)
  replace LA:=Hi (LA.out.ext hE)
  have hs_w1:=hE.size
  clear hE
  have B4:=Hi hB0
  clear hB0
  obtain ⟨c_B4,f_B4,l_B4⟩:=blk3 B4.out
  go_wp2_with fail
  refine Calls.mono ((by have h:=rpos7_any ao n cap l ⟨sn,sa,sl,sc,sb,sm',sd⟩ ⟨tn,ta,tl,tc,tb,tm,td⟩ a b S 1 _ LA.out (HS.out.raw ZA.out (by decide)) (HT.out.raw ZB.out (by decide)) hn h8 HZ.out ZA.out ZB.out hS (by decide) (by decide);rw [lo_of HAB.out,hi_of HAB.out] at h;exact h)) ?_
  rintro e w14 ⟨x14,rfl,hE,-⟩
  replace HX:=hE.tr HX
  replace HS:=Hi (HS.out.ext hE)
  replace HT:=Hi (HT.out.ext hE)
  replace LA:=Hi (LA.out.ext hE)
  replace B4:=hE.bl B4
  have hs_w14:=hE.size
  clear hE
  try clear c_B4 f_B4 l_B4
  obtain ⟨c_B4,f_B4,l_B4⟩:=blk3 B4.out
  obtain ⟨pv,hpv⟩:∃ pv,pv=psV (tz l) a b:=⟨_,rfl⟩
  have HPV:=Hi hpv.symm
  rw [← hpv]
  clear hpv
  cases pv with
  | true =>
    have HV:Hid (rcl d (tz l) a b=some [a,b]):=Hi (rcl_yes HPV.out)
    go_wp2
    exact bodyPost_ret (v:=RcT (⟨some ⟨w14.heap.size,0,none⟩,1,1⟩,true)) (by simp [results,Tryz.results96,go_sem]) rfl
      ⟨(⟨some ⟨w14.heap.size,0,none⟩,1,1⟩,true),rfl,HX.out.trans (Ext.alloc _ _),by
        rw [HV.out]
        exact RcO.some' rfl (OwnI.block (x:=⟨sn,sa,sl,sc,sb,sm',sd⟩) (y:=⟨tn,ta,tl,tc,tb,tm,td⟩) (heap_alloc_new _ _) (HS.out.ext (Ext.alloc _ _)) (HT.out.ext (Ext.alloc _ _)) (by show w.heap.size≤w14.heap.size;omega))⟩
  | false =>
  cases d with
  | zero =>
    obtain rfl:e=12:=by omega
    have HV:Hid (rcl 0 (tz l) a b=none):=Hi (by unfold rcl;rw [HPV.out];rfl)
    go_wp2
    exact bodyPost_ret (v:=RcT (⟨none,0,0⟩,false)) (by simp [results,Tryz.results96,go_sem]) rfl ⟨(⟨none,0,0⟩,false),rfl,HX.out,by rw [HV.out];rfl⟩
  | succ d =>
    have he:¬ (e:Int)=12:=by omega
    have heb:((e:Int) == 12)=false:=by rw [beq_eq_false_iff_ne];exact he
    have he1:(e:Int)+1=((e+1:Nat):Int):=by omega
    have HE1:=Hi he1
    clear he1
    obtain ⟨g1,g2⟩:=md_le HAB.out
    have HM1:=Hi g1
    have HM2:=Hi g2
    have DM:=Hi (DA.out.mid DB.out)
    have ZM:=Hi (DM.out.sz (by omega))
    have DA2:=Hi DA.out.up
    have DB2:=Hi DB.out.up
    clear g1 g2
    go_wp2_with fail
    refine Calls.mono (ivmid4_any ⟨sn,sa,sl,sc,sb,sm',sd⟩ ⟨tn,ta,tl,tc,tb,tm,td⟩ a b 1 _ (HS.out.raw ZA.out (by decide)) (HT.out.raw ZB.out (by decide)) ZA.out ZB.out (by decide)) ?_
    rintro e w20 ⟨x20,rfl,hE,g20⟩
    have G20:=Hi g20
    clear g20
    replace HX:=hE.tr HX
    replace HS:=Hi (HS.out.ext hE)
    replace HT:=Hi (HT.out.ext hE)
    replace LA:=Hi (LA.out.ext hE)
    replace B4:=hE.bl B4
    have hs_w20:=hE.size
    clear hE
    try clear c_B4 f_B4 l_B4
    obtain ⟨c_B4,f_B4,l_B4⟩:=blk3 B4.out
    obtain ⟨mn,ma,ml,mc,mb,mm,md⟩:=x20
    have GM:Hid (CanR w20 ⟨mn,ma,ml,mc,mb,mm,md⟩ (mdV a b)):=G20
    clear G20
    go_upto_region 6 with fail
    refine nm_alloc ?_
    intro w21 hE hB0 hz
    have hz_w21:=nle hz
    have hr_w21:=nle hz.symm
    clear hz
    replace HX:=hE.tr HX
    replace HS:=Hi (HS.out.ext hE)
    replace HT:=Hi (HT.out.ext hE)
    replace LA:=Hi (LA.out.ext hE)
    replace B4:=hE.bl B4
    replace GM:=Hi (GM.out.ext hE)
    have hs_w21:=hE.size
    clear hE
    try clear c_B4 f_B4 l_B4
    obtain ⟨c_B4,f_B4,l_B4⟩:=blk3 B4.out
    have B8:=Hi hB0
    clear hB0
    obtain ⟨c_B8,f_B8,l_B8⟩:=blk3 B8.out
    go_wp2_with fail
    rw [HE1.out]
    refine Calls.mono (IH.out d rfl (e+1) (by omega) ao n cap l ⟨sn,sa,sl,sc,sb,sm',sd⟩ ⟨mn,ma,ml,mc,mb,mm,md⟩ a (mdV a b) S _ LA.out HS.out GM.out hn h8 HZ.out hS DA2.out DM.out HM1.out) ?_
    rintro e w29 ⟨x29,rfl,hE,g29⟩
    have G29:=Hi g29
    clear g29
    replace HX:=hE.tr HX
    replace HS:=Hi (HS.out.ext hE)
    replace HT:=Hi (HT.out.ext hE)
    replace LA:=Hi (LA.out.ext hE)
    replace B4:=hE.bl B4
    replace GM:=Hi (GM.out.ext hE)
    replace B8:=hE.bl B8
    have hs_w29:=hE.size
    clear hE
    try clear c_B4 f_B4 l_B4
    obtain ⟨c_B4,f_B4,l_B4⟩:=blk3 B4.out
    try clear c_B8 f_B8 l_B8
    obtain ⟨c_B8,f_B8,l_B8⟩:=blk3 B8.out
    obtain ⟨⟨ya,yn,yc⟩,yb⟩:=x29
    rcases hc1:rcl d (tz l) a (mdV a b) with _ | xs
    case none =>
      have HV:Hid (rcl (d+1) (tz l) a b=none):=Hi (by unfold rcl;rw [HPV.out,hc1];rfl)
      rw [hc1] at G29
      have hx:=G29.out
      unfold RcO at hx
      simp only [Prod.mk.injEq,SH.mk.injEq] at hx
      obtain ⟨⟨rfl,rfl,rfl⟩,rfl⟩:=hx
      clear G29 hc1
      go_wp2
      exact bodyPost_ret (v:=RcT (⟨none,0,0⟩,false)) (by simp [results,Tryz.results96,go_sem]) rfl ⟨(⟨none,0,0⟩,false),rfl,HX.out,by rw [HV.out];rfl⟩
    have HC1:=Hi hc1
    rw [hc1] at G29
    obtain ⟨hy,ho⟩:=G29.out
    simp only at hy ho
    subst hy
    have hsz20:w.heap.size≤w21.heap.size:=by omega
    have HO:Hid (OwnI w29 (w.heap.size≤·) (.slice ya yn yc) yn xs):=Hi (ho.mono (fun k _ h=>Nat.le_trans hsz20 h))
    clear G29 hc1 ho
    go_wp2_with fail
    rw [HE1.out]
    refine Calls.mono (IH.out d rfl (e+1) (by omega) ao n cap l ⟨mn,ma,ml,mc,mb,mm,md⟩ ⟨tn,ta,tl,tc,tb,tm,td⟩ (mdV a b) b S _ LA.out GM.out HT.out hn h8 HZ.out hS DM.out DB2.out HM2.out) ?_
    rintro e w42 ⟨x42,rfl,hE,g42⟩
    have G42:=Hi g42
    clear g42
    replace HX:=hE.tr HX
    replace HS:=Hi (HS.out.ext hE)
    replace HT:=Hi (HT.out.ext hE)
    replace LA:=Hi (LA.out.ext hE)
    replace B4:=hE.bl B4
    replace GM:=Hi (GM.out.ext hE)
    replace B8:=hE.bl B8
    replace HO:=Hi (HO.out.ext hE)
    have hs_w42:=hE.size
    clear hE
    try clear c_B4 f_B4 l_B4
    obtain ⟨c_B4,f_B4,l_B4⟩:=blk3 B4.out
    try clear c_B8 f_B8 l_B8
    obtain ⟨c_B8,f_B8,l_B8⟩:=blk3 B8.out
    obtain ⟨⟨ua,un,uc⟩,ub⟩:=x42
    rcases hc2:rcl d (tz l) (mdV a b) b with _ | ys
    case none =>
      have HV:Hid (rcl (d+1) (tz l) a b=none):=Hi (by unfold rcl;rw [HPV.out,HC1.out,hc2];rfl)
      rw [hc2] at G42
      have hx:=G42.out
      unfold RcO at hx
      simp only [Prod.mk.injEq,SH.mk.injEq] at hx
      obtain ⟨⟨rfl,rfl,rfl⟩,rfl⟩:=hx
      clear G42 hc2
      go_wp2
      exact bodyPost_ret (v:=RcT (⟨none,0,0⟩,false)) (by simp [results,Tryz.results96,go_sem]) rfl ⟨(⟨none,0,0⟩,false),rfl,HX.out,by rw [HV.out];rfl⟩
    have HC2:=Hi hc2
    have HV:Hid (rcl (d+1) (tz l) a b=some (xs ++ ys)):=Hi (by unfold rcl;rw [HPV.out,HC1.out,hc2];rfl)
    rw [hc2] at G42
    obtain ⟨hy,ho⟩:=G42.out
    simp only at hy ho
    subst hy
    have hyl:=ho.len
    have hyr:=rcl_len d HC2.out
    have hxl:=HO.out.len
    have hxr:=rcl_len d HC1.out
    have h2d : 2 ^ d ≤ 4096 := by have := Nat.pow_le_pow_right (show 0 < 2 by decide) (show d ≤ 12 by omega); have h : (2 : Nat) ^ 12 = 4096 := by decide
                                  omega
    have hyp:0 < un:=by
      have:=(rcl_ck d HC2.out).2.1
      rcases Nat.eq_zero_or_pos un with h | h
      · rw [h,Nat.zero_mul] at hyl;exact absurd (List.length_eq_zero_iff.1 hyl) this
      · exact h
    have hyn1:yn≤4096:=by omega
    have hun1:un≤4096:=by omega
    obtain ⟨L,cap2,rs2,he2,hDL,hat2,hvl2,hln2⟩:=ho.open hyp
    simp only [SH.v,Value.slice.injEq] at he2
    obtain ⟨rfl,-,rfl⟩:=he2
    have HA2:=Hi hat2
    have HV2:=Hi hvl2
    have HL2:=Hi hln2
    clear G42 hc2 ho hat2 hvl2 hln2 hyl hyr hxl hxr h2d hDL
    go_wp2_with (at_builtin;refine wpList_append_i rfl (.tmp 47) (.tmp 48) 46 Tryz.underlying46 rfl (w.heap.size≤·) _ yn xs L 0 un uc rs2 ys rfl HO.out rfl HL2.out hyp HA2.out HV2.out (by omega) (by omega) (fun k hk=>by show w.heap.size≤k;omega) ?_;intro s' y3 q1 q2 q3)
    have HX3:=Hi (Ext.mods HX.out q2 (fun k h=>h))
    have HO3:=Hi q1
    clear q1 q2 q3
    go_wp2
    have hn':s'.n=yn+un:=(OwnI.can HO3.out).1
    exact bodyPost_ret (v:=RcT (s',true)) (by simp [results,Tryz.results96,go_sem]) rfl ⟨(s',true),rfl,HX3.out,by rw [HV.out];exact RcO.some' rfl (by show OwnI _ _ _ s'.n _;rw [hn'];exact HO3.out)⟩
theorem rcells_any (d:Nat):RclP d:=by
 induction d with
 | zero=>exact rcells_step 0 (fun d' h=>by omega)
 | succ d ih =>
  refine rcells_step (d+1) (fun d' h=>?_)
  obtain rfl:d=d':=by omega
  exact ih
end Go.Proofs.YtpieblkklbilgaaGreat
