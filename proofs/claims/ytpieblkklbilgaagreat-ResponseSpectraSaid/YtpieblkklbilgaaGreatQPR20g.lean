/- Delay of the reference 20. -/
import Derived.Test.YtpieblkklbilgaaGreatQPR20f
import Derived.Test.YtpieblkklbilgaaGreatQPRp7
import Derived.Test.YtpieblkklbilgaaGreatQPE5
set_option linter.unusedVariables false
namespace Go.Proofs.YtpieblkklbilgaaGreat
open Go.RowKit Go.Front Go.Num Stab
attribute [local go_sem] XW.cell XW.frozen
theorem m5_tz (p q:List Rat):tz (mul5V p q)=mul5V p q:=by unfold mul5V;exact tz_idem _
theorem m5_comm (p q:List Rat):mul5V p q=mul5V q p:=by
 have h:tz (mul5V p q)=tz (mul5V q p):=tz_ext fun i=>by
  have h1:Stab.seq (mul5V p q) i=Stab.seq (mul5V q p) i:=by
   rw [mul5_seq,mul5_seq,ap_cv,ap_cv,cv_comm]
  exact h1
 rwa [m5_tz,m5_tz] at h
theorem sub5_sub (p q:List Rat):sub5V p q=subV p q:=by
 have h1:tz (sub5V p q)=sub5V p q:=by unfold sub5V;exact ad5_tz _ _
 have h2:tz (subV p q)=subV p q:=by unfold subV;exact ad5_tz _ _
 rw [← h1,← h2]
 refine tz_ext fun i=>?_
 unfold subV
 rw [sb5_getD,ad5_getD,Rat.sub_eq_add_neg]
 congr 1
 rw [List.getD_eq_getElem?_getD,List.getD_eq_getElem?_getD,List.getElem?_map]
 cases q[i]? with
 | none=>simp
 | some x=>rfl
theorem ev_one_fr {S D:Nat} {l:List Rat} (h:FrL S D l):∀ j k,k+j=l.length→Fr (S+j) D (evV (l.drop k) ((1:Int):Rat)):=by
 intro j
 induction j with
 | zero =>
  intro k hk
  rw [List.drop_eq_nil_of_le (by omega)]
  exact (Fr.zero S D)
 | succ j ih =>
  intro k hk
  have h1:=ih (k+1) (by omega)
  have h2:Fr (S+j) D (l.getD k 0):=(h.at k).mono (by omega)
  have h3:=h1.add h2
  have e2:evV (l.drop k) ((1:Int):Rat)=evV (l.drop (k+1)) ((1:Int):Rat)+l.getD k 0:=by
   rw [ev_dropk5 l _ (by omega),show ((1:Int):Rat)=1 from rfl,Rat.mul_one]
  rw [e2]
  exact h3
theorem cross8_sh (x:SH) (bo:Option Addr) (m d s:Nat) (ps qs:List Rat) (w:World) (h:CanL w x ps) (k:RawL w ⟨bo,m,d⟩ qs) (hn:ps.length≤12) (hm:m≤12) (hz:SzL s ps) (kz:SzL s qs) (hs1:1≤s) (hs:s≤400) :
  Does 143 [x.v,.slice bo m d] w RF (fun x w'=>x.2=0∧CanL w' x.1 (crossV ps qs)):=by
 obtain ⟨ao,n,c⟩:=x
 have e1:=h.len
 simp only at e1
 exact cross8_any ao bo n c m d s ps qs w (h.raw hz (by omega)) k (by omega) hm hz kz hs1 hs
theorem mul5_shx (s t:SH) (p q:List Rat) (S:Nat) (w:World) (h:CanL w s p) (k:CanL w t q) (hn:p.length≤100) (hm:q.length≤100) (zp:SzL S p) (zq:SzL S q) (hS:S≤400) :
  Does 70 [s.v,t.v] w SH.v (fun s w'=>CanL w' s (mul5V p q)):=by
 obtain ⟨ao,n,c⟩:=s
 obtain ⟨bo,m,d⟩:=t
 have e1:=h.len
 have e2:=k.len
 simp only at e1 e2
 exact (mul5_any ao bo n c m d p q S w (h.raw zp (by omega)) (k.raw zq (by omega)) (by omega) (by omega) zp zq hS).weak (fun _ _ _ h=>h.can)
theorem sub5_shx (s t:SH) (p q:List Rat) (S:Nat) (w:World) (h:CanL w s p) (k:CanL w t q) (hn:p.length≤100) (hm:q.length≤100) (zp:SzL S p) (zq:SzL S q) (hS:S≤8000000) :
  Does 69 [s.v,t.v] w SH.v (fun s w'=>CanL w' s (sub5V p q)):=by
 obtain ⟨ao,n,c⟩:=s
 obtain ⟨bo,m,d⟩:=t
 have e1:=h.len
 have e2:=k.len
 simp only at e1 e2
 exact (sub5_any ao bo n c m d p q w (h.raw zp (by omega)) (k.raw zq (by omega)) (by omega) (by omega) (zp.mono (by omega)) (zq.mono (by omega))).weak (fun _ _ _ h=>h.can)
theorem ev_one_sz {S:Nat} {l:List Rat} (h:FrB S l) (hl:l.length≤1000) (hS:S≤30000000):∀ k,k≤l.length→Sz 40000000 (evV (l.drop k) ((1:Int):Rat)):=by
 obtain ⟨h0,D,h1,h2,h3⟩:=h
 intro k hk
 have h4:=ev_one_fr h3 (l.length - k) k (by omega)
 exact (h4.sz (by omega) h1 (Nat.lt_of_lt_of_le h2 (W32_le (by omega)))).mono (by omega)
set_option maxRecDepth 8000 in
set_option maxHeartbeats 16000000 in
theorem rdelay20_any (f:FH) (b a:List Rat) (S:Nat) (w:World) (h:RawF w f b a) (hf:f.b.n≤5∧f.a.n≤5) (zb:FrB S b) (za:FrB S a) (hS:S≤13) :
  Does 62 [f.v] w FE (FEP (delV b a)):=by
 obtain ⟨⟨ba,bn,bc⟩,⟨aa,an,ac⟩⟩:=f
 have H:=Hi h
 have HX:=Hi (Ext.refl w)
 have ZB:=Hi zb.tz
 have ZA:=Hi za.tz
 have YB:Hid (SzL 13 b):=Hi (zb.sz.mono hS)
 have YA:Hid (SzL 13 a):=Hi (za.sz.mono hS)
 have hbn:=h.1.len
 have han:=h.2.len
 simp only at hbn han
 have hbl:=tz_len_le b
 have hal:=tz_len_le a
 have HTB:Hid (SzL 14 (tmV b)):=Hi (by
  rw [tm_trn]
  exact SzL.tz (((trn_frb (zb.tz.mono hS) (by simp only at hf;omega)).sz)))
 have HTA:Hid (SzL 14 (tmV a)):=Hi (by
  rw [tm_trn]
  exact SzL.tz (((trn_frb (za.tz.mono hS) (by simp only at hf;omega)).sz)))
 have HTL:Hid ((tmV b).length≤5∧(tmV a).length≤5):=Hi (by
  simp only at hf
  constructor
  ·unfold tmV;refine Nat.le_trans (tz_len_le _) ?_;rw [List.length_map,List.length_range];omega
  ·unfold tmV;refine Nat.le_trans (tz_len_le _) ?_;rw [List.length_map,List.length_range];omega)
 simp only at hf
 obtain ⟨hf1,hf2⟩:=hf
 obtain ⟨P,hP⟩:∃ P,P=(tz b).length:=⟨_,rfl⟩
 obtain ⟨Q,hQ⟩:∃ Q,Q=(tz a).length:=⟨_,rfl⟩
 rw [← hP] at hbl
 rw [← hQ] at hal
 have hP5:P≤5:=by omega
 have hQ5:Q≤5:=by omega
 have HPl:=Hi hP.symm
 have HQl:=Hi hQ.symm
 have HDB:Hid (∀ w1,Ext w w1→Does 94 [.slice ba bn bc] w1 (fun _:Unit=>.int .i64 ((P:Int) - 1)) (fun _ _=>True)):=Hi (fun w1 he=>by rw [hP];exact degree5_any ba bn bc b w1 (h.1.ext he) (by omega))
 have HDA:Hid (∀ w1,Ext w w1→Does 94 [.slice aa an ac] w1 (fun _:Unit=>.int .i64 ((Q:Int) - 1)) (fun _ _=>True)):=Hi (fun w1 he=>by rw [hQ];exact degree5_any aa an ac a w1 (h.2.ext he) (by omega))
 clear h zb za hbl hal hbn han hP hQ
 unfold Does
 simp only [FH.v,SH.v]
 go_enter Tryz.func62,Tryz.ntmps62
 go_upto_region 1 with fail
 refine nm_alloc2 ?_
 intro w1 hE hB0 hB1 hz
 have hz_w1:=nle hz
 have hr_w1:=nle hz.symm
 clear hz
 replace HX:=hE.tr HX
 have hs_w1:=hE.size
 clear hE
 have B1:=Hi hB0
 clear hB0
 obtain ⟨c_B1,f_B1,l_B1⟩:=blk3 B1.out
 have B2:=Hi hB1
 clear hB1
 obtain ⟨c_B2,f_B2,l_B2⟩:=blk3 B2.out
 go_wp2_with fail
 refine Calls.mono (rvalid_any ⟨⟨ba,bn,bc⟩,⟨aa,an,ac⟩⟩ b a _ (H.out.ext HX.out) (by simp only;omega) (by simp only;omega) YB.out YA.out (by decide)) ?_
 rintro e w23 ⟨x23,rfl,hE,-⟩
 replace HX:=hE.tr HX
 replace B1:=hE.bl B1
 replace B2:=hE.bl B2
 have hs_w23:=hE.size
 clear hE
 try clear c_B1 f_B1 l_B1
 obtain ⟨c_B1,f_B1,l_B1⟩:=blk3 B1.out
 try clear c_B2 f_B2 l_B2
 obtain ⟨c_B2,f_B2,l_B2⟩:=blk3 B2.out
 by_cases hv:VF b a
 case neg =>
  have hv1:decide (VF b a)=false:=decide_eq_false hv
  have HV:Hid (delV b a=(2,[],[])):=Hi (by unfold delV;rw [if_neg hv])
  rw [hv1]
  go_wp2
  refine nm_setF (F:=fun W=>bodyPost _ _ _ _ _ W) B2.out rfl ?_
  intro w3 T
  replace HX:=Hi (T.ext HX.out (by omega))
  replace B1:=Hi (T.rest _ _ (by omega) B1.out)
  replace B2:=Hi (T.bx)
  have hs_w3:=nle T.size
  have hr_w3:=nle T.size.symm
  clear T
  try clear c_B1 f_B1 l_B1
  obtain ⟨c_B1,f_B1,l_B1⟩:=blk3 B1.out
  try clear c_B2 f_B2 l_B2
  obtain ⟨c_B2,f_B2,l_B2⟩:=blk3 B2.out
  exact bodyPost_ret (v:=FE (⟨⟨none,0,0⟩,⟨none,0,0⟩⟩,2)) (by simp [results,Tryz.results62,go_sem,c_B2,FE]) rfl ⟨(⟨⟨none,0,0⟩,⟨none,0,0⟩⟩,2),rfl,HX.out,by rw [HV.out];exact ⟨rfl,canF_nil _⟩⟩
 have hv1:decide (VF b a)=true:=decide_eq_true hv
 have HA0:Hid (tz a ≠ []):=Hi (fun h=>by
  have h1:=hv.2.2
  rw [← tz_getD' a,h] at h1
  exact absurd h1 (by decide))
 have HV0:Hid (delV b a=if tz b=[] then (3,[],[]) else if 50 < (tz b).length+(tz a).length then (12,[],[]) else if evV (quoV (dlD (tz b) (tz a)) (gcdV (dlN (tz b) (tz a)) (dlD (tz b) (tz a)))) ((1:Int):Rat) < 0 then (0,ngV (quoV (dlN (tz b) (tz a)) (gcdV (dlN (tz b) (tz a)) (dlD (tz b) (tz a)))),ngV (quoV (dlD (tz b) (tz a)) (gcdV (dlN (tz b) (tz a)) (dlD (tz b) (tz a))))) else (0,quoV (dlN (tz b) (tz a)) (gcdV (dlN (tz b) (tz a)) (dlD (tz b) (tz a))),quoV (dlD (tz b) (tz a)) (gcdV (dlN (tz b) (tz a)) (dlD (tz b) (tz a))))):=Hi (by unfold delV;rw [if_pos hv])
 rw [hv1]
 clear hv hv1
 go_wp2_with fail
 refine Calls.mono (HDB.out _ HX.out) ?_
 rintro e w29 ⟨x29,rfl,hE,-⟩
 replace HX:=hE.tr HX
 replace B1:=hE.bl B1
 replace B2:=hE.bl B2
 have hs_w29:=hE.size
 clear hE
 try clear c_B1 f_B1 l_B1
 obtain ⟨c_B1,f_B1,l_B1⟩:=blk3 B1.out
 try clear c_B2 f_B2 l_B2
 obtain ⟨c_B2,f_B2,l_B2⟩:=blk3 B2.out
 by_cases hP0:P=0
 case pos =>
  subst hP0
  have HV:Hid (delV b a=(3,[],[])):=Hi (by rw [HV0.out,if_pos (List.length_eq_zero_iff.1 HPl.out)])
  go_wp2
  refine nm_setF (F:=fun W=>bodyPost _ _ _ _ _ W) B2.out rfl ?_
  intro w5 T
  replace HX:=Hi (T.ext HX.out (by omega))
  replace B1:=Hi (T.rest _ _ (by omega) B1.out)
  replace B2:=Hi (T.bx)
  have hs_w5:=nle T.size
  have hr_w5:=nle T.size.symm
  clear T
  try clear c_B1 f_B1 l_B1
  obtain ⟨c_B1,f_B1,l_B1⟩:=blk3 B1.out
  try clear c_B2 f_B2 l_B2
  obtain ⟨c_B2,f_B2,l_B2⟩:=blk3 B2.out
  exact bodyPost_ret (v:=FE (⟨⟨none,0,0⟩,⟨none,0,0⟩⟩,3)) (by simp [results,Tryz.results62,go_sem,c_B2,FE]) rfl ⟨(⟨⟨none,0,0⟩,⟨none,0,0⟩⟩,3),rfl,HX.out,by rw [HV.out];exact ⟨rfl,canF_nil _⟩⟩
 have hP1:¬ ((P:Int) - 1 < 0):=by omega
 have HB0:Hid (tz b ≠ []):=Hi (fun h=>by have:=HPl.out;rw [h] at this;simp at this;omega)
 have hdg:¬ ((48:Int) < (P:Int) - 1+((Q:Int) - 1)):=by omega
 go_upto_region 5 with fail
 refine wp_region_front 6 (fun opIx=>match opIx with
  | 2=>.spec Unit () (fun _=>.int .i64 ((P:Int) - 1)) (fun _ _=>True)
  | 5=>.spec Unit () (fun _=>.int .i64 ((Q:Int) - 1)) (fun _ _=>True)
  | _=>.quiet) (fun _=>[]) (by kernel_rfl) (by kernel_rfl) (fun w0 he0 hz0 hc0 hf0=>?_)
 replace he0:=Hi he0
 simp only [pT]
 repeat (refine wpq fun K h=>?_;go_big_quiet_op;refine h _ ?_;clear h K)
 refine wps he0.out rfl rfl (fun w1 hW hG=>?_) fun x30=>?_
 ·exact spc [.slice ba bn bc] Tryz.func94 (HDB.out _ (HX.out.trans hW))
 simp only [pS]
 repeat (refine wpq fun K h=>?_;go_big_quiet_op;refine h _ ?_;clear h K)
 refine wps he0.out rfl rfl (fun w1 hW hG=>?_) fun x31=>?_
 ·exact spc [.slice aa an ac] Tryz.func94 (HDA.out _ (HX.out.trans hW))
 simp only [pS]
 repeat (refine wpq fun K h=>?_;go_big_quiet_op;refine h _ ?_;clear h K)
 refine wpF_nil ?_
 intro w6 hI
 have hE:=he0.out.trans hI.ext
 clear hI he0 hz0 hc0 hf0
 replace HX:=hE.tr HX
 replace B1:=hE.bl B1
 replace B2:=hE.bl B2
 have hs_w6:=hE.size
 clear hE
 try clear c_B1 f_B1 l_B1
 obtain ⟨c_B1,f_B1,l_B1⟩:=blk3 B1.out
 try clear c_B2 f_B2 l_B2
 obtain ⟨c_B2,f_B2,l_B2⟩:=blk3 B2.out
 simp only [pD]
 go_wp2_with fail
 refine Calls.mono (magnitude8_any ba bn bc 13 b _ (H.out.1.ext HX.out) (by omega) YB.out (by decide) (by decide)) ?_
 rintro e w45 ⟨x45,rfl,hE,g45⟩
 have G45:=Hi g45
 clear g45
 replace HX:=hE.tr HX
 replace B1:=hE.bl B1
 replace B2:=hE.bl B2
 have hs_w45:=hE.size
 clear hE
 try clear c_B1 f_B1 l_B1
 obtain ⟨c_B1,f_B1,l_B1⟩:=blk3 B1.out
 try clear c_B2 f_B2 l_B2
 obtain ⟨c_B2,f_B2,l_B2⟩:=blk3 B2.out
 obtain ⟨x45,e45⟩:=x45
 have LMB:=Hi G45.out.2
 clear G45
 simp only [RF] at *
 go_wp2_with fail
 refine Calls.mono (magnitude8_any aa an ac 13 a _ (H.out.2.ext HX.out) (by omega) YA.out (by decide) (by decide)) ?_
 rintro e w51 ⟨x51,rfl,hE,g51⟩
 have G51:=Hi g51
 clear g51
 replace HX:=hE.tr HX
 replace B1:=hE.bl B1
 replace B2:=hE.bl B2
 replace LMB:=Hi (LMB.out.ext hE)
 have hs_w51:=hE.size
 clear hE
 try clear c_B1 f_B1 l_B1
 obtain ⟨c_B1,f_B1,l_B1⟩:=blk3 B1.out
 try clear c_B2 f_B2 l_B2
 obtain ⟨c_B2,f_B2,l_B2⟩:=blk3 B2.out
 obtain ⟨x51,e51⟩:=x51
 have LMA:=Hi G51.out.2
 clear G51
 simp only [RF] at *
 go_upto_region 9 with fail
 refine wp_region_edges [(9,8)] _ (by simp only [addEs,addE,List.push_toArray,List.cons_append,List.nil_append];exact rfl) (by intro c a d v w h;cases d <;> exact h) 9 (fun opIx=>match opIx with
  | 2=>.spec (SH) (default) (SH.v) (fun x w'=>CanL w' x (tmV b))
  | 5=>.spec (SH × Int) ((default,0)) ((fun x=>.tuple #[x.1.v,.int .i64 x.2])) (fun x w'=>CanL w' x.1 (crossV (tmV b) b))
  | _=>.quiet) (fun | 5=>[2] | _=>[]) (by kernel_rfl) (by kernel_rfl) (by kernel_rfl) (fun w0 he0 hz0 hc0 hf0=>?_)
 replace he0:=Hi he0
 simp only [pT]
 repeat (refine wpq fun K h=>?_;go_big_quiet_op;refine h _ ?_;clear h K)
 refine wps he0.out rfl rfl (fun w1 hW hG=>?_) fun x32=>?_
 ·exact spc [.slice ba bn bc] Tryz.func144 ((times20_any ba bn bc b _ ((H.out.1.ext HX.out).ext hW) (by omega) (YB.out.mono (by decide))).weak (fun _ _ _ h=>h.can))
 simp only [pS]
 repeat (refine wpq fun K h=>?_;go_big_quiet_op;refine h _ ?_;clear h K)
 refine wps he0.out rfl rfl (fun w1 hW hG=>?_) fun x33=>?_
 ·have g32:=(hG 2 (by decide):Since _ _).get fun _ e g=>g.ext e
  exact spc [x32.v,.slice ba bn bc] Tryz.func143 ((cross8_sh x32 ba bn bc 14 (tmV b) b _ g32 ((H.out.1.ext HX.out).ext hW) (by have:=HTL.out.1;omega) (by omega) HTB.out (YB.out.mono (by decide)) (by decide) (by decide)).weak (fun _ _ _ h=>h.2))
 simp only [pS]
 repeat (refine wpq fun K h=>?_;go_big_quiet_op;refine h _ ?_;clear h K)
 refine wpF_nil ?_
 intro w9 hI
 have hE:=he0.out.trans hI.ext
 have G32:=Hi ((hI.facts 2:Since _ _).get fun _ e g=>g.ext e)
 have G33:=Hi ((hI.facts 5:Since _ _).get fun _ e g=>g.ext e)
 clear hI he0 hz0 hc0 hf0
 replace HX:=hE.tr HX
 replace B1:=hE.bl B1
 replace B2:=hE.bl B2
 replace LMB:=Hi (LMB.out.ext hE)
 replace LMA:=Hi (LMA.out.ext hE)
 have hs_w9:=hE.size
 clear hE
 try clear c_B1 f_B1 l_B1
 obtain ⟨c_B1,f_B1,l_B1⟩:=blk3 B1.out
 try clear c_B2 f_B2 l_B2
 obtain ⟨c_B2,f_B2,l_B2⟩:=blk3 B2.out
 simp only [pD]
 clear G32
 obtain ⟨x33,e33⟩:=x33
 simp only at G33
 go_upto_region 10 with fail
 refine wp_region_edges [(9,8)] _ (by simp only [addEs,addE,List.push_toArray,List.cons_append,List.nil_append];exact rfl) (by intro c a d v w h;cases d <;> exact h) 9 (fun opIx=>match opIx with
  | 2=>.spec (SH) (default) (SH.v) (fun x w'=>CanL w' x (tmV a))
  | 5=>.spec (SH × Int) ((default,0)) ((fun x=>.tuple #[x.1.v,.int .i64 x.2])) (fun x w'=>CanL w' x.1 (crossV (tmV a) a))
  | _=>.quiet) (fun | 5=>[2] | _=>[]) (by kernel_rfl) (by kernel_rfl) (by kernel_rfl) (fun w0 he0 hz0 hc0 hf0=>?_)
 replace he0:=Hi he0
 simp only [pT]
 repeat (refine wpq fun K h=>?_;go_big_quiet_op;refine h _ ?_;clear h K)
 refine wps he0.out rfl rfl (fun w1 hW hG=>?_) fun x34=>?_
 ·exact spc [.slice aa an ac] Tryz.func144 ((times20_any aa an ac a _ ((H.out.2.ext HX.out).ext hW) (by omega) (YA.out.mono (by decide))).weak (fun _ _ _ h=>h.can))
 simp only [pS]
 repeat (refine wpq fun K h=>?_;go_big_quiet_op;refine h _ ?_;clear h K)
 refine wps he0.out rfl rfl (fun w1 hW hG=>?_) fun x35=>?_
 ·have g34:=(hG 2 (by decide):Since _ _).get fun _ e g=>g.ext e
  exact spc [x34.v,.slice aa an ac] Tryz.func143 ((cross8_sh x34 aa an ac 14 (tmV a) a _ g34 ((H.out.2.ext HX.out).ext hW) (by have:=HTL.out.2;omega) (by omega) HTA.out (YA.out.mono (by decide)) (by decide) (by decide)).weak (fun _ _ _ h=>h.2))
 simp only [pS]
 repeat (refine wpq fun K h=>?_;go_big_quiet_op;refine h _ ?_;clear h K)
 refine wpF_nil ?_
 intro w10 hI
 have hE:=he0.out.trans hI.ext
 have G34:=Hi ((hI.facts 2:Since _ _).get fun _ e g=>g.ext e)
 have G35:=Hi ((hI.facts 5:Since _ _).get fun _ e g=>g.ext e)
 clear hI he0 hz0 hc0 hf0
 replace HX:=hE.tr HX
 replace B1:=hE.bl B1
 replace B2:=hE.bl B2
 replace LMB:=Hi (LMB.out.ext hE)
 replace LMA:=Hi (LMA.out.ext hE)
 replace G33:=Hi (G33.out.ext hE)
 have hs_w10:=hE.size
 clear hE
 try clear c_B1 f_B1 l_B1
 obtain ⟨c_B1,f_B1,l_B1⟩:=blk3 B1.out
 try clear c_B2 f_B2 l_B2
 obtain ⟨c_B2,f_B2,l_B2⟩:=blk3 B2.out
 simp only [pD]
 clear G34
 obtain ⟨x35,e35⟩:=x35
 simp only at G35
 obtain ⟨p,hp⟩:∃ p,p=tz b:=⟨_,rfl⟩
 obtain ⟨q,hq⟩:∃ q,q=tz a:=⟨_,rfl⟩
 have HTp:Hid (tz p ≠ []):=Hi (by rw [hp,tz_idem];exact HB0.out)
 have HTq:Hid (tz q ≠ []):=Hi (by rw [hq,tz_idem];exact HA0.out)
 have HV1:Hid (delV b a=if evV (quoV (dlD p q) (gcdV (dlN p q) (dlD p q))) ((1:Int):Rat) < 0 then (0,ngV (quoV (dlN p q) (gcdV (dlN p q) (dlD p q))),ngV (quoV (dlD p q) (gcdV (dlN p q) (dlD p q)))) else (0,quoV (dlN p q) (gcdV (dlN p q) (dlD p q)),quoV (dlD p q) (gcdV (dlN p q) (dlD p q)))):=Hi (by rw [HV0.out,if_neg HB0.out,if_neg (by rw [HPl.out,HQl.out];omega),hp,hq])
 rw [tm_cross,← hp] at G33
 rw [tm_cross,← hq] at G35
 rw [← cross_tz,← hp] at LMB
 rw [← cross_tz,← hq] at LMA
 rw [← hp] at ZB HPl
 rw [← hq] at ZA HQl
 clear hp hq HV0 HB0 HA0
 have HGN:Hid (GNe (dlN p q) (dlD p q)):=Hi (fun u hu=>by rw [hu];exact dl_gcd HTp.out HTq.out)
 have HFR:=Hi (dl_frb ZB.out ZA.out (by rw [HPl.out];omega) (by rw [HQl.out];omega) hS)
 have HLN:=Hi (dl_len (p:=p) (q:=q) (by rw [HPl.out];omega) (by rw [HQl.out];omega))
 have HC1:Hid ((crossV (trnV p) p).length≤5∧(crossV (trnV q) q).length≤5∧(crossV p p).length≤5∧(crossV q q).length≤5):=Hi ⟨cross_len (by rw [trn_len,HPl.out];omega) (by rw [HPl.out];omega),cross_len (by rw [trn_len,HQl.out];omega) (by rw [HQl.out];omega),cross_len (by rw [HPl.out];omega) (by rw [HPl.out];omega),cross_len (by rw [HQl.out];omega) (by rw [HQl.out];omega)⟩
 go_wp2_with fail
 refine Calls.mono (mul5_shx x33 x51 _ _ 31 _ G33.out LMA.out (by have:=HC1.out;omega) (by have:=HC1.out;omega) HFR.out.2.2.1.sz (HFR.out.2.1.sz.mono (by decide)) (by decide)) ?_
 rintro e w74 ⟨x74,rfl,hE,g74⟩
 have G74:=Hi g74
 clear g74
 replace HX:=hE.tr HX
 replace B1:=hE.bl B1
 replace B2:=hE.bl B2
 replace LMB:=Hi (LMB.out.ext hE)
 replace LMA:=Hi (LMA.out.ext hE)
 replace G33:=Hi (G33.out.ext hE)
 replace G35:=Hi (G35.out.ext hE)
 have hs_w74:=hE.size
 clear hE
 try clear c_B1 f_B1 l_B1
 obtain ⟨c_B1,f_B1,l_B1⟩:=blk3 B1.out
 try clear c_B2 f_B2 l_B2
 obtain ⟨c_B2,f_B2,l_B2⟩:=blk3 B2.out
 go_wp2_with fail
 refine Calls.mono (mul5_shx x35 x45 _ _ 31 _ G35.out LMB.out (by have:=HC1.out;omega) (by have:=HC1.out;omega) HFR.out.2.2.2.1.sz (HFR.out.1.sz.mono (by decide)) (by decide)) ?_
 rintro e w77 ⟨x77,rfl,hE,g77⟩
 have G77:=Hi g77
 clear g77
 replace HX:=hE.tr HX
 replace B1:=hE.bl B1
 replace B2:=hE.bl B2
 replace LMB:=Hi (LMB.out.ext hE)
 replace LMA:=Hi (LMA.out.ext hE)
 replace G33:=Hi (G33.out.ext hE)
 replace G35:=Hi (G35.out.ext hE)
 replace G74:=Hi (G74.out.ext hE)
 have hs_w77:=hE.size
 clear hE
 try clear c_B1 f_B1 l_B1
 obtain ⟨c_B1,f_B1,l_B1⟩:=blk3 B1.out
 try clear c_B2 f_B2 l_B2
 obtain ⟨c_B2,f_B2,l_B2⟩:=blk3 B2.out
 go_wp2_with fail
 refine Calls.mono (sub5_shx x74 x77 _ _ 62 _ G74.out G77.out (Nat.le_trans (mul5_len1 (n:=5) (m:=5) HC1.out.1 HC1.out.2.2.2) (by decide)) (Nat.le_trans (mul5_len1 (n:=5) (m:=5) HC1.out.2.1 HC1.out.2.2.1) (by decide)) HFR.out.2.2.2.2.1.sz HFR.out.2.2.2.2.2.1.sz (by decide)) ?_
 rintro e w78 ⟨x78,rfl,hE,g78⟩
 have G78:=Hi g78
 clear g78
 replace HX:=hE.tr HX
 replace B1:=hE.bl B1
 replace B2:=hE.bl B2
 replace LMB:=Hi (LMB.out.ext hE)
 replace LMA:=Hi (LMA.out.ext hE)
 replace G33:=Hi (G33.out.ext hE)
 replace G35:=Hi (G35.out.ext hE)
 replace G74:=Hi (G74.out.ext hE)
 replace G77:=Hi (G77.out.ext hE)
 have hs_w78:=hE.size
 clear hE
 try clear c_B1 f_B1 l_B1
 obtain ⟨c_B1,f_B1,l_B1⟩:=blk3 B1.out
 try clear c_B2 f_B2 l_B2
 obtain ⟨c_B2,f_B2,l_B2⟩:=blk3 B2.out
 rw [sub5_sub] at G78
 go_wp2_with fail
 refine Calls.mono (mul5_shx x51 x45 _ _ 30 _ LMA.out LMB.out (by have:=HC1.out;omega) (by have:=HC1.out;omega) HFR.out.2.1.sz HFR.out.1.sz (by decide)) ?_
 rintro e w81 ⟨x81,rfl,hE,g81⟩
 have G81:=Hi g81
 clear g81
 replace HX:=hE.tr HX
 replace B1:=hE.bl B1
 replace B2:=hE.bl B2
 replace LMB:=Hi (LMB.out.ext hE)
 replace LMA:=Hi (LMA.out.ext hE)
 replace G33:=Hi (G33.out.ext hE)
 replace G35:=Hi (G35.out.ext hE)
 replace G74:=Hi (G74.out.ext hE)
 replace G77:=Hi (G77.out.ext hE)
 replace G78:=Hi (G78.out.ext hE)
 have hs_w81:=hE.size
 clear hE
 try clear c_B1 f_B1 l_B1
 obtain ⟨c_B1,f_B1,l_B1⟩:=blk3 B1.out
 try clear c_B2 f_B2 l_B2
 obtain ⟨c_B2,f_B2,l_B2⟩:=blk3 B2.out
 rw [m5_comm] at G81
 clear G33
 clear G35
 clear LMA
 clear LMB
 clear G74
 clear G77
 have G8:Hid (CanL w81 x81 (dlD p q)):=Hi G81.out
 have G26:Hid (CanL w81 x78 (dlN p q)):=Hi G78.out
 clear G78
 clear G81
 obtain ⟨nn,hnn⟩:∃ nn,nn=dlN p q:=⟨_,rfl⟩
 obtain ⟨dd,hdd⟩:∃ dd,dd=dlD p q:=⟨_,rfl⟩
 have FN:Hid (FrB 125 nn):=Hi (by rw [hnn];exact HFR.out.2.2.2.2.2.2.1)
 have FD:Hid (FrB 61 dd):=Hi (by rw [hdd];exact HFR.out.2.2.2.2.2.2.2)
 have LNn:Hid (nn.length≤9∧dd.length≤9):=Hi (by rw [hnn,hdd];exact HLN.out)
 rw [← hnn,← hdd] at HV1 HGN
 rw [← hnn] at G26
 rw [← hdd] at G8
 clear hnn hdd HFR HLN HC1
 obtain ⟨na,nl,nc⟩:=x78
 obtain ⟨da,dl,dc⟩:=x81
 have hnl:=G26.out.len
 have hdl:=G8.out.len
 simp only at hnl hdl
 have hnl9:nl≤9:=by rw [← hnl];exact LNn.out.1
 have hdl9:dl≤9:=by rw [← hdl];exact LNn.out.2
 obtain ⟨hN1,DN,hN2,hN3,hN4⟩:=FN.out
 obtain ⟨hD1,DD,hD2,hD3,hD4⟩:=(FD.out.mono (show 61≤125 by decide))
 have HK:Hid ((125+1) * 3 ^ max nl (dl+1)≤7440174):=Hi (Nat.le_trans (Nat.mul_le_mul_left _ (Nat.pow_le_pow_right (by decide) (show max nl (dl+1)≤10 by omega))) (by decide))
 simp only [SH.v]
 go_wp2_with fail
 refine Calls.mono (gcd5_any na da nl nc dl dc nn dd 125 DN DD _ G26.out G8.out (by omega) (by omega) (by decide) hN2 hN3 hD2 hD3 hN4 hD4 7440174 HK.out (by decide)) ?_
 rintro e w84 ⟨x84,rfl,hE,g84⟩
 have G84:=Hi g84
 clear g84
 replace HX:=hE.tr HX
 replace B1:=hE.bl B1
 replace B2:=hE.bl B2
 replace G8:=Hi (G8.out.ext hE)
 replace G26:=Hi (G26.out.ext hE)
 have hs_w84:=hE.size
 clear hE
 try clear c_B1 f_B1 l_B1
 obtain ⟨c_B1,f_B1,l_B1⟩:=blk3 B1.out
 try clear c_B2 f_B2 l_B2
 obtain ⟨c_B2,f_B2,l_B2⟩:=blk3 B2.out
 obtain ⟨ga,gl,gc⟩:=x84
 have LG:=Hi G84.out.1
 obtain ⟨hg14,X,DG,hX1,hX2,hX3,hX4,hX5⟩:=gcr_bound G84.out.2
 clear G84
 simp only [SH.v] at *
 obtain ⟨g,hg⟩:∃ g,g=gcdV nn dd:=⟨_,rfl⟩
 have HGN2:Hid (tz g ≠ []):=Hi (HGN.out g hg)
 clear HGN
 have HGN:=HGN2
 clear HGN2
 rw [← hg] at LG HV1 hX1 hg14
 have hgl:=LG.out.len
 simp only at hgl
 have hgl14:gl≤14:=by rw [← hgl];exact hg14
 have Hgl:=Hi hgl
 have Hnl:=Hi hnl
 have Hdl:=Hi hdl
 clear hg hgl hnl hdl hg14
 have hb9:∀ m,m≤9→m * (X+1)≤9 * 2480058:=fun m hm=>Nat.mul_le_mul hm (by omega)
 have hb10:∀ m,m≤9→(m+1) * (X+1)≤10 * 2480058:=fun m hm=>Nat.mul_le_mul (by omega) (by omega)
 have hbn:=hb9 nl hnl9
 have hbd:=hb9 dl hdl9
 have hbn1:=hb10 nl hnl9
 have hbd1:=hb10 dl hdl9
 clear hb9 hb10
 have FQN:Hid (FrB 22320647 (quoV nn g)):=Hi ((quoV_frb hN4 hX1 HGN.out (by decide) hN2 hN3 hX3 hX4 (nle Hnl.out)).mono (by omega))
 have FQD:Hid (FrB 22320647 (quoV dd g)):=Hi ((quoV_frb hD4 hX1 HGN.out (by decide) hD2 hD3 hX3 hX4 (nle Hdl.out)).mono (by omega))
 go_wp2_with fail
 refine Calls.mono (dm5_any na ga nl nc gl gc nn g 125 X DN DG _ G26.out LG.out (by omega) (by omega) (by decide) hX2 hN2 hN3 hX3 hX4 hN4 hX1 HGN.out (by omega)) ?_
 rintro e w88 ⟨x88,rfl,hE,g88⟩
 have G88:=Hi g88
 clear g88
 replace HX:=hE.tr HX
 replace B1:=hE.bl B1
 replace B2:=hE.bl B2
 replace G8:=Hi (G8.out.ext hE)
 replace G26:=Hi (G26.out.ext hE)
 replace LG:=Hi (LG.out.ext hE)
 have hs_w88:=hE.size
 clear hE
 try clear c_B1 f_B1 l_B1
 obtain ⟨c_B1,f_B1,l_B1⟩:=blk3 B1.out
 try clear c_B2 f_B2 l_B2
 obtain ⟨c_B2,f_B2,l_B2⟩:=blk3 B2.out
 obtain ⟨⟨ea,el,ec⟩,⟨fa',fl,fc⟩⟩:=x88
 have LE:=Hi G88.out.1
 clear G88
 simp only [QT] at *
 go_wp2_with fail
 refine Calls.mono (dm5_any da ga dl dc gl gc dd g 125 X DD DG _ G8.out LG.out (by omega) (by omega) (by decide) hX2 hD2 hD3 hX3 hX4 hD4 hX1 HGN.out (by omega)) ?_
 rintro e w95 ⟨x95,rfl,hE,g95⟩
 have G95:=Hi g95
 clear g95
 replace HX:=hE.tr HX
 replace B1:=hE.bl B1
 replace B2:=hE.bl B2
 replace G8:=Hi (G8.out.ext hE)
 replace G26:=Hi (G26.out.ext hE)
 replace LG:=Hi (LG.out.ext hE)
 replace LE:=Hi (LE.out.ext hE)
 have hs_w95:=hE.size
 clear hE
 try clear c_B1 f_B1 l_B1
 obtain ⟨c_B1,f_B1,l_B1⟩:=blk3 B1.out
 try clear c_B2 f_B2 l_B2
 obtain ⟨c_B2,f_B2,l_B2⟩:=blk3 B2.out
 obtain ⟨⟨ia,il,ic⟩,⟨ja,jl,jc⟩⟩:=x95
 have LI:=Hi G95.out.1
 clear G95
 simp only [QT] at *
 clear G26
 clear G8
 clear LG
 obtain ⟨qn,hqn⟩:∃ qn,qn=quoV nn g:=⟨_,rfl⟩
 obtain ⟨qd,hqd⟩:∃ qd,qd=quoV dd g:=⟨_,rfl⟩
 rw [← hqn] at LE FQN HV1
 rw [← hqd] at LI FQD HV1
 have hel:el≤10:=by have h1:=LE.out.len;have h2:=quoV_len nn g;rw [← hqn] at h2;have h3:=LNn.out.1;simp only at h1;omega
 have hil:il≤10:=by have h1:=LI.out.len;have h2:=quoV_len dd g;rw [← hqd] at h2;have h3:=LNn.out.2;simp only at h1;omega
 have hqdl:qd.length≤10:=by have h1:=LI.out.len;simp only at h1;omega
 clear hqn hqd hN4 hD4 hX1 HGN
 go_wp2_with fail
 refine Calls.mono (rof3_any 1 _ (by decide) (by decide)) ?_
 rintro e w100 ⟨x100,rfl,hE,g100⟩
 have G100:=Hi g100
 clear g100
 replace HX:=hE.tr HX
 replace B1:=hE.bl B1
 replace B2:=hE.bl B2
 replace LE:=Hi (LE.out.ext hE)
 replace LI:=Hi (LI.out.ext hE)
 have hs_w100:=hE.size
 clear hE
 try clear c_B1 f_B1 l_B1
 obtain ⟨c_B1,f_B1,l_B1⟩:=blk3 B1.out
 try clear c_B2 f_B2 l_B2
 obtain ⟨c_B2,f_B2,l_B2⟩:=blk3 B2.out
 have Z1:Hid (Sz 1 ((1:Int):Rat)):=Hi (Sz.int (by decide))
 have ZE:=Hi (ev_one_sz FQD.out (by omega) (by decide))
 go_wp2_with fail
 refine Calls.mono (eval5_big ia il ic qd x100 ((1:Int):Rat) _ LI.out G100.out (by omega) (FQD.out.sz.mono (by decide)) (Z1.out.mono (by decide)) ZE.out) ?_
 rintro e w101 ⟨x101,rfl,hE,g101⟩
 have G101:=Hi g101
 clear g101
 replace HX:=hE.tr HX
 replace B1:=hE.bl B1
 replace B2:=hE.bl B2
 replace LE:=Hi (LE.out.ext hE)
 replace LI:=Hi (LI.out.ext hE)
 replace G100:=Hi (G100.out.ext hE)
 have hs_w101:=hE.size
 clear hE
 try clear c_B1 f_B1 l_B1
 obtain ⟨c_B1,f_B1,l_B1⟩:=blk3 B1.out
 try clear c_B2 f_B2 l_B2
 obtain ⟨c_B2,f_B2,l_B2⟩:=blk3 B2.out
 go_wp2_with fail
 refine Calls.mono (rsign3_any x101 (evV qd ((1:Int):Rat)) _ (G101.out.raw (ZE.out 0 (Nat.zero_le _)) (by decide))) ?_
 rintro e w102 ⟨x102,rfl,hE,-⟩
 replace HX:=hE.tr HX
 replace B1:=hE.bl B1
 replace B2:=hE.bl B2
 replace LE:=Hi (LE.out.ext hE)
 replace LI:=Hi (LI.out.ext hE)
 replace G100:=Hi (G100.out.ext hE)
 replace G101:=Hi (G101.out.ext hE)
 have hs_w102:=hE.size
 clear hE
 try clear c_B1 f_B1 l_B1
 obtain ⟨c_B1,f_B1,l_B1⟩:=blk3 B1.out
 try clear c_B2 f_B2 l_B2
 obtain ⟨c_B2,f_B2,l_B2⟩:=blk3 B2.out
 clear G100
 clear G101
 have HC:=Hi (cmpR_lt0 (evV qd ((1:Int):Rat)))
 obtain ⟨cc,hcc⟩:∃ cc,cc=cmpR (evV qd ((1:Int):Rat)) 0:=⟨_,rfl⟩
 rw [← hcc] at HC ⊢
 clear hcc
 have hb2w:w.heap.size≤w.heap.size+1:=by omega
 by_cases hlt:cc < 0
 case pos =>
  have HV:Hid (delV b a=(0,ngV qn,ngV qd)):=Hi (by rw [HV1.out,if_pos (HC.out.1 hlt)])
  have Zm:Hid (Sz 1 ((-1:Int):Rat)):=Hi (Sz.int (by decide))
  go_wp2_with fail
  refine Calls.mono (rof3_any (-1) _ (by decide) (by decide)) ?_
  rintro e w105 ⟨x105,rfl,hE,g105⟩
  have G105:=Hi g105
  clear g105
  replace HX:=hE.tr HX
  replace B1:=hE.bl B1
  replace B2:=hE.bl B2
  replace LE:=Hi (LE.out.ext hE)
  replace LI:=Hi (LI.out.ext hE)
  have hs_w105:=hE.size
  clear hE
  try clear c_B1 f_B1 l_B1
  obtain ⟨c_B1,f_B1,l_B1⟩:=blk3 B1.out
  try clear c_B2 f_B2 l_B2
  obtain ⟨c_B2,f_B2,l_B2⟩:=blk3 B2.out
  go_wp2_with fail
  refine Calls.mono ((scale5_big ea el ec qn x105 ((-1:Int):Rat) _ (LE.out.raw FQN.out.sz (by decide)) (G105.out.raw Zm.out (by decide)) (by omega) (FQN.out.sz.mono (by decide)) (Zm.out.mono (by decide))).weak (ψ:=fun x w'=>CanL w' x (ngV qn)) (fun _ _ _ h=>h.can)) ?_
  rintro e w106 ⟨x106,rfl,hE,g106⟩
  have G106:=Hi g106
  clear g106
  replace HX:=hE.tr HX
  replace B1:=hE.bl B1
  replace B2:=hE.bl B2
  replace LE:=Hi (LE.out.ext hE)
  replace LI:=Hi (LI.out.ext hE)
  replace G105:=Hi (G105.out.ext hE)
  have hs_w106:=hE.size
  clear hE
  try clear c_B1 f_B1 l_B1
  obtain ⟨c_B1,f_B1,l_B1⟩:=blk3 B1.out
  try clear c_B2 f_B2 l_B2
  obtain ⟨c_B2,f_B2,l_B2⟩:=blk3 B2.out
  go_wp2_with fail
  refine Calls.mono (rof3_any (-1) _ (by decide) (by decide)) ?_
  rintro e w108 ⟨x108,rfl,hE,g108⟩
  have G108:=Hi g108
  clear g108
  replace HX:=hE.tr HX
  replace B1:=hE.bl B1
  replace B2:=hE.bl B2
  replace LE:=Hi (LE.out.ext hE)
  replace LI:=Hi (LI.out.ext hE)
  replace G105:=Hi (G105.out.ext hE)
  replace G106:=Hi (G106.out.ext hE)
  have hs_w108:=hE.size
  clear hE
  try clear c_B1 f_B1 l_B1
  obtain ⟨c_B1,f_B1,l_B1⟩:=blk3 B1.out
  try clear c_B2 f_B2 l_B2
  obtain ⟨c_B2,f_B2,l_B2⟩:=blk3 B2.out
  go_wp2_with fail
  refine Calls.mono ((scale5_big ia il ic qd x108 ((-1:Int):Rat) _ (LI.out.raw FQD.out.sz (by decide)) (G108.out.raw Zm.out (by decide)) (by omega) (FQD.out.sz.mono (by decide)) (Zm.out.mono (by decide))).weak (ψ:=fun x w'=>CanL w' x (ngV qd)) (fun _ _ _ h=>h.can)) ?_
  rintro e w109 ⟨x109,rfl,hE,g109⟩
  have G109:=Hi g109
  clear g109
  replace HX:=hE.tr HX
  replace B1:=hE.bl B1
  replace B2:=hE.bl B2
  replace LE:=Hi (LE.out.ext hE)
  replace LI:=Hi (LI.out.ext hE)
  replace G105:=Hi (G105.out.ext hE)
  replace G106:=Hi (G106.out.ext hE)
  replace G108:=Hi (G108.out.ext hE)
  have hs_w109:=hE.size
  clear hE
  try clear c_B1 f_B1 l_B1
  obtain ⟨c_B1,f_B1,l_B1⟩:=blk3 B1.out
  try clear c_B2 f_B2 l_B2
  obtain ⟨c_B2,f_B2,l_B2⟩:=blk3 B2.out
  go_wp2
  clear LE
  clear LI
  clear G105
  clear G108
  refine nm_setF (F:=fun W=>bodyPost _ _ _ _ _ W) B2.out rfl ?_
  intro w19 T
  have L1:=Hi (G106.out.put2 B2.out T)
  have L2:=Hi (G109.out.put2 B2.out T)
  clear G106
  clear G109
  replace HX:=Hi (T.ext HX.out (by omega))
  replace B1:=Hi (T.rest _ _ (by omega) B1.out)
  replace B2:=Hi (T.bx)
  have hs_w19:=nle T.size
  have hr_w19:=nle T.size.symm
  clear T
  try clear c_B1 f_B1 l_B1
  obtain ⟨c_B1,f_B1,l_B1⟩:=blk3 B1.out
  try clear c_B2 f_B2 l_B2
  obtain ⟨c_B2,f_B2,l_B2⟩:=blk3 B2.out
  exact bodyPost_ret (v:=FE (⟨x106,x109⟩,0)) (by simp [results,Tryz.results62,go_sem,c_B2,FE]) rfl ⟨(⟨x106,x109⟩,0),rfl,HX.out,by rw [HV.out];exact ⟨rfl,L1.out,L2.out⟩⟩
 have HV:Hid (delV b a=(0,qn,qd)):=Hi (by rw [HV1.out,if_neg (fun h=>hlt (HC.out.2 h))])
 go_wp2
 refine nm_setF (F:=fun W=>bodyPost _ _ _ _ _ W) B2.out rfl ?_
 intro w19 T
 have L1:=Hi (LE.out.put2 B2.out T)
 have L2:=Hi (LI.out.put2 B2.out T)
 clear LE
 clear LI
 replace HX:=Hi (T.ext HX.out (by omega))
 replace B1:=Hi (T.rest _ _ (by omega) B1.out)
 replace B2:=Hi (T.bx)
 have hs_w19:=nle T.size
 have hr_w19:=nle T.size.symm
 clear T
 try clear c_B1 f_B1 l_B1
 obtain ⟨c_B1,f_B1,l_B1⟩:=blk3 B1.out
 try clear c_B2 f_B2 l_B2
 obtain ⟨c_B2,f_B2,l_B2⟩:=blk3 B2.out
 exact bodyPost_ret (v:=FE (⟨⟨ea,el,ec⟩,⟨ia,il,ic⟩⟩,0)) (by simp [results,Tryz.results62,go_sem,c_B2,FE]) rfl ⟨(⟨⟨ea,el,ec⟩,⟨ia,il,ic⟩⟩,0),rfl,HX.out,by rw [HV.out];exact ⟨rfl,L1.out,L2.out⟩⟩
end Go.Proofs.YtpieblkklbilgaaGreat
