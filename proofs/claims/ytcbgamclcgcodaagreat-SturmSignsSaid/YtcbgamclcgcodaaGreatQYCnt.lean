/- between, Count of package sturm. -/
import Derived.Test.YtcbgamclcgcodaaGreatQYNc
import Derived.Test.YtcbgamclcgcodaaGreatQYIv1
set_option linter.unusedVariables false
set_option maxRecDepth 8000
set_option maxHeartbeats 8000000
namespace Go.Proofs.YtcbgamclcgcodaaGreat
open Go.RowKit Go.Front Go.Num Stab Sg
attribute [local go_sem] XW.cell XW.frozen
def btM (ms:List (List Rat)) (lo hi:Rat):Int:=(varV ms lo:Int) - varV ms hi - (if rtV ms hi = true∧lo < hi then 1 else 0)
theorem var_le (ms:List (List Rat)) (x:Rat):varV ms x≤ms.length:=by
 unfold varV
 have:∀ (l:List Int) (z:Int),vr z l≤l.length:=by
  intro l
  induction l with
  | nil=>intro z; exact Nat.le_refl _
  | cons s l ih =>
   intro z
   have h1:=ih z
   have h2:=ih s
   unfold vr
   rw [List.length_cons]
   split
   ·omega
   ·split <;> omega
 have h:=this (ms.map fun m=>Sg.sg (evV m x)) 0
 rwa [List.length_map] at h
theorem cmpR_lt0 {a b:Rat}:cmpR a b < 0↔a < b:=by
 unfold cmpR
 split
 ·exact ⟨fun _=>by assumption,fun _=>by decide⟩
 ·split <;> constructor <;> intro h <;> first | omega | contradiction
theorem sbtw_any (v:SH) (ms:List (List Rat)) (K:Nat) (s t:RH) (a b:Rat) (T:Nat) (w:World) (hc:ChK w v ms K) (h0:0 < ms.length) (hs:CanR w s a) (ht:CanR w t b) (za:Sz T a) (zb:Sz T b) (hT:1≤T) (hT3:T≤1000) :
  Does 195 [CV v,s.v,t.v] w (fun _:Unit=>.int .i64 (btM ms a b)) (fun _ _=>True):=by
 obtain ⟨va,vn,vc⟩:=v
 obtain ⟨sn,sa,sl,sc,sb,sm,sd⟩:=s
 obtain ⟨tn,ta,tl,tc,tb,tm,td⟩:=t
 have HX:=Hi (Ext.refl w)
 have HC:=Hi hc
 have HS:=Hi hs
 have HT:=Hi ht
 have ZA:=Hi za
 have ZB:=Hi zb
 have hl:=hc.ln
 have v1:=var_le ms a
 have v2:=var_le ms b
 obtain ⟨x1,hx1⟩:∃ x1,x1 = varV ms a:=⟨_,rfl⟩
 obtain ⟨x2,hx2⟩:∃ x2,x2 = varV ms b:=⟨_,rfl⟩
 have HV1:=Hi hx1
 have HV2:=Hi hx2
 rw [← hx1] at v1
 rw [← hx2] at v2
 clear hc hs ht za zb hx1 hx2
 unfold Does
 go_enter Tryz.func195,Tryz.ntmps195
 simp only [CV,SH.v]
 go_upto_region 1 with fail
 refine nm_alloc3 ?_
 intro w1 hE hB0 hB1 hB2 hz
 have hz_w1:=nle hz
 have hr_w1:=nle hz.symm
 clear hz
 replace HX:=hE.tr HX
 replace HC:=Hi (HC.out.ext hE)
 replace HS:=Hi (HS.out.ext hE)
 replace HT:=Hi (HT.out.ext hE)
 have hs_w1:=hE.size
 clear hE
 have B3:=Hi hB0
 clear hB0
 obtain ⟨c_B3,f_B3,l_B3⟩:=blk3 B3.out
 have B4:=Hi hB1
 clear hB1
 obtain ⟨c_B4,f_B4,l_B4⟩:=blk3 B4.out
 have B5:=Hi hB2
 clear hB2
 obtain ⟨c_B5,f_B5,l_B5⟩:=blk3 B5.out
 go_upto_region 2 with fail
 refine wp_region_front 8 (fun opIx=>match opIx with
  | 2=>.spec Unit () (fun _=>.int .i64 (x1:Nat)) (fun _ _=>True)
  | 5=>.spec Unit () (fun _=>.int .i64 (x2:Nat)) (fun _ _=>True)
  | _=>.quiet) (fun _=>[]) (by kernel_rfl) (by kernel_rfl) (fun w0 he0 hz0 hc0 hf0=>?_)
 replace he0:=Hi he0
 simp only [pT]
 repeat (refine wpq fun K h=>?_; go_big_quiet_op; refine h _ ?_; clear h K)
 refine wps he0.out rfl rfl (fun w1 hW hG=>?_) fun x20=>?_
 ·exact (by rw [HV1.out]; exact spec_callf #[CV ⟨va,vn,vc⟩] [CV ⟨va,vn,vc⟩,RH.v ⟨sn,sa,sl,sc,sb,sm,sd⟩] rfl rfl rfl Tryz.func109 (by kernel_rfl) (by kernel_rfl) (svar_any ⟨va,vn,vc⟩ ms K ⟨sn,sa,sl,sc,sb,sm,sd⟩ a T _ (HC.out.ext hW) (HS.out.ext hW) ZA.out hT hT3))
 simp only [pS]
 repeat (refine wpq fun K h=>?_; go_big_quiet_op; refine h _ ?_; clear h K)
 refine wps he0.out rfl rfl (fun w1 hW hG=>?_) fun x21=>?_
 ·exact (by rw [HV2.out]; exact spec_callf #[CV ⟨va,vn,vc⟩] [CV ⟨va,vn,vc⟩,RH.v ⟨tn,ta,tl,tc,tb,tm,td⟩] rfl rfl rfl Tryz.func109 (by kernel_rfl) (by kernel_rfl) (svar_any ⟨va,vn,vc⟩ ms K ⟨tn,ta,tl,tc,tb,tm,td⟩ b T _ (HC.out.ext hW) (HT.out.ext hW) ZB.out hT hT3))
 simp only [pS]
 repeat (refine wpq fun K h=>?_; go_big_quiet_op; refine h _ ?_; clear h K)
 refine wpF_nil ?_
 intro w2 hI
 have hE:=he0.out.trans hI.ext
 clear hI he0 hz0 hc0 hf0
 replace HX:=hE.tr HX
 replace HC:=Hi (HC.out.ext hE)
 replace HS:=Hi (HS.out.ext hE)
 replace HT:=Hi (HT.out.ext hE)
 replace B3:=hE.bl B3
 replace B4:=hE.bl B4
 replace B5:=hE.bl B5
 have hs_w2:=hE.size
 clear hE
 try clear c_B3 f_B3 l_B3
 obtain ⟨c_B3,f_B3,l_B3⟩:=blk3 B3.out
 try clear c_B4 f_B4 l_B4
 obtain ⟨c_B4,f_B4,l_B4⟩:=blk3 B4.out
 try clear c_B5 f_B5 l_B5
 obtain ⟨c_B5,f_B5,l_B5⟩:=blk3 B5.out
 simp only [pD]
 go_wp2_with fail
 refine Calls.mono (srootat_any ⟨va,vn,vc⟩ ms K ⟨tn,ta,tl,tc,tb,tm,td⟩ b T _ HC.out h0 HT.out ZB.out hT hT3) ?_
 rintro e w20 ⟨x20,rfl,hE,-⟩
 replace HX:=hE.tr HX
 replace HC:=Hi (HC.out.ext hE)
 replace HS:=Hi (HS.out.ext hE)
 replace HT:=Hi (HT.out.ext hE)
 replace B3:=hE.bl B3
 replace B4:=hE.bl B4
 replace B5:=hE.bl B5
 have hs_w20:=hE.size
 clear hE
 try clear c_B3 f_B3 l_B3
 obtain ⟨c_B3,f_B3,l_B3⟩:=blk3 B3.out
 try clear c_B4 f_B4 l_B4
 obtain ⟨c_B4,f_B4,l_B4⟩:=blk3 B4.out
 try clear c_B5 f_B5 l_B5
 obtain ⟨c_B5,f_B5,l_B5⟩:=blk3 B5.out
 obtain ⟨r,hr⟩:∃ r,r = rtV ms b:=⟨_,rfl⟩
 have HR:=Hi hr
 rw [← hr]
 clear hr
 cases r
 case false =>
  have HE:Hid (btM ms a b = (x1:Int) - (x2:Int)):=Hi (by unfold btM; rw [← HR.out,← HV1.out,← HV2.out,if_neg (by simp)]; omega)
  go_wp2
  go_ret
  exact ⟨(),by rw [HE.out]; rfl,HX.out,trivial⟩
 go_wp2_with fail
 refine Calls.mono (rcmp_any ⟨sn,sa,sl,sc,sb,sm,sd⟩ ⟨tn,ta,tl,tc,tb,tm,td⟩ a b _ (HS.out.raw ZA.out (by omega)) (HT.out.raw ZB.out (by omega))) ?_
 rintro e w24 ⟨x24,rfl,hE,-⟩
 replace HX:=hE.tr HX
 replace HC:=Hi (HC.out.ext hE)
 replace HS:=Hi (HS.out.ext hE)
 replace HT:=Hi (HT.out.ext hE)
 replace B3:=hE.bl B3
 replace B4:=hE.bl B4
 replace B5:=hE.bl B5
 have hs_w24:=hE.size
 clear hE
 try clear c_B3 f_B3 l_B3
 obtain ⟨c_B3,f_B3,l_B3⟩:=blk3 B3.out
 try clear c_B4 f_B4 l_B4
 obtain ⟨c_B4,f_B4,l_B4⟩:=blk3 B4.out
 try clear c_B5 f_B5 l_B5
 obtain ⟨c_B5,f_B5,l_B5⟩:=blk3 B5.out
 by_cases hlt:a < b
 ·have hc:cmpR a b < 0:=cmpR_lt0.2 hlt
  have HE:Hid (btM ms a b = (x1:Int) - (x2:Int) - 1):=Hi (by unfold btM; rw [← HR.out,← HV1.out,← HV2.out,if_pos ⟨rfl,hlt⟩])
  generalize cmpR a b = c at *
  clear hlt
  go_wp2
  go_ret
  exact ⟨(),by rw [HE.out]; rfl,HX.out,trivial⟩
 ·have hc:¬ cmpR a b < 0:=fun h=>hlt (cmpR_lt0.1 h)
  have HE:Hid (btM ms a b = (x1:Int) - (x2:Int)):=Hi (by unfold btM; rw [← HR.out,← HV1.out,← HV2.out,if_neg (fun h=>hlt h.2)]; omega)
  generalize cmpR a b = c at *
  clear hlt
  go_wp2
  go_ret
  exact ⟨(),by rw [HE.out]; rfl,HX.out,trivial⟩
theorem scount_any (pa:Option Addr) (P pc:Nat) (p:List Rat) (K:Nat) (s t:RH) (a b:Rat) (T:Nat) (w:World) (h:CanL w ⟨pa,P,pc⟩ p) (hP:P≤49) (h0:tz p ≠ []) (hk:FrK K p) (hK:K≤12000000) (hK2:(P + 1) * (K / 3)≤25000000) (hsq:FrK K (sqfV p))
  (hs:RawR w s a) (ht:RawR w t b) (za:Sz T a) (zb:Sz T b) (hT:1≤T) (hT3:T≤1000) :
  Does 37 [.slice pa P pc,IvV (s,t)] w (fun _:Unit=>.tuple #[.int .i64 (cntV p (loV a b) (hiV a b)),.int .i64 0]) (fun _ _=>True):=by
 obtain ⟨sn,sa,sl,sc,sb,sm,sd⟩:=s
 obtain ⟨tn,ta,tl,tc,tb,tm,td⟩:=t
 have HX:=Hi (Ext.refl w)
 have LP:=Hi h.lin
 have HS:=Hi hs
 have HT:=Hi ht
 have hlen:=h.len
 simp only at hlen
 have HKp:=Hi hk
 have HKs:=Hi hsq
 have H0:=Hi h0
 have HSz:Hid (SzL K p):=Hi (by
  obtain ⟨S,D,h1,h2,h3,h4,h5⟩:=hk
  exact (h4.sz h1 h2 h3).mono (by have:=FrK.small h5; omega))
 have HCK:Hid (chkV p = 0):=Hi (by unfold chkV; rw [if_neg (by have:=tz_len_le p; omega),if_neg h0])
 have ZA:Hid (Sz T (loV a b)):=Hi (by rcases lo_or a b with e | e <;> rw [e] <;> assumption)
 have ZB:Hid (Sz T (hiV a b)):=Hi (by rcases hi_or a b with e | e <;> rw [e] <;> assumption)
 have hms:Hid (0 < (remsV (rootV p)).length):=Hi (rems_pos (root_rt h0).ne)
 obtain ⟨lo,hlo⟩:∃ lo,lo = loV a b:=⟨_,rfl⟩
 obtain ⟨hi,hhi⟩:∃ hi,hi = hiV a b:=⟨_,rfl⟩
 rw [← hlo] at ZA
 rw [← hhi] at ZB
 have v1:=var_le (remsV (rootV p)) lo
 have v2:=var_le (remsV (rootV p)) hi
 have hml:(remsV (rootV p)).length≤P + 1:=by
  have e1:=rems_len (rootV p)
  have e2:(rootV p).length≤p.length:=by unfold rootV; split; exact sqf_len h0; exact Nat.le_refl _
  omega
 obtain ⟨x1,hx1⟩:∃ x1,x1 = varV (remsV (rootV p)) lo:=⟨_,rfl⟩
 obtain ⟨x2,hx2⟩:∃ x2,x2 = varV (remsV (rootV p)) hi:=⟨_,rfl⟩
 have HV1:=Hi hx1
 have HV2:=Hi hx2
 rw [← hx1] at v1
 rw [← hx2] at v2
 have hx1b:x1≤100:=by omega
 have hx2b:x2≤100:=by omega
 have HCN:Hid (cntV p (loV a b) (hiV a b) = (x1:Int) - (x2:Int) + (if rtV (remsV (rootV p)) lo = true then 1 else 0)):=Hi (by rw [hx1,hx2,← hlo,← hhi]; rfl)
 have HLO:=Hi hlo
 have HHI:=Hi hhi
 obtain ⟨ms,hmse⟩:∃ ms,ms = remsV (rootV p):=⟨_,rfl⟩
 have HMS:=Hi hmse
 rw [← hmse] at hms HV1 HV2 HCN
 clear h hs ht hk hsq h0 za zb hlo hhi hx1 hx2 v1 v2 hml hmse hlen
 unfold Does
 go_enter Tryz.func37,Tryz.ntmps37
 go_upto_region 1 with fail
 refine nm_alloc ?_
 intro w1 hE hB0 hz
 have hz_w1:=nle hz
 have hr_w1:=nle hz.symm
 clear hz
 replace HX:=hE.tr HX
 replace LP:=Hi (LP.out.ext hE)
 replace HS:=Hi (HS.out.ext hE)
 replace HT:=Hi (HT.out.ext hE)
 have hs_w1:=hE.size
 clear hE
 have B3:=Hi hB0
 clear hB0
 obtain ⟨c_B3,f_B3,l_B3⟩:=blk3 B3.out
 go_wp2_with fail
 refine Calls.mono (schk_any pa P pc p _ (LP.out.can.raw HSz.out (by omega))) ?_
 rintro e w11 ⟨x11,rfl,hE,-⟩
 replace HX:=hE.tr HX
 replace LP:=Hi (LP.out.ext hE)
 replace HS:=Hi (HS.out.ext hE)
 replace HT:=Hi (HT.out.ext hE)
 replace B3:=hE.bl B3
 have hs_w11:=hE.size
 clear hE
 try clear c_B3 f_B3 l_B3
 obtain ⟨c_B3,f_B3,l_B3⟩:=blk3 B3.out
 rw [HCK.out]
 go_wp2_with fail
 refine Calls.mono (ivtrim_any ⟨sn,sa,sl,sc,sb,sm,sd⟩ ⟨tn,ta,tl,tc,tb,tm,td⟩ a b _ HS.out HT.out) ?_
 rintro e w16 ⟨x16,rfl,hE,g16⟩
 have G16:=Hi g16
 clear g16
 replace HX:=hE.tr HX
 replace LP:=Hi (LP.out.ext hE)
 replace HS:=Hi (HS.out.ext hE)
 replace HT:=Hi (HT.out.ext hE)
 replace B3:=hE.bl B3
 have hs_w16:=hE.size
 clear hE
 try clear c_B3 f_B3 l_B3
 obtain ⟨c_B3,f_B3,l_B3⟩:=blk3 B3.out
 obtain ⟨⟨ln,la,ll,lc,lb,lm,ld⟩,⟨hn,ha,hl,hc,hb,hm,hd⟩⟩:=x16
 rw [← HLO.out,← HHI.out] at G16
 have HL:=Hi G16.out.1
 have HH:=Hi G16.out.2
 clear G16
 clear HS
 clear HT
 go_upto_region 5 with fail
 refine nm_set6 B3.out rfl ?_
 intro w17 T
 replace HX:=Hi (T.ext HX.out (by omega))
 replace LP:=Hi (LP.out.put T (by omega))
 replace B3:=Hi (T.bx)
 replace HL:=Hi (HL.out.keep T.keep)
 replace HH:=Hi (HH.out.keep T.keep)
 have hs_w17:=nle T.size
 have hr_w17:=nle T.size.symm
 clear T
 try clear c_B3 f_B3 l_B3
 obtain ⟨c_B3,f_B3,l_B3⟩:=blk3 B3.out
 go_wp2_with fail
 refine Calls.mono (snew_any pa P pc p K _ LP.out.can (by omega) H0.out HKp.out hK hK2 HKs.out) ?_
 rintro e w18 ⟨x18,rfl,hE,g18⟩
 have G18:=Hi g18
 clear g18
 replace HX:=hE.tr HX
 replace LP:=Hi (LP.out.ext hE)
 replace B3:=hE.bl B3
 replace HL:=Hi (HL.out.ext hE)
 replace HH:=Hi (HH.out.ext hE)
 have hs_w18:=hE.size
 clear hE
 try clear c_B3 f_B3 l_B3
 obtain ⟨c_B3,f_B3,l_B3⟩:=blk3 B3.out
 rw [← HMS.out] at G18
 obtain ⟨va,vn,vc⟩:=x18
 simp only [CV,SH.v]
 go_upto_region 6 with fail
 refine nm_alloc ?_
 intro w19 hE hB0 hz
 have hz_w19:=nle hz
 have hr_w19:=nle hz.symm
 clear hz
 replace HX:=hE.tr HX
 replace LP:=Hi (LP.out.ext hE)
 replace B3:=hE.bl B3
 replace HL:=Hi (HL.out.ext hE)
 replace HH:=Hi (HH.out.ext hE)
 replace G18:=Hi (G18.out.ext hE)
 have hs_w19:=hE.size
 clear hE
 try clear c_B3 f_B3 l_B3
 obtain ⟨c_B3,f_B3,l_B3⟩:=blk3 B3.out
 have B7:=Hi hB0
 clear hB0
 obtain ⟨c_B7,f_B7,l_B7⟩:=blk3 B7.out
 go_upto_region 7 with fail
 refine wp_region_front 10 (fun opIx=>match opIx with
  | 3=>.spec Unit () (fun _=>.int .i64 (x1:Nat)) (fun _ _=>True)
  | 7=>.spec Unit () (fun _=>.int .i64 (x2:Nat)) (fun _ _=>True)
  | _=>.quiet) (fun _=>[]) (by kernel_rfl) (by kernel_rfl) (fun w0 he0 hz0 hc0 hf0=>?_)
 replace he0:=Hi he0
 simp only [pT]
 repeat (refine wpq fun K h=>?_; go_big_quiet_op; refine h _ ?_; clear h K)
 refine wps he0.out rfl rfl (fun w1 hW hG=>?_) fun x30=>?_
 ·exact (by rw [HV1.out]; exact spec_callf #[CV ⟨va,vn,vc⟩] [CV ⟨va,vn,vc⟩,RH.v ⟨ln,la,ll,lc,lb,lm,ld⟩] rfl rfl rfl Tryz.func109 (by kernel_rfl) (by kernel_rfl) (svar_any ⟨va,vn,vc⟩ ms K ⟨ln,la,ll,lc,lb,lm,ld⟩ lo T _ (G18.out.ext hW) (HL.out.ext hW) ZA.out hT hT3))
 simp only [pS]
 repeat (refine wpq fun K h=>?_; go_big_quiet_op; refine h _ ?_; clear h K)
 refine wps he0.out rfl rfl (fun w1 hW hG=>?_) fun x31=>?_
 ·exact (by rw [HV2.out]; exact spec_callf #[CV ⟨va,vn,vc⟩] [CV ⟨va,vn,vc⟩,RH.v ⟨hn,ha,hl,hc,hb,hm,hd⟩] rfl rfl rfl Tryz.func109 (by kernel_rfl) (by kernel_rfl) (svar_any ⟨va,vn,vc⟩ ms K ⟨hn,ha,hl,hc,hb,hm,hd⟩ hi T _ (G18.out.ext hW) (HH.out.ext hW) ZB.out hT hT3))
 simp only [pS]
 repeat (refine wpq fun K h=>?_; go_big_quiet_op; refine h _ ?_; clear h K)
 refine wpF_nil ?_
 intro w20 hI
 have hE:=he0.out.trans hI.ext
 clear hI he0 hz0 hc0 hf0
 replace HX:=hE.tr HX
 replace LP:=Hi (LP.out.ext hE)
 replace B3:=hE.bl B3
 replace HL:=Hi (HL.out.ext hE)
 replace HH:=Hi (HH.out.ext hE)
 replace G18:=Hi (G18.out.ext hE)
 replace B7:=hE.bl B7
 have hs_w20:=hE.size
 clear hE
 try clear c_B3 f_B3 l_B3
 obtain ⟨c_B3,f_B3,l_B3⟩:=blk3 B3.out
 try clear c_B7 f_B7 l_B7
 obtain ⟨c_B7,f_B7,l_B7⟩:=blk3 B7.out
 simp only [pD]
 go_wp2_with fail
 refine Calls.mono (srootat_any ⟨va,vn,vc⟩ ms K ⟨ln,la,ll,lc,lb,lm,ld⟩ lo T _ G18.out hms.out HL.out ZA.out hT hT3) ?_
 rintro e w33 ⟨x33,rfl,hE,-⟩
 replace HX:=hE.tr HX
 replace LP:=Hi (LP.out.ext hE)
 replace B3:=hE.bl B3
 replace HL:=Hi (HL.out.ext hE)
 replace HH:=Hi (HH.out.ext hE)
 replace G18:=Hi (G18.out.ext hE)
 replace B7:=hE.bl B7
 have hs_w33:=hE.size
 clear hE
 try clear c_B3 f_B3 l_B3
 obtain ⟨c_B3,f_B3,l_B3⟩:=blk3 B3.out
 try clear c_B7 f_B7 l_B7
 obtain ⟨c_B7,f_B7,l_B7⟩:=blk3 B7.out
 obtain ⟨r,hr⟩:∃ r,r = rtV ms lo:=⟨_,rfl⟩
 rw [← hr] at HCN ⊢
 clear hr
 cases r
 ·go_wp2
  exact bodyPost_ret (v:=.tuple #[.int .i64 (cntV p (loV a b) (hiV a b)),.int .i64 0]) (by rw [HCN.out]; simp [results,Tryz.results37,go_sem]) rfl ⟨(),rfl,HX.out,trivial⟩
 ·go_wp2
  exact bodyPost_ret (v:=.tuple #[.int .i64 (cntV p (loV a b) (hiV a b)),.int .i64 0]) (by rw [HCN.out]; simp [results,Tryz.results37,go_sem]) rfl ⟨(),rfl,HX.out,trivial⟩
end Go.Proofs.YtcbgamclcgcodaaGreat
