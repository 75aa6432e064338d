/- Py6, Py7, Py8 -/
import Derived.Test.YtpieblkklbilgaaGreatQPM25
import Derived.Test.YtpieblkklbilgaaGreatQPM22
import Derived.Test.YtpieblkklbilgaaGreatQPM27
set_option linter.unusedVariables false
set_option maxRecDepth 8000
set_option maxHeartbeats 8000000
namespace Go.Proofs.YtpieblkklbilgaaGreat
open Go.RowKit Go.Front Go.Num Stab
attribute [local go_sem] XW.cell XW.frozen
theorem pmonic_any (ao:Option Addr) (n cap:Nat) (l:List Rat) (S:Nat) (w:World) (h:CanL w ⟨ao,n,cap⟩ l) (hn:n≤1000000) (hS:S≤16777216) (hz:SzL S l) :
  Does 206 [.slice ao n cap] w SH.v (fun x w'=>CanL w' x (monV l)):=by
 have HX:=Hi (Ext.refl w)
 have LP:=Hi h.lin
 have hle:=h.le
 have hmx:=h.max
 have Hlen:=Hi h.len
 simp only at hle hmx Hlen
 have HSz:=Hi hz
 clear h hz
 unfold Does
 go_enter Tryz.func206,Tryz.ntmps206
 go_wp2_with fail
 refine Calls.mono (pcut_any ao n cap l _ (LP.out.can.raw HSz.out (by omega))) ?_
 rintro e w2 ⟨x2,rfl,hE,g2⟩
 have G2:=Hi g2
 clear g2
 replace HX:=hE.tr HX
 replace LP:=Hi (LP.out.ext hE)
 have hs_w2:=hE.size
 clear hE
 obtain ⟨q1,q2⟩:=G2.out
 obtain ⟨P,hP⟩:∃ P,P=(tz l).length:=⟨_,rfl⟩
 obtain ⟨p,hp⟩:∃ p,p=tz l:=⟨_,rfl⟩
 have LQ:Hid (LIn w2 ⟨ao,P,cap⟩ p 0 w.heap.size):=Hi (by rw [hp,q1,hP];exact LP.out.take q2)
 have HPl:Hid (p.length=P):=Hi (by rw [hp,hP])
 have HTZ:Hid (p=tz l):=Hi hp
 have HSp:Hid (SzL S p):=Hi (fun x hx=>HSz.out x (by rw [hp,q1] at hx;exact List.mem_of_mem_take hx))
 have hPn:P≤n:=by omega
 rw [← hP]
 clear hP hp q1 q2 G2 HSz Hlen
 clear LP
 by_cases h0:P=0
 case pos =>
  subst h0
  have HV:Hid (monV l=[]):=Hi (by unfold monV;rw [if_pos (by rw [← HTZ.out];exact List.length_eq_zero_iff.1 HPl.out)])
  go_wp2
  go_ret
  exact ⟨⟨none,0,0⟩,rfl,HX.out,by rw [HV.out];exact (NewL.nil 0 _).can⟩
 obtain ⟨m,rfl⟩:∃ m,P=m+1:=⟨P - 1,by omega⟩
 have hz0:((m:Int)+1 == 0)=false:=by rw [beq_eq_false_iff_ne];omega
 have Hne:Hid (tz l ≠ []):=Hi (by rw [← HTZ.out];intro h;have:=HPl.out;rw [h] at this;simp at this)
 have HL:Hid (lead (tz l)=p.getD m 0):=Hi (by unfold lead;rw [← HTZ.out,HPl.out];rfl)
 have HL0:Hid (p.getD m 0 ≠ 0):=Hi (by rw [← HL.out];exact lead_tz Hne.out)
 obtain ⟨b,off,r,hao,hbl,⟨hc1,hc2,hc3⟩,hPc⟩:=LQ.out.celx (k:=m) (by omega)
 obtain ⟨rneg,ra,rn,rc,rb,rm,rd⟩:=r
 simp only at hc1 hc2 hc3
 have HC:=Hi hPc
 clear hPc h0
 subst hao
 have Zc:Hid (Sz S (p.getD m 0)):=Hi (HSp.out.at (by rw [HPl.out];omega))
 go_upto_region 4 with fail
 refine wp_region_edges [(12,10)] _ (by simp only [addEs,addE,List.push_toArray,List.cons_append,List.nil_append];exact rfl) (by intro c a d v w h;cases d <;> exact h) 12 (fun opIx=>match opIx with
  | 0=>.spec RH default RH.v (fun s w'=>CanR w' s (((1:Int):Rat)))
  | 7=>.spec (RH) (default) (fun s=>.tuple #[s.v,.int .i64 0]) (fun x w'=>CanR w' x (((1:Int):Rat) / p.getD m 0))
  | 11=>.alloc 30 #[.bool false,.slice none 0 0,.slice none 0 0]
  | _=>.quiet) (fun | 7=>[0] | _=>[]) (by kernel_rfl) (by kernel_rfl) (by kernel_rfl) (fun w0 he0 hz0 hc0 hf0=>?_)
 replace he0:=Hi he0
 simp only [pT]
 repeat (refine wpq fun K h=>?_;go_big_quiet_op;refine h _ ?_;clear h K)
 refine wps he0.out rfl rfl (fun w1 hW hG=>?_) fun x20=>?_
 ·exact spc [.int .i64 1] Tryz.func128 (rof_any 1 _ (by decide) (by decide))
 simp only [pS]
 repeat (refine wpq fun K h=>?_;go_big_quiet_op;refine h _ ?_;clear h K)
 refine wps he0.out rfl rfl (fun w1 hW hG=>?_) fun x21=>?_
 ·have g20:=(hG 0 (by decide):Since _ _).get fun _ e g=>g.ext e
  exact spc [x20.v,RH.v ⟨rneg,ra,rn,rc,rb,rm,rd⟩] Tryz.func166 (rdiv_any x20 _ _ _ _ (g20.raw (Sz.int (by decide)) (by decide)) ((HC.out.ext hW).raw Zc.out (by omega)) HL0.out)
 simp only [pS]
 repeat (refine wpq fun K h=>?_;go_big_quiet_op;refine h _ ?_;clear h K)
 refine wpF_alloc rfl rfl (fun w=>by simp [execOp,go_sem,ptr]) (fun b4 hb4 hl4=>?_)
 simp only [pS]
 repeat (refine wpq fun K h=>?_;go_big_quiet_op;refine h _ ?_;clear h K)
 refine wpF_nil ?_
 intro w4 hI
 have hE:=he0.out.trans hI.ext
 have G20:=Hi ((hI.facts 0:Since _ _).get fun _ e g=>g.ext e)
 have G21:=Hi ((hI.facts 7:Since _ _).get fun _ e g=>g.ext e)
 have A4:Hid (w4.heap[b4]?=some (.cells #[.bool false,.slice none 0 0,.slice none 0 0] 30 (0,0))):=hI.facts 11
 rw [hz0] at hl4
 clear hI he0 hz0 hc0 hf0
 replace HX:=hE.tr HX
 replace LQ:=Hi (LQ.out.ext hE)
 have hs_w4:=hE.size
 clear hE
 obtain ⟨c_A4,f_A4,l_A4⟩:=blk3 A4.out
 simp only [pD,ptr]
 clear hc1 hc2 hc3 hbl
 have ZI:Hid (Sz (1+S) (((1:Int):Rat) / p.getD m 0)):=Hi ((Sz.int (by decide)).div Zc.out)
 have HZ8:Hid (SzL 33554432 p):=Hi (fun x hx=>(HSp.out x hx).mono (by omega))
 go_upto_region 5 with fail
 refine nm_set3 A4.out rfl ?_
 intro w5 T
 replace HX:=Hi (T.ext HX.out (by omega))
 replace LQ:=Hi (LQ.out.put T (by omega))
 replace G20:=Hi (G20.out.keep T.keep)
 replace A4:=Hi (T.bx)
 replace G21:=Hi (G21.out.keep T.keep)
 have hs_w5:=nle T.size
 have hr_w5:=nle T.size.symm
 clear T
 try clear c_A4 f_A4 l_A4
 obtain ⟨c_A4,f_A4,l_A4⟩:=blk3 A4.out
 go_wp2_with fail
 refine Calls.mono (pscale_any (some ⟨b,off,none⟩) (m+1) cap p x21 (((1:Int):Rat) / p.getD m 0) _ (LQ.out.can.raw HSp.out (by omega)) (G21.out.raw ZI.out (by omega)) (by omega) HZ8.out (ZI.out.mono (by omega))) ?_
 rintro e w6 ⟨x6,rfl,hE,g6⟩
 have G6:=Hi g6
 clear g6
 replace HX:=hE.tr HX
 replace LQ:=Hi (LQ.out.ext hE)
 replace G20:=Hi (G20.out.ext hE)
 replace A4:=hE.bl A4
 replace G21:=Hi (G21.out.ext hE)
 have hs_w6:=hE.size
 clear hE
 try clear c_A4 f_A4 l_A4
 obtain ⟨c_A4,f_A4,l_A4⟩:=blk3 A4.out
 go_wp2
 go_ret
 exact ⟨x6,rfl,HX.out,by show CanL w6 x6 (monV l);unfold monV;rw [if_neg Hne.out,HL.out,← HTZ.out];exact G6.out.can⟩
abbrev QT (x:SH × SH):Value:=.tuple #[x.1.v,x.2.v,.int .i64 0]
theorem mem_tz {p:List Rat} {x:Rat} (h:x ∈ tz p):x ∈ p:=by
 rw [tz_prefix p] at h
 exact List.mem_of_mem_take h
theorem pdivmod_any (pa qa:Option Addr) (P pc Q qc:Nat) (p q:List Rat) (S U D E:Nat) (w:World) (hp:CanL w ⟨pa,P,pc⟩ p) (hq:CanL w ⟨qa,Q,qc⟩ q) (hP:P≤100000) (hQ:Q≤100000)
  (hS:1≤S) (hU:1≤U) (hD:0 < D) (hD2:D < W32 ^ S) (hE:0 < E) (hE2:E < W32 ^ U) (hpf:∀ x ∈ p,Fr S D x) (hqf:∀ x ∈ q,Fr U E x) (hq0:tz q ≠ []) (hsz:S+P * (U+1)≤25000000) (hSU:S+U≤8000000) :
  Does 139 [.slice pa P pc,.slice qa Q qc] w QT (fun x w'=>CanL w' x.1 (quoV p q)∧CanL w' x.2 (remV p q)):=by
 have HX:=Hi (Ext.refl w)
 have LP:=Hi hp.lin
 have LQ:=Hi hq.lin
 have HPF:=Hi hpf
 have HQF:=Hi hqf
 have HQ0:=Hi hq0
 have HPl:Hid (p.length=P):=Hi hp.len
 have HQl:Hid (q.length=Q):=Hi hq.len
 clear hp hq hpf hqf hq0
 unfold Does
 go_enter Tryz.func139,Tryz.ntmps139
 go_wp2_with fail
 refine Calls.mono (psplit_any pa P pc p S D _ LP.out.can (by omega) hS (by omega) hD hD2 HPF.out) ?_
 rintro e w1 ⟨x1,rfl,hE,g1⟩
 have G1:=Hi g1
 clear g1
 replace HX:=hE.tr HX
 replace LP:=Hi (LP.out.ext hE)
 replace LQ:=Hi (LQ.out.ext hE)
 have hs_w1:=hE.size
 clear hE
 obtain ⟨xs,xa⟩:=x1
 have HXS:=Hi G1.out.1
 have HXA:=Hi G1.out.2
 clear G1
 simp only [MT] at *
 go_upto_region 2 with fail
 refine nm_alloc ?_
 intro w2 hE hB0 hz
 have hz_w2:=nle hz
 have hr_w2:=nle hz.symm
 clear hz
 replace HX:=hE.tr HX
 replace LP:=Hi (LP.out.ext hE)
 replace LQ:=Hi (LQ.out.ext hE)
 replace HXS:=Hi (HXS.out.ext hE)
 replace HXA:=Hi (HXA.out.ext hE)
 have hs_w2:=hE.size
 clear hE
 have B7:=Hi hB0
 clear hB0
 obtain ⟨c_B7,f_B7,l_B7⟩:=blk3 B7.out
 go_wp2_with fail
 refine Calls.mono (psplit_any qa Q qc q U E _ LQ.out.can (by omega) hU (by omega) hE hE2 HQF.out) ?_
 rintro e w3 ⟨x3,rfl,hE,g3⟩
 have G3:=Hi g3
 clear g3
 replace HX:=hE.tr HX
 replace LP:=Hi (LP.out.ext hE)
 replace LQ:=Hi (LQ.out.ext hE)
 replace HXS:=Hi (HXS.out.ext hE)
 replace HXA:=Hi (HXA.out.ext hE)
 replace B7:=hE.bl B7
 have hs_w3:=hE.size
 clear hE
 try clear c_B7 f_B7 l_B7
 obtain ⟨c_B7,f_B7,l_B7⟩:=blk3 B7.out
 obtain ⟨ys,ya⟩:=x3
 have HYS:=Hi G3.out.1
 have HYA:=Hi G3.out.2
 clear G3
 simp only [MT] at *
 clear LP
 clear LQ
 go_upto_region 3 with fail
 refine nm_alloc ?_
 intro w4 hE hB0 hz
 have hz_w4:=nle hz
 have hr_w4:=nle hz.symm
 clear hz
 replace HX:=hE.tr HX
 replace HXS:=Hi (HXS.out.ext hE)
 replace HXA:=Hi (HXA.out.ext hE)
 replace B7:=hE.bl B7
 replace HYS:=Hi (HYS.out.ext hE)
 replace HYA:=Hi (HYA.out.ext hE)
 have hs_w4:=hE.size
 clear hE
 try clear c_B7 f_B7 l_B7
 obtain ⟨c_B7,f_B7,l_B7⟩:=blk3 B7.out
 have B9:=Hi hB0
 clear hB0
 obtain ⟨c_B9,f_B9,l_B9⟩:=blk3 B9.out
 obtain ⟨La,hLa,rfl,hra⟩:=HXA.out
 obtain ⟨Lb,hLb,rfl,hrb⟩:=HYA.out
 have HA:=Hi hra
 have HB:=Hi hrb
 obtain ⟨N,hN⟩:∃ N,N=(splL p).length:=⟨_,rfl⟩
 obtain ⟨m,hm⟩:∃ m,(splL q).length=m+1:=⟨(tz q).length - 1,by rw [spl_len];have:=List.length_pos_iff.2 HQ0.out;omega⟩
 have hNP:N≤P:=by rw [hN,spl_len,← HPl.out];exact tz_len_le p
 have hmQ:m+1≤Q:=by rw [← hm,spl_len,← HQl.out];exact tz_len_le q
 have HN:=Hi hN
 have HM:=Hi hm
 rw [← hN,hm]
 clear hra hrb hN hm hLa hLb
 clear HXA
 clear HYA
 have hz0:((m:Int)+1 == 0)=false:=by rw [beq_eq_false_iff_ne];omega
 have hmul:(N - m) * (U+1)≤P * (U+1):=Nat.mul_le_mul_right _ (by omega)
 go_wp2_with fail
 refine Calls.mono (pdivide_any (some ⟨La,0,none⟩) (some ⟨Lb,0,none⟩) N N m (m+1) (splL p) (splL q) S U _ (HA.out.can HN.out.symm (Nat.le_refl _) (by omega)) (HB.out.can HM.out (Nat.le_refl _) (by omega)) (spl_wz (fun x hx=>HPF.out x (mem_tz hx)) hD) (spl_wz (fun x hx=>HQF.out x (mem_tz hx)) hE) hS hU (spl_tz p) (spl_tz q) (by omega) (by omega) (by omega) (by omega)) ?_
 rintro e w5 ⟨x5,rfl,hE,g5⟩
 have G5:=Hi g5
 clear g5
 replace HX:=hE.tr HX
 replace HXS:=Hi (HXS.out.ext hE)
 replace B7:=hE.bl B7
 replace HYS:=Hi (HYS.out.ext hE)
 replace B9:=hE.bl B9
 replace HA:=Hi (HA.out.ext hE)
 replace HB:=Hi (HB.out.ext hE)
 have hs_w5:=hE.size
 clear hE
 try clear c_B7 f_B7 l_B7
 obtain ⟨c_B7,f_B7,l_B7⟩:=blk3 B7.out
 try clear c_B9 f_B9 l_B9
 obtain ⟨c_B9,f_B9,l_B9⟩:=blk3 B9.out
 obtain ⟨ss,rr,ff⟩:=x5
 obtain ⟨s,r,f,hdv,h1,h2,h3⟩:=G5.out
 have HDv:=Hi hdv
 have HS1:=Hi h1.lin
 have HR1:=Hi h2.lin
 have HF1:=Hi h3
 have hw5:w5.heap.size=w5.heap.size:=rfl
 clear h1 h2 h3 G5 hdv hw5
 simp only [DT] at *
 clear HA
 clear HB
 go_upto_region 6 with fail
 refine nm_alloc ?_
 intro w6 hE hB0 hz
 have hz_w6:=nle hz
 have hr_w6:=nle hz.symm
 clear hz
 replace HX:=hE.tr HX
 replace HXS:=Hi (HXS.out.ext hE)
 replace B7:=hE.bl B7
 replace HYS:=Hi (HYS.out.ext hE)
 replace B9:=hE.bl B9
 replace HS1:=Hi (HS1.out.ext hE)
 replace HR1:=Hi (HR1.out.ext hE)
 replace HF1:=Hi (HF1.out.ext hE)
 have hs_w6:=hE.size
 clear hE
 try clear c_B7 f_B7 l_B7
 obtain ⟨c_B7,f_B7,l_B7⟩:=blk3 B7.out
 try clear c_B9 f_B9 l_B9
 obtain ⟨c_B9,f_B9,l_B9⟩:=blk3 B9.out
 have B13:=Hi hB0
 clear hB0
 obtain ⟨c_B13,f_B13,l_B13⟩:=blk3 B13.out
 have ZS:Hid (Sz S (splM p)):=Hi ((meas_fr (fun x hx=>HPF.out x (mem_tz hx))).sz hS hD hD2)
 have ZU:Hid (Sz U (splM q)):=Hi ((meas_fr (fun x hx=>HQF.out x (mem_tz hx))).sz hU hE hE2)
 obtain ⟨d0,d1,d2,d3,d4,d5,d6,d7⟩:=HDv.out
 have hbb:(N - m) * (U+1)=((splL p).length+1 - (splL q).length) * (U+1):=by rw [← HN.out,HM.out,show N+1 - (m+1)=N - m by omega]
 have hbb2:((splL p).length+1 - (splL q).length) * U≤((splL p).length+1 - (splL q).length) * (U+1):=Nat.mul_le_mul_left _ (by omega)
 have ZF:Hid (Sz 25000001 f):=Hi ((d1.mono (by omega)).sz (by omega))
 have ZSS:Hid (SzL 25000000 s):=Hi (fun x hx=>((d2 x hx).mono (by omega)).sz (by omega))
 have ZRR:Hid (SzL 25000000 r):=Hi (fun x hx=>((d3 x hx).mono (by omega)).sz (by omega))
 have HF0:=Hi d0
 have HPL:Hid (tz (s.map (· * (splM p / f / splM q)))=quoV p q∧tz (r.map (· * (splM p / f)))=remV p q):=Hi (dm_plain HQ0.out d0 d5 d7)
 have hsn:ss.n≤1000000:=by have:=HS1.out.len;have h8:=HN.out;omega
 have hrn:rr.n≤1000000:=by have:=HR1.out.len;rw [HM.out] at d5;omega
 clear d0 d1 d2 d3 d4 d5 d6 d7 hbb hbb2 HDv
 go_wp2_with fail
 refine Calls.mono (rdiv_any xs ff (splM p) f _ (HXS.out.raw ZS.out (by omega)) (HF1.out.raw ZF.out (by omega)) HF0.out) ?_
 rintro e w7 ⟨x7,rfl,hE,g7⟩
 have G7:=Hi g7
 clear g7
 replace HX:=hE.tr HX
 replace HXS:=Hi (HXS.out.ext hE)
 replace B7:=hE.bl B7
 replace HYS:=Hi (HYS.out.ext hE)
 replace B9:=hE.bl B9
 replace HS1:=Hi (HS1.out.ext hE)
 replace HR1:=Hi (HR1.out.ext hE)
 replace HF1:=Hi (HF1.out.ext hE)
 replace B13:=hE.bl B13
 have hs_w7:=hE.size
 clear hE
 try clear c_B7 f_B7 l_B7
 obtain ⟨c_B7,f_B7,l_B7⟩:=blk3 B7.out
 try clear c_B9 f_B9 l_B9
 obtain ⟨c_B9,f_B9,l_B9⟩:=blk3 B9.out
 try clear c_B13 f_B13 l_B13
 obtain ⟨c_B13,f_B13,l_B13⟩:=blk3 B13.out
 go_upto_region 7 with fail
 refine nm_alloc ?_
 intro w8 hE hB0 hz
 have hz_w8:=nle hz
 have hr_w8:=nle hz.symm
 clear hz
 replace HX:=hE.tr HX
 replace HXS:=Hi (HXS.out.ext hE)
 replace B7:=hE.bl B7
 replace HYS:=Hi (HYS.out.ext hE)
 replace B9:=hE.bl B9
 replace HS1:=Hi (HS1.out.ext hE)
 replace HR1:=Hi (HR1.out.ext hE)
 replace HF1:=Hi (HF1.out.ext hE)
 replace B13:=hE.bl B13
 replace G7:=Hi (G7.out.ext hE)
 have hs_w8:=hE.size
 clear hE
 try clear c_B7 f_B7 l_B7
 obtain ⟨c_B7,f_B7,l_B7⟩:=blk3 B7.out
 try clear c_B9 f_B9 l_B9
 obtain ⟨c_B9,f_B9,l_B9⟩:=blk3 B9.out
 try clear c_B13 f_B13 l_B13
 obtain ⟨c_B13,f_B13,l_B13⟩:=blk3 B13.out
 have B14:=Hi hB0
 clear hB0
 obtain ⟨c_B14,f_B14,l_B14⟩:=blk3 B14.out
 have Z7:Hid (Sz (S+25000001) (splM p / f)):=Hi (ZS.out.div ZF.out)
 go_wp2_with fail
 refine Calls.mono (rdiv_any x7 ys (splM p / f) (splM q) _ (G7.out.raw Z7.out (by omega)) (HYS.out.raw ZU.out (by omega)) (splM_ne HQ0.out)) ?_
 rintro e w9 ⟨x9,rfl,hE,g9⟩
 have G9:=Hi g9
 clear g9
 replace HX:=hE.tr HX
 replace HXS:=Hi (HXS.out.ext hE)
 replace B7:=hE.bl B7
 replace HYS:=Hi (HYS.out.ext hE)
 replace B9:=hE.bl B9
 replace HS1:=Hi (HS1.out.ext hE)
 replace HR1:=Hi (HR1.out.ext hE)
 replace HF1:=Hi (HF1.out.ext hE)
 replace B13:=hE.bl B13
 replace G7:=Hi (G7.out.ext hE)
 replace B14:=hE.bl B14
 have hs_w9:=hE.size
 clear hE
 try clear c_B7 f_B7 l_B7
 obtain ⟨c_B7,f_B7,l_B7⟩:=blk3 B7.out
 try clear c_B9 f_B9 l_B9
 obtain ⟨c_B9,f_B9,l_B9⟩:=blk3 B9.out
 try clear c_B13 f_B13 l_B13
 obtain ⟨c_B13,f_B13,l_B13⟩:=blk3 B13.out
 try clear c_B14 f_B14 l_B14
 obtain ⟨c_B14,f_B14,l_B14⟩:=blk3 B14.out
 go_upto_region 8 with fail
 refine nm_alloc ?_
 intro w10 hE hB0 hz
 have hz_w10:=nle hz
 have hr_w10:=nle hz.symm
 clear hz
 replace HX:=hE.tr HX
 replace HXS:=Hi (HXS.out.ext hE)
 replace B7:=hE.bl B7
 replace HYS:=Hi (HYS.out.ext hE)
 replace B9:=hE.bl B9
 replace HS1:=Hi (HS1.out.ext hE)
 replace HR1:=Hi (HR1.out.ext hE)
 replace HF1:=Hi (HF1.out.ext hE)
 replace B13:=hE.bl B13
 replace G7:=Hi (G7.out.ext hE)
 replace B14:=hE.bl B14
 replace G9:=Hi (G9.out.ext hE)
 have hs_w10:=hE.size
 clear hE
 try clear c_B7 f_B7 l_B7
 obtain ⟨c_B7,f_B7,l_B7⟩:=blk3 B7.out
 try clear c_B9 f_B9 l_B9
 obtain ⟨c_B9,f_B9,l_B9⟩:=blk3 B9.out
 try clear c_B13 f_B13 l_B13
 obtain ⟨c_B13,f_B13,l_B13⟩:=blk3 B13.out
 try clear c_B14 f_B14 l_B14
 obtain ⟨c_B14,f_B14,l_B14⟩:=blk3 B14.out
 have B16:=Hi hB0
 clear hB0
 obtain ⟨c_B16,f_B16,l_B16⟩:=blk3 B16.out
 have Z9:Hid (Sz (S+25000001+U) (splM p / f / splM q)):=Hi (Z7.out.div ZU.out)
 obtain ⟨sa,sn,sc⟩:=ss
 obtain ⟨ra,rn,rc⟩:=rr
 simp only at hsn hrn
 simp only [SH.v]
 refine wp_region_front 6 (fun opIx=>match opIx with
  | 2=>.spec (SH) (default) (SH.v) (fun x w'=>CanL w' x (tz (s.map (· * (splM p / f / splM q)))))
  | 5=>.spec (SH) (default) (SH.v) (fun x w'=>CanL w' x (tz (r.map (· * (splM p / f)))))
  | _=>.quiet) (fun _=>[]) (by kernel_rfl) (by kernel_rfl) (fun w0 he0 hz0 hc0 hf0=>?_)
 replace he0:=Hi he0
 simp only [pT]
 repeat (refine wpq fun K h=>?_;go_big_quiet_op;refine h _ ?_;clear h K)
 refine wps he0.out rfl rfl (fun w1 hW hG=>?_) fun x20=>?_
 ·exact spc [.slice sa sn sc,x9.v] Tryz.func142 ((pscale_any sa sn sc s x9 _ _ ((HS1.out.ext hW).can.raw ZSS.out (by decide)) ((G9.out.ext hW).raw Z9.out (by omega)) (by omega) (ZSS.out.mono (by decide)) (Z9.out.mono (by omega))).weak (fun _ _ _ h=>h.can))
 simp only [pS]
 repeat (refine wpq fun K h=>?_;go_big_quiet_op;refine h _ ?_;clear h K)
 refine wps he0.out rfl rfl (fun w1 hW hG=>?_) fun x21=>?_
 ·exact spc [.slice ra rn rc,x7.v] Tryz.func142 ((pscale_any ra rn rc r x7 _ _ ((HR1.out.ext hW).can.raw ZRR.out (by decide)) ((G7.out.ext hW).raw Z7.out (by omega)) (by omega) (ZRR.out.mono (by decide)) (Z7.out.mono (by omega))).weak (fun _ _ _ h=>h.can))
 simp only [pS]
 repeat (refine wpq fun K h=>?_;go_big_quiet_op;refine h _ ?_;clear h K)
 refine wpF_nil ?_
 intro w11 hI
 have hE:=he0.out.trans hI.ext
 have G20:=Hi ((hI.facts 2:Since _ _).get fun _ e g=>g.ext e)
 have G21:=Hi ((hI.facts 5:Since _ _).get fun _ e g=>g.ext e)
 clear hI he0 hz0 hc0 hf0
 replace HX:=hE.tr HX
 replace HXS:=Hi (HXS.out.ext hE)
 replace B7:=hE.bl B7
 replace HYS:=Hi (HYS.out.ext hE)
 replace B9:=hE.bl B9
 replace HS1:=Hi (HS1.out.ext hE)
 replace HR1:=Hi (HR1.out.ext hE)
 replace HF1:=Hi (HF1.out.ext hE)
 replace B13:=hE.bl B13
 replace G7:=Hi (G7.out.ext hE)
 replace B14:=hE.bl B14
 replace G9:=Hi (G9.out.ext hE)
 replace B16:=hE.bl B16
 have hs_w11:=hE.size
 clear hE
 try clear c_B7 f_B7 l_B7
 obtain ⟨c_B7,f_B7,l_B7⟩:=blk3 B7.out
 try clear c_B9 f_B9 l_B9
 obtain ⟨c_B9,f_B9,l_B9⟩:=blk3 B9.out
 try clear c_B13 f_B13 l_B13
 obtain ⟨c_B13,f_B13,l_B13⟩:=blk3 B13.out
 try clear c_B14 f_B14 l_B14
 obtain ⟨c_B14,f_B14,l_B14⟩:=blk3 B14.out
 try clear c_B16 f_B16 l_B16
 obtain ⟨c_B16,f_B16,l_B16⟩:=blk3 B16.out
 simp only [pD]
 go_wp2
 exact bodyPost_ret (v:=QT (x20,x21)) (by simp [results,Tryz.results139,go_sem,QT]) rfl ⟨(x20,x21),rfl,HX.out,by rw [← HPL.out.1];exact G20.out,by rw [← HPL.out.2];exact G21.out⟩
theorem three_e (d:Nat) (hd:1≤d):2+d≤3 ^ d:=by
 induction d with
 | zero=>omega
 | succ d ih =>
  rcases Nat.eq_zero_or_pos d with h | h
  ·subst h;decide
  ·have:=ih h
   rw [Nat.pow_succ];omega
theorem gcd_pot (la lb:Nat):(1+(la+1 - lb)) * 3 ^ lb≤3 ^ max la (lb+1):=by
 rcases Nat.lt_or_ge lb la with h | h
 ·obtain ⟨d,rfl⟩:∃ d,la=lb+d:=⟨la - lb,by omega⟩
  rw [show max (lb+d) (lb+1)=lb+d by omega,Nat.pow_add,Nat.mul_comm]
  exact Nat.mul_le_mul_left _ (by have:=three_e d (by omega);omega)
 ·rw [show max la (lb+1)=lb+1 by omega,Nat.pow_succ,Nat.mul_comm]
  exact Nat.mul_le_mul_left _ (by omega)
theorem gcd_size {X la lb lr L:Nat} (h:(X+1) * 3 ^ max la (lb+1)≤L) (hr:lr+1≤lb):(X+(la+1 - lb) * (X+1)+1) * 3 ^ max lb (lr+1)≤L:=by
 have h1:X+(la+1 - lb) * (X+1)+1=(X+1) * (1+(la+1 - lb)):=by rw [Nat.mul_add (X+1) 1,Nat.mul_comm (X+1) (la+1 - lb)];omega
 rw [h1,Nat.mul_assoc,show max lb (lr+1)=lb by omega]
 exact Nat.le_trans (Nat.mul_le_mul_left _ (gcd_pot la lb)) h
theorem gcd_size2 {X la lb L:Nat} (h:(X+1) * 3 ^ max la (lb+1)≤L) (hb:0 < lb):X+(la+1 - lb) * (X+1)≤L:=by
 have h1:=gcd_size (lr:=lb - 1) h (by omega)
 have h2:1≤3 ^ max lb (lb - 1+1):=Nat.pow_pos (by decide)
 have:=Nat.le_mul_of_pos_right (X+(la+1 - lb) * (X+1)+1) h2
 omega
def GcI (K:Nat) (p q a b:List Rat) (X:Nat):Prop:=tz a=a∧tz b=b∧(∀ x ∈ a,Wz X x)∧(∀ x ∈ b,Wz X x)∧1≤X∧(X+1) * 3 ^ max a.length (b.length+1)≤K∧gcdI b.length (monV a) (monV b)=gcdV p q∧a.length≤100000∧b.length≤100000
theorem GcI.small {K:Nat} {p q a b:List Rat} {X:Nat} (h:GcI K p q a b X):X+1≤K:=by
 have h1:=h.2.2.2.2.2.1
 have:X+1≤(X+1) * 3 ^ max a.length (b.length+1):=Nat.le_mul_of_pos_right _ (Nat.pow_pos (by decide))
 omega
theorem GcI.next {K:Nat} {p q a b s r:List Rat} {f:Rat} {X:Nat} (h:GcI K p q a b X) (hb:b ≠ []) (hd:DvP a b X X s r f):GcI K p q b (splL r) (X+(a.length+1 - b.length) * (X+1)):=by
 obtain ⟨h1,h2,h3,h4,h5,h6,h7,h8,h9⟩:=h
 obtain ⟨d0,d1,d2,d3,d4,d5,d6,d7⟩:=hd
 have hl:(splL r).length=r.length:=by rw [spl_len,d4]
 refine ⟨h2,spl_tz r,fun x hx=>(h4 x hx).mono (by omega),?_,by omega,?_,?_,h9,by omega⟩
 ·refine spl_wz (D:=1) (fun x hx=>?_) (by decide)
  have hw:=d3 x (by rw [d4] at hx;exact hx)
  exact Fr.one hw
 ·rw [hl]
  exact gcd_size h6 (by omega)
 ·rw [← gcd_round h2 hb d0 d5 d7,h7]
def GcR (K:Nat) (g:List Rat):Prop:=∃ X D,FrL X D g∧1≤X∧0 < D∧D < W32 ^ X∧(X+1) * 3 ^ max g.length 1≤K
theorem GcI.done {K:Nat} {p q a b:List Rat} {X:Nat} (h:GcI K p q a b X) (hb:b=[]):GcR K (gcdV p q):=by
 obtain ⟨h1,h2,h3,h4,h5,h6,h7,h8,h9⟩:=h
 subst hb
 have e:gcdV p q=monV a:=h7.symm
 have hf:FrL X 1 a:=fun x hx=>Fr.one (h3 x hx)
 rw [e]
 by_cases ha:tz a=[]
 ·have:monV a=[]:=by unfold monV;rw [if_pos ha]
  rw [this]
  refine ⟨X,1,fun x hx=>by simp at hx,h5,by decide,Nat.one_lt_pow (by omega) (by decide),Nat.le_trans (Nat.mul_le_mul_left _ (Nat.pow_le_pow_right (by decide) ?_)) h6⟩
  simp only [List.length_nil]
  omega
 ·refine ⟨X,ldD (tz a) 1,monV_fr hf,h5,ldD_pos hf.tz (lead_tz ha) (by decide),ldD_lt hf.tz,Nat.le_trans (Nat.mul_le_mul_left _ (Nat.pow_le_pow_right (by decide) ?_)) h6⟩
  rw [monV_len,h1]
  simp only [List.length_nil]
  omega
theorem pgcd_any (pa qa:Option Addr) (P pc Q qc:Nat) (p q:List Rat) (S D E:Nat) (w:World) (hp:CanL w ⟨pa,P,pc⟩ p) (hq:CanL w ⟨qa,Q,qc⟩ q) (hP:P≤100000) (hQ:Q≤100000)
  (hS:1≤S) (hD:0 < D) (hD2:D < W32 ^ S) (hE:0 < E) (hE2:E < W32 ^ S) (hpf:∀ x ∈ p,Fr S D x) (hqf:∀ x ∈ q,Fr S E x) (K:Nat) (hsz:(S+1) * 3 ^ max P (Q+1)≤K) (hK:K≤16777216) :
  Does 138 [.slice pa P pc,.slice qa Q qc] w SH.v (fun x w'=>CanL w' x (gcdV p q)∧GcR K (gcdV p q)):=by
 have HX:=Hi (Ext.refl w)
 have LP:=Hi hp.lin
 have LQ:=Hi hq.lin
 have HPF:=Hi hpf
 have HQF:=Hi hqf
 have hSs:S+1≤16777216:=by
  have:S+1≤(S+1) * 3 ^ max P (Q+1):=Nat.le_mul_of_pos_right _ (Nat.pow_pos (by decide))
  omega
 have hlp:(splL p).length≤P:=by have:=hp.len;have h2:=tz_len_le p;rw [spl_len];simp only at this;omega
 have hlq:(splL q).length≤Q:=by have:=hq.len;have h2:=tz_len_le q;rw [spl_len];simp only at this;omega
 have HG:Hid (GcI K p q (splL p) (splL q) S):=Hi ⟨spl_tz p,spl_tz q,spl_wz (fun x hx=>hpf x (mem_tz hx)) hD,spl_wz (fun x hx=>hqf x (mem_tz hx)) hE,hS,
  Nat.le_trans (Nat.mul_le_mul_left _ (Nat.pow_le_pow_right (by decide) (by omega))) hsz,gcd_first p q,by omega,by omega⟩
 clear hp hq hpf hqf hsz
 unfold Does
 go_enter Tryz.func138,Tryz.ntmps138
 go_wp2_with fail
 refine Calls.mono (psplit_any pa P pc p S D _ LP.out.can (by omega) hS (by omega) hD hD2 HPF.out) ?_
 rintro e w1 ⟨x1,rfl,hE,g1⟩
 have G1:=Hi g1
 clear g1
 replace HX:=hE.tr HX
 replace LP:=Hi (LP.out.ext hE)
 replace LQ:=Hi (LQ.out.ext hE)
 have hs_w1:=hE.size
 clear hE
 obtain ⟨xs,xa⟩:=x1
 have HXA:=Hi G1.out.2
 clear G1
 simp only [MT] at *
 go_upto_region 2 with fail
 refine nm_alloc ?_
 intro w2 hE hB0 hz
 have hz_w2:=nle hz
 have hr_w2:=nle hz.symm
 clear hz
 replace HX:=hE.tr HX
 replace LP:=Hi (LP.out.ext hE)
 replace LQ:=Hi (LQ.out.ext hE)
 replace HXA:=Hi (HXA.out.ext hE)
 have hs_w2:=hE.size
 clear hE
 have B7:=Hi hB0
 clear hB0
 obtain ⟨c_B7,f_B7,l_B7⟩:=blk3 B7.out
 go_wp2_with fail
 refine Calls.mono (psplit_any qa Q qc q S E _ LQ.out.can (by omega) hS (by omega) hE hE2 HQF.out) ?_
 rintro e w3 ⟨x3,rfl,hE,g3⟩
 have G3:=Hi g3
 clear g3
 replace HX:=hE.tr HX
 replace LP:=Hi (LP.out.ext hE)
 replace LQ:=Hi (LQ.out.ext hE)
 replace HXA:=Hi (HXA.out.ext hE)
 replace B7:=hE.bl B7
 have hs_w3:=hE.size
 clear hE
 try clear c_B7 f_B7 l_B7
 obtain ⟨c_B7,f_B7,l_B7⟩:=blk3 B7.out
 obtain ⟨ys,ya⟩:=x3
 have HYA:=Hi G3.out.2
 clear G3
 simp only [MT] at *
 clear LP
 clear LQ
 (try clear c_B7 f_B7 l_B7);clear B7
 go_wp2
 refine nm_alloc ?_
 intro w4 hE hB0 hz
 have hz_w4:=nle hz
 have hr_w4:=nle hz.symm
 clear hz
 replace HX:=hE.tr HX
 replace HXA:=Hi (HXA.out.ext hE)
 replace HYA:=Hi (HYA.out.ext hE)
 have hs_w4:=hE.size
 clear hE
 have B9:=Hi hB0
 clear hB0
 obtain ⟨c_B9,f_B9,l_B9⟩:=blk3 B9.out
 obtain ⟨La,hLa,rfl,hra⟩:=HXA.out
 obtain ⟨Lb,hLb,rfl,hrb⟩:=HYA.out
 have HA:=Hi (hra.can rfl (Nat.le_refl _) (by omega))
 have HB:=Hi (hrb.can rfl (Nat.le_refl _) (by omega))
 clear hra hrb hLa hLb HXA HYA B9 c_B9 f_B9 l_B9
 go_loopg [6,8] (splL q).length (fun g u v wr=>∃ (x y:SH) (a b:List Rat) (X:Nat),u=x.v∧v=y.v∧b.length≤g∧Ext w wr∧CanL wr x a∧CanL wr y b∧GcI K p q a b X)
 case atStart=>exact ⟨_,_,_,_,S,rfl,rfl,Nat.le_refl _,HX.out,HA.out,HB.out,HG.out⟩
 case round =>
  obtain ⟨⟨xa,xn,xc⟩,⟨ya,yn,yc⟩,a,b,X,rfl,rfl,hg,g1,g2,g3,g4⟩:=hrel
  clear HX HA HB HG
  have HX:=Hi g1
  have LA:=Hi g2.lin
  have LB:=Hi g3.lin
  have HG:=Hi g4
  have hxl:=g2.len
  have hyl:=g3.len
  simp only at hxl hyl
  clear g1 g2 g3 g4
  simp only [SH.v]
  by_cases h0:yn=0
  case pos =>
   subst h0
   have hb:b=[]:=List.length_eq_zero_iff.1 hyl
   have HV:Hid (gcdV p q=monV a):=Hi (by have:=HG.out.2.2.2.2.2.2.1;rw [hb] at this;exact this.symm)
   have HZ:Hid (SzL X a):=Hi (fun x hx=>(HG.out.2.2.1 x hx).sz HG.out.2.2.2.2.1)
   have hXs:=HG.out.small
   have han:=HG.out.2.2.2.2.2.2.2.1
   go_wp2_with fail
   refine Calls.mono (pmonic_any xa xn xc a X _ LA.out.can (by omega) (by omega) HZ.out) ?_
   rintro e w2 ⟨x2,rfl,hE,g2⟩
   have G2:=Hi g2
   clear g2
   replace HX:=hE.tr HX
   replace LA:=Hi (LA.out.ext hE)
   replace LB:=Hi (LB.out.ext hE)
   have hs_w2:=hE.size
   clear hE
   go_wp2
   go_ret
   exact ⟨x2,rfl,HX.out,by rw [HV.out];exact G2.out,HG.out.done hb⟩
  obtain ⟨m,rfl⟩:∃ m,yn=m+1:=⟨yn - 1,by omega⟩
  have hpos:(0:Int) < (m:Int)+1:=by omega
  have Hb0:Hid (b ≠ []):=Hi (by intro h;rw [h] at hyl;simp at hyl)
  obtain ⟨e1,e2,e3,e4,e5,e6,e7,e8,e9⟩:=HG.out
  have hsz2:=gcd_size2 (la:=a.length) (lb:=b.length) e6 (by omega)
  have hsz3:X+(xn - m) * (X+1)≤K:=by rw [hxl,hyl,show xn+1 - (m+1)=xn - m by omega] at hsz2;exact hsz2
  have hXs:=HG.out.small
  go_wp2_with fail
  refine Calls.mono (pdivide_any xa ya xn xc m yc a b X X _ LA.out.can LB.out.can e3 e4 e5 e5 e1 e2 (by omega) (by omega) (by omega) (by omega)) ?_
  rintro e w4 ⟨x4,rfl,hE,g4⟩
  have G4:=Hi g4
  clear g4
  replace HX:=hE.tr HX
  replace LA:=Hi (LA.out.ext hE)
  replace LB:=Hi (LB.out.ext hE)
  have hs_w4:=hE.size
  clear hE
  obtain ⟨ss,⟨ra,rn,rc⟩,ff⟩:=x4
  obtain ⟨s,r,f,hdv,h1,h2,h3⟩:=G4.out
  have HNX:=Hi (HG.out.next Hb0.out hdv)
  obtain ⟨d0,d1,d2,d3,d4,d5,d6,d7⟩:=hdv
  have hrl:=h2.len
  simp only at hrl
  have HR1:=Hi h2.lin
  have HRF:Hid (∀ x ∈ r,Fr (X+(a.length+1 - b.length) * (X+1)) 1 x):=Hi (fun x hx=>by
   have hw:=d3 x hx
   have e1:x * ((1:Nat):Rat)=x:=Rat.mul_one x
   unfold Fr
   rw [e1]
   exact hw)
  have hsr:(splL r).length < b.length:=by rw [spl_len,d4];exact d5
  have hX1:1≤X+(a.length+1 - b.length) * (X+1):=by omega
  have hW1:1 < W32 ^ (X+(a.length+1 - b.length) * (X+1)):=Nat.one_lt_pow (by omega) (by decide)
  have HLM:Hid (b.length=m+1):=Hi hyl
  clear h1 h2 h3 G4 d0 d1 d2 d3 d4 d6 d7 e1 e2 e3 e4 e6 e7 hsz3
  simp only [DT] at *
  go_upto_region 5 with fail
  refine nm_alloc ?_
  intro w5 hE hB0 hz
  have hz_w5:=nle hz
  have hr_w5:=nle hz.symm
  clear hz
  replace HX:=hE.tr HX
  replace LA:=Hi (LA.out.ext hE)
  replace LB:=Hi (LB.out.ext hE)
  replace HR1:=Hi (HR1.out.ext hE)
  have hs_w5:=hE.size
  clear hE
  have B11:=Hi hB0
  clear hB0
  obtain ⟨c_B11,f_B11,l_B11⟩:=blk3 B11.out
  go_wp2_with fail
  refine Calls.mono (psplit_any ra rn rc r (X+(a.length+1 - b.length) * (X+1)) 1 _ HR1.out.can (by omega) hX1 (by omega) (by decide) hW1 HRF.out) ?_
  rintro e w6 ⟨x6,rfl,hE,g6⟩
  have G6:=Hi g6
  clear g6
  replace HX:=hE.tr HX
  replace LA:=Hi (LA.out.ext hE)
  replace LB:=Hi (LB.out.ext hE)
  replace HR1:=Hi (HR1.out.ext hE)
  replace B11:=hE.bl B11
  have hs_w6:=hE.size
  clear hE
  try clear c_B11 f_B11 l_B11
  obtain ⟨c_B11,f_B11,l_B11⟩:=blk3 B11.out
  obtain ⟨zs,za⟩:=x6
  obtain ⟨Lz,hLz,hz,hrz⟩:=G6.out.2
  have HZ:=Hi (hrz.can rfl (Nat.le_refl _) (by omega))
  clear G6 hrz hLz
  simp only [MT] at *
  subst hz
  go_wp2
  go_roundg (gk - 1)
  case measure=>omega
  case rel=>exact ⟨⟨ya,m+1,yc⟩,_,b,splL r,_,rfl,rfl,by omega,HX.out,LB.out.can,HZ.out,HNX.out⟩
end Go.Proofs.YtpieblkklbilgaaGreat
