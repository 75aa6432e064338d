/- remainder of package sturm; written by gen/srem.py. -/
import Derived.Test.YtcbgamclcgcodaaGreatQYSt12
import Derived.Test.YtcbgamclcgcodaaGreatQYM25
set_option linter.unusedVariables false
namespace Go.Proofs.YtcbgamclcgcodaaGreat
open Go.RowKit Go.Front Go.Num Stab
attribute [local go_sem] XW.cell XW.frozen
structure SvL (w wr:World) (p q:List Rat) (S U:Nat) (qo:Option Addr) (m qc Lr b10 c:Nat) (z:RH) (P n j:Nat):Prop where
 ex:∃ (sl ros:List Rat) (f:Rat),RowC wr Lr ros∧ros.length = P∧n≤P∧0 < f∧DvI p q S U j sl (ros.take n) f
 hx:Ext w wr
 lq:LIn wr ⟨qo,m + 1,qc⟩ q 0 w.heap.size
 B10:wr.heap[b10]? = some (.cells #[.bool z.neg,.slice z.a z.n z.c,.slice z.b z.m z.d] 34 (0,0))
 hz:CanR wr z (lead q)
def SrP (p q:List Rat) (S U B:Nat) (x:SH) (w:World):Prop:=∃ L n c ros s f,B≤L∧x = ⟨some ⟨L,0,none⟩,n,c⟩∧RowC w L ros∧n≤ros.length∧ros.length≤c∧c≤9223372036854775807∧0 < f∧DvP p q S U s (ros.take n) f
theorem den_pos' (c:Rat):0 < (((c.den:Nat):Int):Rat):=by
 have:=c.den_pos
 exact_mod_cast this
set_option maxRecDepth 8000 in
set_option maxHeartbeats 8000000 in
theorem srem_any (pa qa:Option Addr) (P pc m qc:Nat) (p q:List Rat) (S U:Nat) (w:World) (hp:CanL w ⟨pa,P,pc⟩ p) (hq:CanL w ⟨qa,m + 1,qc⟩ q) (hpw:∀ x ∈ p,Wz S x) (hqw:∀ x ∈ q,Wz U x) (hS:1≤S) (hU:1≤U) (htp:tz p = p) (htq:tz q = q) (hP:P≤100000) (hmP:m < P) (hsz:S + (P - m) * (U + 1)≤30000000) (hUz:U≤30000000) :
  Does 229 [.slice pa P pc,.slice qa (m + 1:Nat) qc] w SH.v (fun x w'=>SrP p q S U w.heap.size x w'):=by
 have HX:=Hi (Ext.refl w)
 have LP:=Hi hp.lin
 have LQ:=Hi hq.lin
 have HPl:Hid (p.length = P):=Hi hp.len
 have HQl:Hid (q.length = m + 1):=Hi hq.len
 have HPW:=Hi hpw
 have HQW:=Hi hqw
 have HTP:=Hi htp
 have H0:Hid (lead q ≠ 0):=Hi (by
  have:=lead_tz (q:=q) (by rw [htq]; intro h; have:=HQl.out; rw [h] at this; simp at this)
  rwa [htq] at this)
 have hplc:=hp.le
 have hqlc:=hq.le
 have hqmx:=hq.max
 have hpmx:=hp.max
 simp only at hplc hqlc hqmx hpmx
 clear hp hq hpw hqw htp htq
 obtain ⟨M,hM⟩:∃ M,P = M + m:=⟨P - m,by omega⟩
 subst hM
 rw [show M + m - m = M by omega] at hsz
 unfold Does
 go_enter Tryz.func229,Tryz.ntmps229
 go_wp2_with fail
 refine Calls.mono (pclone_any pa (M + m) pc p _ LP.out.can (by omega) (by omega)) ?_
 rintro e w5 ⟨x5,rfl,hE,g5⟩
 have G5:=Hi g5
 clear g5
 replace HX:=hE.tr HX
 replace LP:=Hi (LP.out.ext hE)
 replace LQ:=Hi (LQ.out.ext hE)
 have hs_w5:=hE.size
 clear hE
 obtain ⟨Lr,c,hLr,hc1,hc2,hx5,hR5⟩:=G5.out
 subst hx5
 have HR:=Hi hR5
 have hLrw:w.heap.size≤Lr:=hLr
 have hLr5:Lr < w5.heap.size:=hR5.lt
 clear hR5 G5
 obtain ⟨b,off,r,hao,hbl,⟨hc1',hc2',hc3'⟩,hPc⟩:=LQ.out.celx (k:=m) (by omega)
 obtain ⟨rneg,ra,rn,rc,rb,rm,rd⟩:=r
 simp only at hc1' hc2' hc3'
 have HC:Hid (CanR w5 ⟨rneg,ra,rn,rc,rb,rm,rd⟩ (lead q)):=Hi (by unfold lead; rw [HQl.out]; exact hPc)
 clear hPc
 subst hao
 go_wp2
 refine nm_alloc ?_
 intro w6 hE hB0 hz
 have hz_w6:=nle hz
 have hr_w6:=nle hz.symm
 clear hz
 replace HX:=hE.tr HX
 replace LP:=Hi (LP.out.ext hE)
 replace LQ:=Hi (LQ.out.ext hE)
 replace HR:=Hi (HR.out.ext hE)
 replace HC:=Hi (HC.out.ext hE)
 have hs_w6:=hE.size
 clear hE
 have B10:=Hi hB0
 clear hB0
 obtain ⟨c_B10,f_B10,l_B10⟩:=blk3 B10.out
 obtain ⟨b10,hb10⟩:∃ b10,b10 = w5.heap.size:=⟨_,rfl⟩
 have hbw10:w.heap.size≤b10:=by omega
 have hLrb:Lr ≠ b10:=by omega
 rw [← hb10] at B10 ⊢
 clear hb10 c_B10 f_B10 l_B10 hc1' hc2' hc3' hbl
 have hcmx:c≤9223372036854775807:=hc2
 clear hLr5
 go_loopg [5] (M + m) (fun g v wr=>∃ (n j:Nat),j + g = M + m∧v = .slice (some ⟨Lr,0,none⟩) n c∧SvL w wr p q S U (some ⟨b,off,none⟩) m qc Lr b10 c ⟨rneg,ra,rn,rc,rb,rm,rd⟩ (M + m) n j)
 case atStart =>
  refine ⟨M + m,0,by omega,by simp,⟨List.replicate M 0,p,1,HR.out,HPl.out,Nat.le_refl _,by decide,?_⟩,HX.out,LQ.out,B10.out,HC.out⟩
  have h1:=DvI.start (S:=S) (U:=U) (p:=p) (q:=q) HPW.out HTP.out (by rw [HPl.out,HQl.out]; omega)
  rw [List.take_of_length_le (by rw [HPl.out]; exact Nat.le_refl _)]
  rw [HPl.out,HQl.out,show M + m - (m + 1) + 1 = M by omega] at h1
  exact h1
 case round =>
  obtain ⟨n,j,hjg,rfl,⟨sl,ros,f,gr,hrl,hnP,hf0,hI⟩,gx,gq,g10,gz⟩:=hrel
  obtain ⟨g0,hg0⟩:∃ g0,g0 = gk:=⟨_,rfl⟩
  have hjn:n + j≤M + m:=by have:=hI.rl; rw [HPl.out,List.length_take,hrl] at this; omega
  clear HX LQ B10 HC HR LP
  have HX:=Hi gx
  have LQ:=Hi gq
  have B10:=Hi g10
  have HC:=Hi gz
  have HR:=Hi gr
  have HI:=Hi hI
  have HRL:=Hi hrl
  have HF0:=Hi hf0
  clear gx gq g10 gz gr hI hrl hf0
  have HSL:Hid (sl.length = M):=Hi (by have:=HI.out.sl; rw [HPl.out,HQl.out] at this; omega)
  try clear c_B10 f_B10 l_B10
  obtain ⟨c_B10,f_B10,l_B10⟩:=blk3 B10.out
  by_cases hn:n < m + 1
  case pos =>
   have hn2:¬ ((m:Int) + 1≤n):=by omega
   go_wp2
   go_ret
   exact ⟨⟨some ⟨Lr,0,none⟩,n,c⟩,rfl,HX.out,Lr,n,c,ros,sl,f,hLrw,rfl,HR.out,by rw [HRL.out]; exact hnP,by rw [HRL.out]; exact hc1,hcmx,HF0.out,HI.out.done (by rw [List.length_take,HQl.out]; omega)⟩
  obtain ⟨t,rfl⟩:∃ t,n = t + m + 1:=⟨n - (m + 1),by omega⟩
  have HRT:Hid ((ros.take (t + m + 1)).length = t + m + 1):=Hi (by rw [List.length_take,HRL.out]; omega)
  have hb10r:b10 < wr.heap.size:=l_B10
  have hLrr:Lr < wr.heap.size:=HR.out.lt
  obtain ⟨B,hB⟩:∃ B,B = S + j * (U + 1):=⟨_,rfl⟩
  have hBz:B≤30000000:=by have:=HI.out.bnd.1; rw [HPl.out,HQl.out,show M + m + 1 - (m + 1) = M by omega] at this; omega
  have hB1:1≤B:=by omega
  have HRW:Hid (∀ x ∈ ros.take (t + m + 1),Wz B x):=Hi (by rw [hB]; exact HI.out.rz)
  have HQWk:Hid (∀ k,k < m + 1→Wz U (q.getD k 0)):=Hi (fun k hk=>HQW.out _ (getD_mem (by rw [HQl.out]; exact hk)))
  have HRWk:Hid (∀ k,k < t + m + 1→Wz B (ros.getD k 0)):=Hi (fun k hk=>by have:=HRW.out _ (getD_mem (i:=k) (by rw [HRT.out]; exact hk)); rwa [getD_take hk] at this)
  have HLQ:Hid (Wz U (lead q)):=Hi (by unfold lead; rw [HQl.out]; exact HQWk.out m (by omega))
  obtain ⟨cq,hcq⟩:∃ cq,cq = ros.getD (t + m) 0 / lead q:=⟨_,rfl⟩
  have HCQ:Hid (cq = lead (ros.take (t + m + 1)) / lead q):=Hi (by rw [hcq]; unfold lead; rw [HRT.out,Nat.add_sub_cancel,getD_take (by omega)])
  have HPA:Hid (Wz B ((cq.num:Int):Rat)∧Wz U (((cq.den:Nat):Int):Rat)):=Hi (by rw [hcq]; exact (HRWk.out (t + m) (by omega)).parts HLQ.out H0.out)
  have HDP:Hid (0 < (((cq.den:Nat):Int):Rat)):=Hi (den_pos' cq)
  obtain ⟨num,hnum⟩:∃ num:Rat,num = ((cq.num:Int):Rat):=⟨_,rfl⟩
  obtain ⟨den,hden⟩:∃ den:Rat,den = (((cq.den:Nat):Int):Rat):=⟨_,rfl⟩
  rw [← hnum,← hden] at HPA
  rw [← hden] at HDP
  have HNUM:=Hi hnum
  have HDEN:=Hi hden
  have Hcq:=Hi hcq
  clear hnum hden hcq hB
  obtain ⟨r8,⟨f1,f2,f3⟩,hr8⟩:=RowC.cells HR.out (k:=t + m) (by rw [HRL.out]; omega)
  have hfz:=RowC.frozen HR.out
  have hLl:=RowC.lt HR.out
  obtain ⟨r8n,r8a,r8l,r8c,r8b,r8m,r8d⟩:=r8
  simp only at f1 f2 f3
  have HR8:=Hi hr8
  clear hr8
  have ht1:(t:Int) + m + 1 - (m + 1) = (t:Nat):=by omega
  have ht2:(t:Int) + m + 1 - 1 = ((t + m:Nat):Int):=by omega
  have hn2:(m:Int) + 1≤(t:Int) + m + 1:=by omega
  go_upto_region 5 with fail
  refine wp_region_edges [(12,10)] _ (by simp only [addEs,addE,List.push_toArray,List.cons_append,List.nil_append]; exact rfl) (by intro c a d v w h; cases d <;> exact h) 12 (fun opIx=>match opIx with
   | 7=>.spec (RH) (default) (fun s=>.tuple #[s.v,.int .i64 0]) (fun x w'=>CanR w' x cq)
   | 11=>.alloc 34 #[.bool false,.slice none 0 0,.slice none 0 0]
   | _=>.quiet) (fun _=>[]) (by kernel_rfl) (by kernel_rfl) (by kernel_rfl) (fun w0 he0 hz0 hc0 hf0=>?_)
  replace he0:=Hi he0
  simp only [pT]
  repeat (refine wpq fun K h=>?_; go_big_quiet_op; refine h _ ?_; clear h K)
  refine wps he0.out rfl rfl (fun w1 hW hG=>?_) fun x7=>?_
  ·exact spc [RH.v ⟨r8n,r8a,r8l,r8c,r8b,r8m,r8d⟩,RH.v ⟨rneg,ra,rn,rc,rb,rm,rd⟩] Tryz.func174 ((by rw [Hcq.out]; exact rdiv_any _ _ _ _ _ ((HR8.out.ext hW).raw ((HRWk.out _ (by omega)).sz hB1) (by omega)) ((HC.out.ext hW).raw (HLQ.out.sz hU) (by omega)) H0.out))
  simp only [pS]
  repeat (refine wpq fun K h=>?_; go_big_quiet_op; refine h _ ?_; clear h K)
  refine wpF_alloc rfl rfl (fun w=>by simp [execOp,go_sem,ptr]) (fun b12 hb12 hl12=>?_)
  simp only [pS]
  repeat (refine wpq fun K h=>?_; go_big_quiet_op; refine h _ ?_; clear h K)
  refine wpF_nil ?_
  intro w8 hI
  have hE:=he0.out.trans hI.ext
  have G7:=Hi ((hI.facts 7:Since _ _).get fun _ e g=>g.ext e)
  have A12:Hid (w8.heap[b12]? = some (.cells #[.bool false,.slice none 0 0,.slice none 0 0] 34 (0,0))):=hI.facts 11
  rw [hz0] at hl12
  clear hI he0 hz0 hc0 hf0
  replace HX:=hE.tr HX
  replace LQ:=Hi (LQ.out.ext hE)
  replace B10:=hE.bl B10
  replace HC:=Hi (HC.out.ext hE)
  replace HR:=Hi (HR.out.ext hE)
  replace HR8:=Hi (HR8.out.ext hE)
  have hs_w8:=hE.size
  clear hE
  try clear c_B10 f_B10 l_B10
  obtain ⟨c_B10,f_B10,l_B10⟩:=blk3 B10.out
  obtain ⟨c_A12,f_A12,l_A12⟩:=blk3 A12.out
  simp only [pD,ptr]
  clear f1 f2 f3 hfz hLl ht2
  clear HR8
  go_upto_region 6 with fail
  refine nm_set3 A12.out rfl ?_
  intro w9 T
  replace HX:=Hi (T.ext HX.out (by omega))
  replace LQ:=Hi (LQ.out.put T (by omega))
  replace B10:=Hi (T.rest _ _ (by omega) B10.out)
  replace HC:=Hi (HC.out.keep T.keep)
  replace HR:=Hi (HR.out.put T (by omega))
  replace A12:=Hi (T.bx)
  replace G7:=Hi (G7.out.keep T.keep)
  have hs_w9:=nle T.size
  have hr_w9:=nle T.size.symm
  clear T
  try clear c_B10 f_B10 l_B10
  obtain ⟨c_B10,f_B10,l_B10⟩:=blk3 B10.out
  try clear c_A12 f_A12 l_A12
  obtain ⟨c_A12,f_A12,l_A12⟩:=blk3 A12.out
  go_wp2_with fail
  refine Calls.mono (sparts_any x7 cq _ G7.out) ?_
  rintro e w10 ⟨x10,rfl,hE,g10⟩
  have G10:=Hi g10
  clear g10
  replace HX:=hE.tr HX
  replace LQ:=Hi (LQ.out.ext hE)
  replace B10:=hE.bl B10
  replace HC:=Hi (HC.out.ext hE)
  replace HR:=Hi (HR.out.ext hE)
  replace A12:=hE.bl A12
  replace G7:=Hi (G7.out.ext hE)
  have hs_w10:=hE.size
  clear hE
  try clear c_B10 f_B10 l_B10
  obtain ⟨c_B10,f_B10,l_B10⟩:=blk3 B10.out
  try clear c_A12 f_A12 l_A12
  obtain ⟨c_A12,f_A12,l_A12⟩:=blk3 A12.out
  obtain ⟨xn,xd⟩:=x10
  have HN:Hid (CanR w10 xn num):=Hi (by rw [HNUM.out]; exact G10.out.1)
  have HD:Hid (CanR w10 xd den):=Hi (by rw [HDEN.out]; exact G10.out.2)
  clear G10
  simp only [PT]
  clear G7
  go_upto_region 7 with fail
  (try clear c_A12 f_A12 l_A12); clear A12
  refine nm_alloc2 ?_
  intro w11 hE hB0 hB1 hz
  have hz_w11:=nle hz
  have hr_w11:=nle hz.symm
  clear hz
  replace HX:=hE.tr HX
  replace LQ:=Hi (LQ.out.ext hE)
  replace B10:=hE.bl B10
  replace HC:=Hi (HC.out.ext hE)
  replace HR:=Hi (HR.out.ext hE)
  replace HN:=Hi (HN.out.ext hE)
  replace HD:=Hi (HD.out.ext hE)
  have hs_w11:=hE.size
  clear hE
  try clear c_B10 f_B10 l_B10
  obtain ⟨c_B10,f_B10,l_B10⟩:=blk3 B10.out
  have B14:=Hi hB0
  clear hB0
  obtain ⟨c_B14,f_B14,l_B14⟩:=blk3 B14.out
  have B15:=Hi hB1
  clear hB1
  obtain ⟨c_B15,f_B15,l_B15⟩:=blk3 B15.out
  obtain ⟨b14,hb14⟩:∃ b14,b14 = w10.heap.size:=⟨_,rfl⟩
  obtain ⟨b15,hb15⟩:∃ b15,b15 = w10.heap.size + 1:=⟨_,rfl⟩
  have hb14r:wr.heap.size≤b14:=by omega
  have hb15r:wr.heap.size≤b15:=by omega
  have hb145:b14 ≠ b15:=by omega
  rw [← hb15] at B15
  rw [← hb14] at B14
  rw [← hb15,← hb14]
  clear hb14 hb15 c_B14 f_B14 l_B14 c_B15 f_B15 l_B15
  try clear c_B10 f_B10 l_B10
  obtain ⟨c_B10,f_B10,l_B10⟩:=blk3 B10.out
  try clear c_B14 f_B14 l_B14
  obtain ⟨c_B14,f_B14,l_B14⟩:=blk3 B14.out
  try clear c_B15 f_B15 l_B15
  obtain ⟨c_B15,f_B15,l_B15⟩:=blk3 B15.out
  obtain ⟨cc,hcc⟩:∃ cc,cc = cmpR den 1:=⟨_,rfl⟩
  have Hcc:=Hi hcc
  have HNW:Hid (Wz B num):=Hi HPA.out.1
  have HDW:Hid (Wz U den):=Hi HPA.out.2
  clear hcc
  refine wp_region_front 3 (fun opIx=>match opIx with
   | 1=>.spec RH default RH.v (fun s w'=>CanR w' s (((1:Int):Rat)))
   | 2=>.spec Unit () (fun _=>.int .i64 cc) (fun _ _=>True)
   | _=>.quiet) (fun | 2=>[1] | _=>[]) (by kernel_rfl) (by kernel_rfl) (fun w0 he0 hz0 hc0 hf0=>?_)
  replace he0:=Hi he0
  simp only [pT]
  repeat (refine wpq fun K h=>?_; go_big_quiet_op; refine h _ ?_; clear h K)
  refine wps he0.out rfl rfl (fun w1 hW hG=>?_) fun x20=>?_
  ·exact spc [.int .i64 1] Tryz.func128 (rof_any 1 _ (by decide) (by decide))
  simp only [pS]
  repeat (refine wpq fun K h=>?_; go_big_quiet_op; refine h _ ?_; clear h K)
  refine wps he0.out rfl rfl (fun w1 hW hG=>?_) fun x21=>?_
  ·have g20:=(hG 1 (by decide):Since _ _).get fun _ e g=>g.ext e
   exact spc [xd.v,x20.v] Tryz.func98 ((by rw [Hcc.out]; exact rcmp_any _ _ _ _ _ ((HD.out.ext hW).raw (HDW.out.sz hU) (by omega)) (g20.raw (Sz.int (by decide)) (by decide))))
  simp only [pS]
  repeat (refine wpq fun K h=>?_; go_big_quiet_op; refine h _ ?_; clear h K)
  refine wpF_nil ?_
  intro w12 hI
  have hE:=he0.out.trans hI.ext
  have G20:=Hi ((hI.facts 1:Since _ _).get fun _ e g=>g.ext e)
  clear hI he0 hz0 hc0 hf0
  replace HX:=hE.tr HX
  replace LQ:=Hi (LQ.out.ext hE)
  replace B10:=hE.bl B10
  replace HC:=Hi (HC.out.ext hE)
  replace HR:=Hi (HR.out.ext hE)
  replace HN:=Hi (HN.out.ext hE)
  replace HD:=Hi (HD.out.ext hE)
  replace B14:=hE.bl B14
  replace B15:=hE.bl B15
  have hs_w12:=hE.size
  clear hE
  try clear c_B10 f_B10 l_B10
  obtain ⟨c_B10,f_B10,l_B10⟩:=blk3 B10.out
  try clear c_B14 f_B14 l_B14
  obtain ⟨c_B14,f_B14,l_B14⟩:=blk3 B14.out
  try clear c_B15 f_B15 l_B15
  obtain ⟨c_B15,f_B15,l_B15⟩:=blk3 B15.out
  simp only [pD]
  by_cases hcc0:cc = 0
  case pos =>
   subst hcc0
   have hd1:den = 1:=pcmp_eq.1 Hcc.out.symm
   replace HR:=Hi (show RowC w12 Lr (mulR ros (t + m + 1) den) by rw [hd1,mulR_one]; exact HR.out)
   clear hd1
   clear G20
   (try simp only [SH.v])
   clear HD
   (try clear c_B15 f_B15 l_B15); clear B15
   go_wp2
   go_loopg [70] (m + 1) (fun g v wr=>∃ (k:Nat),k + g = m + 1∧v = .int .i64 (k:Nat)∧Ext w wr∧LIn wr ⟨some ⟨b,off,none⟩,m + 1,qc⟩ q 0 w.heap.size∧wr.heap[b10]? = some (.cells #[.bool rneg,.slice ra rn rc,.slice rb rm rd] 34 (0,0))∧wr.heap[b14]? = some (.cells #[.bool xn.neg,.slice xn.a xn.n xn.c,.slice xn.b xn.m xn.d] 34 (0,0))∧CanR wr ⟨rneg,ra,rn,rc,rb,rm,rd⟩ (lead q)∧CanR wr xn num∧RowC wr Lr (subR (mulR ros (t + m + 1) den) t q num k))
   case atStart=>exact ⟨0,by omega,rfl,HX.out,LQ.out,B10.out,B14.out,HC.out,HN.out,HR.out⟩
   case round =>
    obtain ⟨k,hk,rfl,g1,g2,g5,g6,g7,g9,g11⟩:=hrel
    clear HX LQ B10 B14 HC HN HR
    have HX:=Hi g1
    have LQ:=Hi g2
    have B10:=Hi g5
    have B14:=Hi g6
    have HC:=Hi g7
    have HN:=Hi g9
    have HR:=Hi g11
    clear g1 g2 g5 g6 g7 g9 g11
    try clear c_B10 f_B10 l_B10
    obtain ⟨c_B10,f_B10,l_B10⟩:=blk3 B10.out
    try clear c_B14 f_B14 l_B14
    obtain ⟨c_B14,f_B14,l_B14⟩:=blk3 B14.out
    by_cases h0:gk = 0
    case neg =>
     have hin:(k:Int) < (m:Int) + 1:=by omega
     obtain ⟨b',off',r17,hao,hbl,⟨hc1',hc2',hc3'⟩,hPc⟩:=LQ.out.celx (k:=k) (by omega)
     obtain ⟨rfl,rfl⟩:b = b'∧off = off':=by simpa using hao
     obtain ⟨qn,qa',ql,qc',qb,qm,qd⟩:=r17
     simp only at hc1' hc2' hc3'
     have HQk:=Hi hPc
     clear hPc hao
     go_upto_region 16 with fail
     clear hc1' hc2' hc3'
     refine nm_alloc ?_
     intro y18 hE hB0 hz
     have hz_y18:=nle hz
     have hr_y18:=nle hz.symm
     clear hz
     replace HX:=hE.tr HX
     replace LQ:=Hi (LQ.out.ext hE)
     replace B10:=hE.bl B10
     replace B14:=hE.bl B14
     replace HC:=Hi (HC.out.ext hE)
     replace HN:=Hi (HN.out.ext hE)
     replace HR:=Hi (HR.out.ext hE)
     replace HQk:=Hi (HQk.out.ext hE)
     have hs_y18:=hE.size
     clear hE
     try clear c_B10 f_B10 l_B10
     obtain ⟨c_B10,f_B10,l_B10⟩:=blk3 B10.out
     try clear c_B14 f_B14 l_B14
     obtain ⟨c_B14,f_B14,l_B14⟩:=blk3 B14.out
     have B17:=Hi hB0
     clear hB0
     obtain ⟨c_B17,f_B17,l_B17⟩:=blk3 B17.out
     obtain ⟨r18,⟨f1,f2,f3⟩,hr18⟩:=RowC.cells HR.out (k:=t + k) (by rw [subR_len,mulR_len,HRL.out]; omega)
     have hfz:=RowC.frozen HR.out
     have hLl:=RowC.lt HR.out
     obtain ⟨sn,sa,sl',sc,sb,sm',sd⟩:=r18
     simp only at f1 f2 f3
     have HR18:=Hi hr18
     clear hr18
     have HRV:Hid (Wz (B + U) ((subR (mulR ros (t + m + 1) den) t q num k).getD (t + k) 0)):=Hi (by
      rw [subR_at _ _ _ _ _ (by rw [mulR_len,HRL.out]; omega),if_neg (by omega),mulR_at _ (by rw [HRL.out]; omega) (by omega)]
      have:=(HRWk.out (t + k) (by omega)).mul HDW.out
      rw [psub0]
      exact this)
     have htk:(t:Int) + k < (t:Int) + m + 1:=by omega
     refine wp_region_front 14 (fun opIx=>match opIx with
      | 12=>.spec RH default RH.v (fun s w'=>CanR w' s (num * q.getD k 0))
      | 13=>.spec RH default RH.v (fun s w'=>CanR w' s ((subR (mulR ros (t + m + 1) den) t q num k).getD (t + k) 0 - num * q.getD k 0))
      | _=>.quiet) (fun | 13=>[12] | _=>[]) (by kernel_rfl) (by kernel_rfl) (fun w0 he0 hz0 hc0 hf0=>?_)
     replace he0:=Hi he0
     simp only [pT]
     repeat (refine wpq fun K h=>?_; go_big_quiet_op; refine h _ ?_; clear h K)
     refine wps he0.out rfl rfl (fun w1 hW hG=>?_) fun x22=>?_
     ·exact spc [xn.v,RH.v ⟨qn,qa',ql,qc',qb,qm,qd⟩] Tryz.func130 (rmul_any _ _ _ _ _ ((HN.out.ext hW).raw (HNW.out.sz hB1) (by omega)) ((HQk.out.ext hW).raw ((HQWk.out k (by omega)).sz hU) (by omega)))
     simp only [pS]
     repeat (refine wpq fun K h=>?_; go_big_quiet_op; refine h _ ?_; clear h K)
     refine wps he0.out rfl rfl (fun w1 hW hG=>?_) fun x23=>?_
     ·have g22:=(hG 12 (by decide):Since _ _).get fun _ e g=>g.ext e
      exact spc [RH.v ⟨sn,sa,sl',sc,sb,sm',sd⟩,x22.v] Tryz.func131 (rsub_any _ x22 _ _ _ ((HR18.out.ext hW).raw (HRV.out.sz (by omega)) (by omega)) (g22.raw ((HNW.out.mul (HQWk.out k (by omega))).sz (by omega)) (by omega)))
     simp only [pS]
     repeat (refine wpq fun K h=>?_; go_big_quiet_op; refine h _ ?_; clear h K)
     refine wpF_nil ?_
     intro y19 hI
     have hE:=he0.out.trans hI.ext
     have G22:=Hi ((hI.facts 12:Since _ _).get fun _ e g=>g.ext e)
     have G23:=Hi ((hI.facts 13:Since _ _).get fun _ e g=>g.ext e)
     clear hI he0 hz0 hc0 hf0
     replace HX:=hE.tr HX
     replace LQ:=Hi (LQ.out.ext hE)
     replace B10:=hE.bl B10
     replace B14:=hE.bl B14
     replace HC:=Hi (HC.out.ext hE)
     replace HN:=Hi (HN.out.ext hE)
     replace HR:=Hi (HR.out.ext hE)
     replace HQk:=Hi (HQk.out.ext hE)
     replace B17:=hE.bl B17
     replace HR18:=Hi (HR18.out.ext hE)
     have hs_y19:=hE.size
     clear hE
     try clear c_B10 f_B10 l_B10
     obtain ⟨c_B10,f_B10,l_B10⟩:=blk3 B10.out
     try clear c_B14 f_B14 l_B14
     obtain ⟨c_B14,f_B14,l_B14⟩:=blk3 B14.out
     try clear c_B17 f_B17 l_B17
     obtain ⟨c_B17,f_B17,l_B17⟩:=blk3 B17.out
     simp only [pD]
     clear f1 f2 f3 hfz hLl htk
     clear HR18
     clear HQk
     clear G22
     obtain ⟨r19,⟨f1,f2,f3⟩,-⟩:=RowC.cells HR.out (k:=t + k) (by rw [subR_len,mulR_len,HRL.out]; omega)
     have hfz:=RowC.frozen HR.out
     have hLl:=RowC.lt HR.out
     go_upto_region 17 with fail
     refine nm_row (k:=t + k) HR.out (by rw [subR_len,mulR_len,HRL.out]; omega) G23.out ?_
     rintro y20 ⟨cs,T⟩ TN
     clear f1 f2 f3 hfz hLl
     (try clear c_B17 f_B17 l_B17); clear B17
     clear G23
     clear HR
     replace HX:=Hi (T.ext HX.out (by omega))
     replace LQ:=Hi (LQ.out.put T (by omega))
     replace B10:=Hi (T.rest _ _ (by omega) B10.out)
     replace B14:=Hi (T.rest _ _ (by omega) B14.out)
     replace HC:=Hi (HC.out.keep T.keep)
     replace HN:=Hi (HN.out.keep T.keep)
     have hs_y20:=nle T.size
     have hr_y20:=nle T.size.symm
     clear T
     try clear c_B10 f_B10 l_B10
     obtain ⟨c_B10,f_B10,l_B10⟩:=blk3 B10.out
     try clear c_B14 f_B14 l_B14
     obtain ⟨c_B14,f_B14,l_B14⟩:=blk3 B14.out
     have HR:=Hi TN
     clear TN
     go_wp2
     go_roundg (gk - 1)
     case measure=>omega
     case rel=>exact ⟨k + 1,by omega,by go_num,HX.out,LQ.out,B10.out,B14.out,HC.out,HN.out,HR.out⟩
    subst h0
    obtain rfl:k = m + 1:=by omega
    have hin:¬ ((m:Int) + 1 < (m:Int) + 1):=by omega
    obtain ⟨hI2,hW2⟩:=HI.out.row HQl.out (by rw [HRL.out]; omega) HSL.out H0.out HQW.out HCQ.out HNUM.out HDEN.out
    have HI2:=Hi hI2
    have HRN:Hid (CanL wr ⟨some ⟨Lr,0,none⟩,t + m + 1,c⟩ ((subR (mulR ros (t + m + 1) den) t q num (m + 1)).take (t + m + 1))):=Hi ((HR.out.can (by rw [subR_len,mulR_len,HRL.out]) hc1 hcmx).take hnP)
    have HSZ:Hid (SzL (S + j * (U + 1) + U + 1) ((subR (mulR ros (t + m + 1) den) t q num (m + 1)).take (t + m + 1))):=Hi (fun x hx=>(hW2 x hx).sz (by omega))
    clear hI2 hW2
    have hBz2:S + j * (U + 1)≤30000000:=by have:=HI.out.bnd.1; rw [HPl.out,HQl.out,show M + m + 1 - (m + 1) = M by omega] at this; omega
    go_wp2_with fail
    refine Calls.mono (scut_any (some ⟨Lr,0,none⟩) (t + m + 1) c _ _ (HRN.out.raw HSZ.out (by omega))) ?_
    rintro e w24 ⟨x24,rfl,hE,g24⟩
    have G24:=Hi g24
    clear g24
    replace HX:=hE.tr HX
    replace LQ:=Hi (LQ.out.ext hE)
    replace B10:=hE.bl B10
    replace B14:=hE.bl B14
    replace HC:=Hi (HC.out.ext hE)
    replace HN:=Hi (HN.out.ext hE)
    replace HR:=Hi (HR.out.ext hE)
    have hs_w24:=hE.size
    clear hE
    try clear c_B10 f_B10 l_B10
    obtain ⟨c_B10,f_B10,l_B10⟩:=blk3 B10.out
    try clear c_B14 f_B14 l_B14
    obtain ⟨c_B14,f_B14,l_B14⟩:=blk3 B14.out
    obtain ⟨q1,q2⟩:=G24.out
    have HQ1:=Hi q1
    clear q1 G24
    go_wp2
    go_roundg (g0 - 1)
    case measure=>omega
    case rel =>
     refine ⟨_,j + 1,by omega,rfl,⟨(mulR sl M den).set t num,subR (mulR ros (t + m + 1) den) t q num (m + 1),f * den,HR.out,by rw [subR_len,mulR_len,HRL.out],by omega,Rat.mul_pos HF0.out HDP.out,?_⟩,HX.out,LQ.out,B10.out,HC.out⟩
     have h1:=HI2.out
     rw [HQ1.out,List.take_take,Nat.min_eq_left (by omega)] at h1
     exact h1
  have hccb:(cc == 0) = false:=by simpa using hcc0
  clear hcc0
  clear G20
  (try simp only [SH.v])
  go_wp2
  go_loopg [55] (t + m + 1) (fun g v wr=>∃ (i:Nat),i + g = t + m + 1∧v = .int .i64 (i:Nat)∧Ext w wr∧LIn wr ⟨some ⟨b,off,none⟩,m + 1,qc⟩ q 0 w.heap.size∧wr.heap[b10]? = some (.cells #[.bool rneg,.slice ra rn rc,.slice rb rm rd] 34 (0,0))∧wr.heap[b14]? = some (.cells #[.bool xn.neg,.slice xn.a xn.n xn.c,.slice xn.b xn.m xn.d] 34 (0,0))∧wr.heap[b15]? = some (.cells #[.bool xd.neg,.slice xd.a xd.n xd.c,.slice xd.b xd.m xd.d] 34 (0,0))∧CanR wr ⟨rneg,ra,rn,rc,rb,rm,rd⟩ (lead q)∧CanR wr xn num∧CanR wr xd den∧RowC wr Lr (mulR ros i den))
  case atStart=>exact ⟨0,by omega,rfl,HX.out,LQ.out,B10.out,B14.out,B15.out,HC.out,HN.out,HD.out,by simpa [mulR] using HR.out⟩
  case round =>
   obtain ⟨i,hi,rfl,g1,g2,g3,g4,g5,g6,g7,g8,g9⟩:=hrel
   clear HX LQ B10 B14 B15 HC HN HD HR
   have HX:=Hi g1
   have LQ:=Hi g2
   have B10:=Hi g3
   have B14:=Hi g4
   have B15:=Hi g5
   have HC:=Hi g6
   have HN:=Hi g7
   have HD:=Hi g8
   have HR:=Hi g9
   clear g1 g2 g3 g4 g5 g6 g7 g8 g9
   try clear c_B10 f_B10 l_B10
   obtain ⟨c_B10,f_B10,l_B10⟩:=blk3 B10.out
   try clear c_B14 f_B14 l_B14
   obtain ⟨c_B14,f_B14,l_B14⟩:=blk3 B14.out
   try clear c_B15 f_B15 l_B15
   obtain ⟨c_B15,f_B15,l_B15⟩:=blk3 B15.out
   by_cases h0:gk = 0
   case neg =>
    have hin:(i:Int) < (t:Int) + m + 1:=by omega
    have HL:Hid ((mulR ros i den).length = ros.length):=Hi (mulR_len _ _ _)
    have HV:Hid ((mulR ros i den).getD i 0 = ros.getD i 0):=Hi (by
     have h2:=HRL.out
     unfold mulR
     have h1:((ros.take i).map (· * den)).length = i:=by rw [List.length_map,List.length_take]; omega
     rw [List.getD_eq_getElem?_getD,List.getElem?_append_right (by omega),h1,Nat.sub_self,List.getElem?_drop,Nat.add_zero,← List.getD_eq_getElem?_getD])
    obtain ⟨r,⟨f1,f2,f3⟩,hrc⟩:=RowC.cells HR.out (k:=i) (by rw [HL.out,HRL.out]; omega)
    rw [HV.out] at hrc
    have HRC:=Hi hrc
    clear hrc
    have hfz:=RowC.frozen HR.out
    have hLl:=RowC.lt HR.out
    obtain ⟨ren,rea,rel,rec',reb,rem,red⟩:=r
    simp only at f1 f2 f3
    go_upto_region 11 with fail
    refine wp_region_front 8 (fun opIx=>match opIx with
     | 7=>.spec RH default RH.v (fun s w'=>CanR w' s (ros.getD i 0 * den))
     | _=>.quiet) (fun _=>[]) (by kernel_rfl) (by kernel_rfl) (fun w0 he0 hz0 hc0 hf0=>?_)
    replace he0:=Hi he0
    simp only [pT]
    repeat (refine wpq fun K h=>?_; go_big_quiet_op; refine h _ ?_; clear h K)
    refine wps he0.out rfl rfl (fun w1 hW hG=>?_) fun x7=>?_
    ·exact spc [RH.v ⟨ren,rea,rel,rec',reb,rem,red⟩,xd.v] Tryz.func130 (rmul_any _ _ _ _ _ ((HRC.out.ext hW).raw ((HRWk.out i (by omega)).sz hB1) (by omega)) ((HD.out.ext hW).raw (HDW.out.sz hU) (by omega)))
    simp only [pS]
    repeat (refine wpq fun K h=>?_; go_big_quiet_op; refine h _ ?_; clear h K)
    refine wpF_nil ?_
    intro w5 hI
    have hE:=he0.out.trans hI.ext
    have G7:=Hi ((hI.facts 7:Since _ _).get fun _ e g=>g.ext e)
    clear hI he0 hz0 hc0 hf0
    replace HX:=hE.tr HX
    replace LQ:=Hi (LQ.out.ext hE)
    replace B10:=hE.bl B10
    replace B14:=hE.bl B14
    replace B15:=hE.bl B15
    replace HC:=Hi (HC.out.ext hE)
    replace HN:=Hi (HN.out.ext hE)
    replace HD:=Hi (HD.out.ext hE)
    replace HR:=Hi (HR.out.ext hE)
    replace HRC:=Hi (HRC.out.ext hE)
    have hs_w5:=hE.size
    clear hE
    try clear c_B10 f_B10 l_B10
    obtain ⟨c_B10,f_B10,l_B10⟩:=blk3 B10.out
    try clear c_B14 f_B14 l_B14
    obtain ⟨c_B14,f_B14,l_B14⟩:=blk3 B14.out
    try clear c_B15 f_B15 l_B15
    obtain ⟨c_B15,f_B15,l_B15⟩:=blk3 B15.out
    simp only [pD]
    clear f1 f2 f3 hfz hLl
    clear HRC
    obtain ⟨r2,⟨f1,f2,f3⟩,-⟩:=RowC.cells HR.out (k:=i) (by rw [HL.out,HRL.out]; omega)
    have hfz:=RowC.frozen HR.out
    have hLl:=RowC.lt HR.out
    go_upto_region 12 with fail
    refine nm_row (k:=i) HR.out (by rw [HL.out,HRL.out]; omega) G7.out ?_
    rintro y6 ⟨cs,T⟩ TN
    rw [mul_step (by rw [HRL.out]; omega)] at TN
    clear f1 f2 f3 hfz hLl HL HV
    clear G7
    clear HR
    replace HX:=Hi (T.ext HX.out (by omega))
    replace LQ:=Hi (LQ.out.put T (by omega))
    replace B10:=Hi (T.rest _ _ (by omega) B10.out)
    replace B14:=Hi (T.rest _ _ (by omega) B14.out)
    replace B15:=Hi (T.rest _ _ (by omega) B15.out)
    replace HC:=Hi (HC.out.keep T.keep)
    replace HN:=Hi (HN.out.keep T.keep)
    replace HD:=Hi (HD.out.keep T.keep)
    have hs_y6:=nle T.size
    have hr_y6:=nle T.size.symm
    clear T
    try clear c_B10 f_B10 l_B10
    obtain ⟨c_B10,f_B10,l_B10⟩:=blk3 B10.out
    try clear c_B14 f_B14 l_B14
    obtain ⟨c_B14,f_B14,l_B14⟩:=blk3 B14.out
    try clear c_B15 f_B15 l_B15
    obtain ⟨c_B15,f_B15,l_B15⟩:=blk3 B15.out
    have HR:=Hi TN
    clear TN
    go_wp2
    go_roundg (gk - 1)
    case measure=>omega
    case rel=>exact ⟨i + 1,by omega,by go_num,HX.out,LQ.out,B10.out,B14.out,B15.out,HC.out,HN.out,HD.out,HR.out⟩
   subst h0
   obtain rfl:i = t + m + 1:=by omega
   have hin:¬ ((t:Int) + m + 1 < (t:Int) + m + 1):=by omega
   clear HD
   (try clear c_B15 f_B15 l_B15); clear B15
   go_wp2
   go_loopg [70] (m + 1) (fun g v wr=>∃ (k:Nat),k + g = m + 1∧v = .int .i64 (k:Nat)∧Ext w wr∧LIn wr ⟨some ⟨b,off,none⟩,m + 1,qc⟩ q 0 w.heap.size∧wr.heap[b10]? = some (.cells #[.bool rneg,.slice ra rn rc,.slice rb rm rd] 34 (0,0))∧wr.heap[b14]? = some (.cells #[.bool xn.neg,.slice xn.a xn.n xn.c,.slice xn.b xn.m xn.d] 34 (0,0))∧CanR wr ⟨rneg,ra,rn,rc,rb,rm,rd⟩ (lead q)∧CanR wr xn num∧RowC wr Lr (subR (mulR ros (t + m + 1) den) t q num k))
   case atStart=>exact ⟨0,by omega,rfl,HX.out,LQ.out,B10.out,B14.out,HC.out,HN.out,HR.out⟩
   case round =>
    obtain ⟨k,hk,rfl,g1,g2,g5,g6,g7,g9,g11⟩:=hrel
    clear HX LQ B10 B14 HC HN HR
    have HX:=Hi g1
    have LQ:=Hi g2
    have B10:=Hi g5
    have B14:=Hi g6
    have HC:=Hi g7
    have HN:=Hi g9
    have HR:=Hi g11
    clear g1 g2 g5 g6 g7 g9 g11
    try clear c_B10 f_B10 l_B10
    obtain ⟨c_B10,f_B10,l_B10⟩:=blk3 B10.out
    try clear c_B14 f_B14 l_B14
    obtain ⟨c_B14,f_B14,l_B14⟩:=blk3 B14.out
    by_cases h0:gk = 0
    case neg =>
     have hin:(k:Int) < (m:Int) + 1:=by omega
     obtain ⟨b',off',r17,hao,hbl,⟨hc1',hc2',hc3'⟩,hPc⟩:=LQ.out.celx (k:=k) (by omega)
     obtain ⟨rfl,rfl⟩:b = b'∧off = off':=by simpa using hao
     obtain ⟨qn,qa',ql,qc',qb,qm,qd⟩:=r17
     simp only at hc1' hc2' hc3'
     have HQk:=Hi hPc
     clear hPc hao
     go_upto_region 16 with fail
     clear hc1' hc2' hc3'
     refine nm_alloc ?_
     intro y18 hE hB0 hz
     have hz_y18:=nle hz
     have hr_y18:=nle hz.symm
     clear hz
     replace HX:=hE.tr HX
     replace LQ:=Hi (LQ.out.ext hE)
     replace B10:=hE.bl B10
     replace B14:=hE.bl B14
     replace HC:=Hi (HC.out.ext hE)
     replace HN:=Hi (HN.out.ext hE)
     replace HR:=Hi (HR.out.ext hE)
     replace HQk:=Hi (HQk.out.ext hE)
     have hs_y18:=hE.size
     clear hE
     try clear c_B10 f_B10 l_B10
     obtain ⟨c_B10,f_B10,l_B10⟩:=blk3 B10.out
     try clear c_B14 f_B14 l_B14
     obtain ⟨c_B14,f_B14,l_B14⟩:=blk3 B14.out
     have B17:=Hi hB0
     clear hB0
     obtain ⟨c_B17,f_B17,l_B17⟩:=blk3 B17.out
     obtain ⟨r18,⟨f1,f2,f3⟩,hr18⟩:=RowC.cells HR.out (k:=t + k) (by rw [subR_len,mulR_len,HRL.out]; omega)
     have hfz:=RowC.frozen HR.out
     have hLl:=RowC.lt HR.out
     obtain ⟨sn,sa,sl',sc,sb,sm',sd⟩:=r18
     simp only at f1 f2 f3
     have HR18:=Hi hr18
     clear hr18
     have HRV:Hid (Wz (B + U) ((subR (mulR ros (t + m + 1) den) t q num k).getD (t + k) 0)):=Hi (by
      rw [subR_at _ _ _ _ _ (by rw [mulR_len,HRL.out]; omega),if_neg (by omega),mulR_at _ (by rw [HRL.out]; omega) (by omega)]
      have:=(HRWk.out (t + k) (by omega)).mul HDW.out
      rw [psub0]
      exact this)
     have htk:(t:Int) + k < (t:Int) + m + 1:=by omega
     refine wp_region_front 14 (fun opIx=>match opIx with
      | 12=>.spec RH default RH.v (fun s w'=>CanR w' s (num * q.getD k 0))
      | 13=>.spec RH default RH.v (fun s w'=>CanR w' s ((subR (mulR ros (t + m + 1) den) t q num k).getD (t + k) 0 - num * q.getD k 0))
      | _=>.quiet) (fun | 13=>[12] | _=>[]) (by kernel_rfl) (by kernel_rfl) (fun w0 he0 hz0 hc0 hf0=>?_)
     replace he0:=Hi he0
     simp only [pT]
     repeat (refine wpq fun K h=>?_; go_big_quiet_op; refine h _ ?_; clear h K)
     refine wps he0.out rfl rfl (fun w1 hW hG=>?_) fun x22=>?_
     ·exact spc [xn.v,RH.v ⟨qn,qa',ql,qc',qb,qm,qd⟩] Tryz.func130 (rmul_any _ _ _ _ _ ((HN.out.ext hW).raw (HNW.out.sz hB1) (by omega)) ((HQk.out.ext hW).raw ((HQWk.out k (by omega)).sz hU) (by omega)))
     simp only [pS]
     repeat (refine wpq fun K h=>?_; go_big_quiet_op; refine h _ ?_; clear h K)
     refine wps he0.out rfl rfl (fun w1 hW hG=>?_) fun x23=>?_
     ·have g22:=(hG 12 (by decide):Since _ _).get fun _ e g=>g.ext e
      exact spc [RH.v ⟨sn,sa,sl',sc,sb,sm',sd⟩,x22.v] Tryz.func131 (rsub_any _ x22 _ _ _ ((HR18.out.ext hW).raw (HRV.out.sz (by omega)) (by omega)) (g22.raw ((HNW.out.mul (HQWk.out k (by omega))).sz (by omega)) (by omega)))
     simp only [pS]
     repeat (refine wpq fun K h=>?_; go_big_quiet_op; refine h _ ?_; clear h K)
     refine wpF_nil ?_
     intro y19 hI
     have hE:=he0.out.trans hI.ext
     have G22:=Hi ((hI.facts 12:Since _ _).get fun _ e g=>g.ext e)
     have G23:=Hi ((hI.facts 13:Since _ _).get fun _ e g=>g.ext e)
     clear hI he0 hz0 hc0 hf0
     replace HX:=hE.tr HX
     replace LQ:=Hi (LQ.out.ext hE)
     replace B10:=hE.bl B10
     replace B14:=hE.bl B14
     replace HC:=Hi (HC.out.ext hE)
     replace HN:=Hi (HN.out.ext hE)
     replace HR:=Hi (HR.out.ext hE)
     replace HQk:=Hi (HQk.out.ext hE)
     replace B17:=hE.bl B17
     replace HR18:=Hi (HR18.out.ext hE)
     have hs_y19:=hE.size
     clear hE
     try clear c_B10 f_B10 l_B10
     obtain ⟨c_B10,f_B10,l_B10⟩:=blk3 B10.out
     try clear c_B14 f_B14 l_B14
     obtain ⟨c_B14,f_B14,l_B14⟩:=blk3 B14.out
     try clear c_B17 f_B17 l_B17
     obtain ⟨c_B17,f_B17,l_B17⟩:=blk3 B17.out
     simp only [pD]
     clear f1 f2 f3 hfz hLl htk
     clear HR18
     clear HQk
     clear G22
     obtain ⟨r19,⟨f1,f2,f3⟩,-⟩:=RowC.cells HR.out (k:=t + k) (by rw [subR_len,mulR_len,HRL.out]; omega)
     have hfz:=RowC.frozen HR.out
     have hLl:=RowC.lt HR.out
     go_upto_region 17 with fail
     refine nm_row (k:=t + k) HR.out (by rw [subR_len,mulR_len,HRL.out]; omega) G23.out ?_
     rintro y20 ⟨cs,T⟩ TN
     clear f1 f2 f3 hfz hLl
     (try clear c_B17 f_B17 l_B17); clear B17
     clear G23
     clear HR
     replace HX:=Hi (T.ext HX.out (by omega))
     replace LQ:=Hi (LQ.out.put T (by omega))
     replace B10:=Hi (T.rest _ _ (by omega) B10.out)
     replace B14:=Hi (T.rest _ _ (by omega) B14.out)
     replace HC:=Hi (HC.out.keep T.keep)
     replace HN:=Hi (HN.out.keep T.keep)
     have hs_y20:=nle T.size
     have hr_y20:=nle T.size.symm
     clear T
     try clear c_B10 f_B10 l_B10
     obtain ⟨c_B10,f_B10,l_B10⟩:=blk3 B10.out
     try clear c_B14 f_B14 l_B14
     obtain ⟨c_B14,f_B14,l_B14⟩:=blk3 B14.out
     have HR:=Hi TN
     clear TN
     go_wp2
     go_roundg (gk - 1)
     case measure=>omega
     case rel=>exact ⟨k + 1,by omega,by go_num,HX.out,LQ.out,B10.out,B14.out,HC.out,HN.out,HR.out⟩
    subst h0
    obtain rfl:k = m + 1:=by omega
    have hin:¬ ((m:Int) + 1 < (m:Int) + 1):=by omega
    obtain ⟨hI2,hW2⟩:=HI.out.row HQl.out (by rw [HRL.out]; omega) HSL.out H0.out HQW.out HCQ.out HNUM.out HDEN.out
    have HI2:=Hi hI2
    have HRN:Hid (CanL wr ⟨some ⟨Lr,0,none⟩,t + m + 1,c⟩ ((subR (mulR ros (t + m + 1) den) t q num (m + 1)).take (t + m + 1))):=Hi ((HR.out.can (by rw [subR_len,mulR_len,HRL.out]) hc1 hcmx).take hnP)
    have HSZ:Hid (SzL (S + j * (U + 1) + U + 1) ((subR (mulR ros (t + m + 1) den) t q num (m + 1)).take (t + m + 1))):=Hi (fun x hx=>(hW2 x hx).sz (by omega))
    clear hI2 hW2
    have hBz2:S + j * (U + 1)≤30000000:=by have:=HI.out.bnd.1; rw [HPl.out,HQl.out,show M + m + 1 - (m + 1) = M by omega] at this; omega
    go_wp2_with fail
    refine Calls.mono (scut_any (some ⟨Lr,0,none⟩) (t + m + 1) c _ _ (HRN.out.raw HSZ.out (by omega))) ?_
    rintro e w24 ⟨x24,rfl,hE,g24⟩
    have G24:=Hi g24
    clear g24
    replace HX:=hE.tr HX
    replace LQ:=Hi (LQ.out.ext hE)
    replace B10:=hE.bl B10
    replace B14:=hE.bl B14
    replace HC:=Hi (HC.out.ext hE)
    replace HN:=Hi (HN.out.ext hE)
    replace HR:=Hi (HR.out.ext hE)
    have hs_w24:=hE.size
    clear hE
    try clear c_B10 f_B10 l_B10
    obtain ⟨c_B10,f_B10,l_B10⟩:=blk3 B10.out
    try clear c_B14 f_B14 l_B14
    obtain ⟨c_B14,f_B14,l_B14⟩:=blk3 B14.out
    obtain ⟨q1,q2⟩:=G24.out
    have HQ1:=Hi q1
    clear q1 G24
    go_wp2
    go_roundg (g0 - 1)
    case measure=>omega
    case rel =>
     refine ⟨_,j + 1,by omega,rfl,⟨(mulR sl M den).set t num,subR (mulR ros (t + m + 1) den) t q num (m + 1),f * den,HR.out,by rw [subR_len,mulR_len,HRL.out],by omega,Rat.mul_pos HF0.out HDP.out,?_⟩,HX.out,LQ.out,B10.out,HC.out⟩
     have h1:=HI2.out
     rw [HQ1.out,List.take_take,Nat.min_eq_left (by omega)] at h1
     exact h1
end Go.Proofs.YtcbgamclcgcodaaGreat
