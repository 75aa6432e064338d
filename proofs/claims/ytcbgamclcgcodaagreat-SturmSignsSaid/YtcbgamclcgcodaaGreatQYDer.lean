/- Derivative of package poly. -/
import Derived.Test.YtcbgamclcgcodaaGreatQYM26
import Derived.Test.YtcbgamclcgcodaaGreatQYSg
set_option linter.unusedVariables false
namespace Go.Proofs.YtcbgamclcgcodaaGreat
open Go.RowKit Go.Front Go.Num Stab Sg
attribute [local go_sem] XW.cell XW.frozen
abbrev derF (l:List Rat) (i:Nat):Rat:=l.getD (i + 1) 0 * (((i + 1:Nat):Int):Rat)
theorem derF_map (l:List Rat) {m:Nat} (h:l.length = m + 1):tz ((List.range m).map (derF l)) = tz (derL l):=by
 apply tz_ext
 intro i
 have h2:=seq_derL l i
 unfold seq at h2
 rw [h2]
 by_cases hi:i < m
 ·rw [List.getD_eq_getElem?_getD,List.getElem?_map,List.getElem?_range hi]
  show l.getD (i + 1) 0 * (((i + 1:Nat):Int):Rat) = _
  rw [Rat.intCast_natCast,Rat.mul_comm]
 ·rw [List.getD_eq_getElem?_getD,List.getElem?_eq_none (by simp; omega)]
  rw [List.getD_eq_getElem?_getD,List.getElem?_eq_none (by omega)]
  show (0:Rat) = _ * (0:Rat)
  rw [Rat.mul_zero]
set_option maxRecDepth 8000 in
set_option maxHeartbeats 4000000 in
theorem pder_any (ao:Option Addr) (n cap:Nat) (l:List Rat) (w:World) (h:RawL w ⟨ao,n,cap⟩ l) (hn:n≤1000000) (hz:SzL 16777216 l) :
  Does 194 [.slice ao n cap] w SH.v (fun s w'=>NewL w.heap.size w' s (tz (derL l))):=by
 obtain ⟨i0,hi0,hz0,hz1,hz2⟩:=info_parts infoR
 have H:=Hi h
 have HX:=Hi (Ext.refl w)
 have hle:=h.le
 have hmx:=h.max
 have Hlen:=Hi h.len
 simp only at hle hmx Hlen
 have HZ:=Hi hz
 clear h hz
 unfold Does
 go_enter Tryz.func194,Tryz.ntmps194
 by_cases h0:n = 0
 ·subst h0
  have HV:Hid (tz (derL l) = []):=Hi (by rw [List.length_eq_zero_iff.1 Hlen.out]; rfl)
  go_wp2
  go_ret
  exact ⟨⟨none,0,0⟩,rfl,HX.out,by rw [HV.out]; exact NewL.nil _ _⟩
 obtain ⟨m,rfl⟩:∃ m,n = m + 1:=⟨n - 1,by omega⟩
 clear h0
 have hz0':((m:Int) + 1 == 0) = false:=by rw [beq_eq_false_iff_ne]; omega
 go_upto_region 4 with (refine wpList_make rfl (.tmp 10) (.tmp 10) 24 rfl 34 i0 (RH.v default) 3 Tryz.underlying24 hi0 hz0 hz1 _ _ m rfl rfl (by omega) (by omega) (by rw [hz2]; omega) (by omega) ?_; intro w2 hnew hE)
 have KB:=Hi (RBk.make rfl hnew)
 clear hnew
 replace HX:=hE.tr HX
 have hs_w2:=hE.size
 clear hE
 obtain ⟨L,hL⟩:∃ L,L = w.heap.size:=⟨_,rfl⟩
 have hLw:w.heap.size≤L:=by omega
 rw [← hL] at KB ⊢
 clear hL
 go_wp2
 go_loopg [14] m (fun g v wr=>∃ (i:Nat) (rs:List RH),i + g = m∧v = .int .i64 (i:Nat)∧Ext w wr∧RBk wr L rs #[]∧rs.length = m∧PreC wr rs ((List.range i).map (derF l)))
 case atStart=>exact ⟨0,_,by omega,rfl,HX.out,KB.out,by simp,fun j hj=>by simp at hj⟩
 case round =>
  obtain ⟨i,rs,hi,rfl,g1,g4,g5,g6⟩:=hrel
  clear HX KB
  have HX:=Hi g1
  have KB:=Hi g4
  have HRl:=Hi g5
  have PC:=Hi g6
  clear g1 g4 g5 g6
  have HTl:Hid (((List.range i).map (derF l)).length = i):=Hi (by simp)
  try clear f_KB l_KB
  have f_KB:=blk_frozen KB.out
  have l_KB:=(Array.getElem?_eq_some_iff.1 KB.out).1
  by_cases h0:gk = 0
  ·subst h0
   obtain rfl:i = m:=by omega
   have hin:¬ (i:Int) < i:=by omega
   obtain ⟨ts,hts⟩:∃ ts,ts = (List.range i).map (derF l):=⟨_,rfl⟩
   have HV:Hid (tz ts = tz (derL l)):=Hi (by rw [hts]; exact derF_map l Hlen.out)
   have HSz:Hid (SzL 33554432 ts):=Hi (by
    intro q hq
    rw [hts] at hq
    obtain ⟨k,hk,rfl⟩:=List.mem_map.1 hq
    have hk:=List.mem_range.1 hk
    have h1:Sz 16777216 (l.getD (k + 1) 0):=HZ.out.at (by rw [Hlen.out]; omega)
    exact (h1.mul (Sz.int (z:=((k + 1:Nat):Int)) (by rw [Int.natAbs_natCast]; show _ < 4294967296; omega))).mono (by decide))
   rw [← hts] at PC HTl
   clear hts
   have LL:Hid (NewL w.heap.size wr ⟨some ⟨L,0,none⟩,i,i⟩ ts):=Hi (PreC.list PC.out KB.out HRl.out HTl.out hLw (by omega))
   clear KB
   clear PC
   go_wp2_with fail
   refine Calls.mono (pcut_any (some ⟨L,0,none⟩) i i ts _ (LL.out.can.raw HSz.out (by decide))) ?_
   rintro e w1 ⟨x1,rfl,hE,g1⟩
   have G1:=Hi g1
   clear g1
   replace HX:=hE.tr HX
   replace LL:=Hi (LL.out.ext hE)
   have hs_w1:=hE.size
   clear hE
   obtain ⟨q1,q2⟩:=G1.out
   have HQ1:=Hi q1
   have HQ2:=Hi q2
   clear q1 q2 G1
   go_wp2
   go_ret
   refine ⟨⟨some ⟨L,0,none⟩,(tz ts).length,i⟩,rfl,HX.out,?_⟩
   have:=LIn.take LL.out HQ2.out
   rw [← HQ1.out] at this
   rw [← HV.out]
   exact this
  ·have hin:(i:Int) < m:=by omega
   have hin1:(i:Int) + 1 < (m:Int) + 1:=by omega
   obtain ⟨b,off,r,hao,hbl,⟨hc1,hc2,hc3⟩,hP⟩:=(H.out.ext HX.out).cells' (k:=i + 1) (by omega)
   obtain ⟨rneg,ra,rn,rc,rb,rm,rd⟩:=r
   simp only at hc1 hc2 hc3
   subst hao
   have RP:=Hi hP
   clear hP
   have HMp:Hid ((List.range i).map (derF l) ++ [l.getD (i + 1) 0 * (((i + 1:Nat):Int):Rat)] = (List.range (i + 1)).map (derF l)):=Hi (range_snoc' (derF l) i).symm
   go_upto_region 7 with fail
   refine wp_region_front 11 (fun opIx=>match opIx with
    | 9=>.spec RH default RH.v (fun s w'=>CanR w' s ((((i + 1:Nat):Int):Rat)))
    | 10=>.spec RH default RH.v (fun s w'=>CanR w' s (l.getD (i + 1) 0 * (((i + 1:Nat):Int):Rat)))
    | _=>.quiet) (fun | 10=>[9] | _=>[]) (by kernel_rfl) (by kernel_rfl) (fun w0 he0 hz0 hc0 hf0=>?_)
   replace he0:=Hi he0
   simp only [pT]
   repeat (refine wpq fun K h=>?_; go_big_quiet_op; refine h _ ?_; clear h K)
   refine wps he0.out rfl rfl (fun w1 hW hG=>?_) fun x9=>?_
   ·exact spc [.int .i64 ((i + 1:Nat):Int)] Tryz.func128 (rof_any ((i + 1:Nat):Int) _ (by omega) (by omega))
   simp only [pS]
   repeat (refine wpq fun K h=>?_; go_big_quiet_op; refine h _ ?_; clear h K)
   refine wps he0.out rfl rfl (fun w1 hW hG=>?_) fun x10=>?_
   ·have g9:=(hG 9 (by decide):Since _ _).get fun _ e g=>g.ext e
    exact spc [RH.v ⟨rneg,ra,rn,rc,rb,rm,rd⟩,x9.v] Tryz.func130 (rmul_any _ _ _ _ _ (RP.out.ext hW) (g9.raw (Sz.int (by rw [Int.natAbs_natCast]; show _ < 4294967296; omega)) (by decide)))
   simp only [pS]
   repeat (refine wpq fun K h=>?_; go_big_quiet_op; refine h _ ?_; clear h K)
   refine wpF_nil ?_
   intro w5 hI
   have hE:=he0.out.trans hI.ext
   have G9:=Hi ((hI.facts 9:Since _ _).get fun _ e g=>g.ext e)
   have G10:=Hi ((hI.facts 10:Since _ _).get fun _ e g=>g.ext e)
   clear hI he0 hz0 hc0 hf0
   replace HX:=hE.tr HX
   replace PC:=Hi (PC.out.ext hE)
   replace KB:=hE.bl KB
   have hs_w5:=hE.size
   clear hE
   try clear f_KB l_KB
   have f_KB:=blk_frozen KB.out
   have l_KB:=(Array.getElem?_eq_some_iff.1 KB.out).1
   simp only [pD]
   obtain ⟨f1,f2,f3⟩:=RBk.at (re:=#[]) KB.out (k:=i) (by rw [HRl.out]; omega)
   go_upto_region 8 with fail
   refine nm_rat (k:=i) KB.out rfl (by rw [HRl.out]; omega) ?_
   intro y6 T
   clear f1 f2 f3 hc1 hc2 hc3
   replace HX:=Hi (T.ext HX.out (by omega))
   replace PC:=Hi (PC.out.keep T.keep)
   replace KB:=Hi (T.bx)
   replace G9:=Hi (G9.out.keep T.keep)
   replace G10:=Hi (G10.out.keep T.keep)
   have hs_y6:=nle T.size
   have hr_y6:=nle T.size.symm
   clear T
   try clear f_KB l_KB
   have f_KB:=blk_frozen KB.out
   have l_KB:=(Array.getElem?_eq_some_iff.1 KB.out).1
   replace PC:=Hi (PC.out.snoc (x:=x10) (i:=i) HTl.out (by rw [HRl.out]; omega) G10.out)
   rw [HMp.out] at PC
   go_wp2
   go_roundg (gk - 1)
   case measure=>omega
   case rel=>exact ⟨i + 1,_,by omega,by go_num,HX.out,KB.out,by rw [List.length_set]; exact HRl.out,PC.out⟩
end Go.Proofs.YtcbgamclcgcodaaGreat
