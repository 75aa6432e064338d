/- Monic of the reference's polynomials. -/
import Derived.Test.YtpieblkklbilgaaGreatQPR5b
import Derived.Test.YtpieblkklbilgaaGreatQPM17
import Derived.Test.YtpieblkklbilgaaGreatQPM10
import Derived.Test.YtpieblkklbilgaaGreatQPM24
set_option linter.unusedVariables false
namespace Go.Proofs.YtpieblkklbilgaaGreat
open Go.RowKit Go.Front Go.Num Stab
attribute [local go_sem] XW.cell XW.frozen
set_option maxRecDepth 8000 in
set_option maxHeartbeats 4000000 in
theorem mon5_any (ao:Option Addr) (n cap:Nat) (l:List Rat) (S:Nat) (w:World) (h:CanL w ⟨ao,n,cap⟩ l) (hn:n≤1000000) (hS:S≤8000000) (hz:SzL S l) :
  Does 210 [.slice ao n cap] w SH.v (fun x w'=>NewL w.heap.size w' x (monV l)):=by
 have HX:=Hi (Ext.refl w)
 have LP:=Hi h.lin
 have HSz:=Hi hz
 have Hlen:=Hi h.len
 simp only at Hlen
 clear h hz
 unfold Does
 go_enter Tryz.func210,Tryz.ntmps210
 go_wp2_with fail
 refine Calls.mono (trim5_any ao n cap l _ (LP.out.can.raw HSz.out (by omega)) (by omega)) ?_
 rintro e w4 ⟨x4,rfl,hE,g4⟩
 have G4:=Hi g4
 clear g4
 replace HX:=hE.tr HX
 replace LP:=Hi (LP.out.ext hE)
 have hs_w4:=hE.size
 clear hE
 obtain ⟨pa,P,pc⟩:=x4
 have hP:=G4.out.len
 simp only at hP
 obtain ⟨p,hp⟩:∃ p,p=tz l:=⟨_,rfl⟩
 rw [← hp] at G4 hP
 have HTZ:=Hi hp
 have HSp:Hid (SzL S p):=Hi (by rw [hp];exact SzL.tz HSz.out)
 have hPn:P≤n:=by rw [← hP,hp,← Hlen.out];exact tz_len_le l
 have hHP:=Hi hP
 have HG:Hid (LIn w4 ⟨pa,P,pc⟩ p w.heap.size w4.heap.size):=Hi G4.out
 clear hp hP Hlen
 clear LP
 clear G4
 simp only [SH.v]
 by_cases h0:P=0
 case pos =>
  subst h0
  have HV:Hid (monV l=[]):=Hi (by unfold monV;rw [if_pos (by rw [← HTZ.out];exact List.length_eq_zero_iff.1 hHP.out)])
  go_wp2
  go_ret
  exact ⟨⟨none,0,0⟩,rfl,HX.out,by rw [HV.out];exact NewL.nil _ _⟩
 obtain ⟨m,rfl⟩:∃ m,P=m+1:=⟨P - 1,by omega⟩
 have hz0:((m:Int)+1 == 0)=false:=by rw [beq_eq_false_iff_ne];omega
 have Hne:Hid (tz l ≠ []):=Hi (by rw [← HTZ.out];intro h;have:=hHP.out;rw [h] at this;simp at this)
 have HL:Hid (lead (tz l)=p.getD m 0):=Hi (by unfold lead;rw [← HTZ.out,hHP.out];rfl)
 have Zc:Hid (Sz S (p.getD m 0)):=Hi (HSp.out.at (by rw [hHP.out];omega))
 have ZI:Hid (Sz (1+S) (((1:Int):Rat) / p.getD m 0)):=Hi ((Sz.int (by decide)).div Zc.out)
 have HV:Hid (monV l=scale5V p (((1:Int):Rat) / p.getD m 0)):=Hi (by unfold monV scale5V;rw [if_neg Hne.out,HL.out,← HTZ.out])
 obtain ⟨b,off,r,hao,hbl,⟨hc1,hc2,hc3⟩,hPc⟩:=HG.out.celx (k:=m) (by omega)
 obtain ⟨rneg,ra,rn,rc,rb,rm,rd⟩:=r
 simp only at hc1 hc2 hc3
 have HC:=Hi hPc
 clear hPc h0
 subst hao
 go_upto_region 4 with fail
 refine wp_region_front 10 (fun opIx=>match opIx with
  | 1=>.spec RH default RH.v (fun s w'=>CanR w' s (((1:Int):Rat)))
  | 8=>.spec RH default RH.v (fun s w'=>CanR w' s (((1:Int):Rat) / p.getD m 0))
  | 9=>.spec (SH) (default) (SH.v) (fun x w'=>NewL w.heap.size w' x (scale5V p (((1:Int):Rat) / p.getD m 0)))
  | _=>.quiet) (fun | 8=>[1] | 9=>[8] | _=>[]) (by kernel_rfl) (by kernel_rfl) (fun w0 he0 hz0 hc0 hf0=>?_)
 replace he0:=Hi he0
 simp only [pT]
 repeat (refine wpq fun K h=>?_;go_big_quiet_op;refine h _ ?_;clear h K)
 refine wps he0.out rfl rfl (fun w1 hW hG=>?_) fun x20=>?_
 ·exact spc [.int .i64 1] Tryz.func66 (rof3_any 1 _ (by decide) (by decide))
 simp only [pS]
 repeat (refine wpq fun K h=>?_;go_big_quiet_op;refine h _ ?_;clear h K)
 refine wps he0.out rfl rfl (fun w1 hW hG=>?_) fun x21=>?_
 ·have g20:=(hG 1 (by decide):Since _ _).get fun _ e g=>g.ext e
  exact spc [x20.v,RH.v ⟨rneg,ra,rn,rc,rb,rm,rd⟩] Tryz.func118 (rover3_any x20 _ _ _ _ (g20.raw (Sz.int (by decide)) (by decide)) ((HC.out.ext hW).raw Zc.out (by omega)))
 simp only [pS]
 repeat (refine wpq fun K h=>?_;go_big_quiet_op;refine h _ ?_;clear h K)
 refine wps he0.out rfl rfl (fun w1 hW hG=>?_) fun x22=>?_
 ·have g21:=(hG 8 (by decide):Since _ _).get fun _ e g=>g.ext e
  exact spc [.slice (some ⟨b,off,none⟩) (m+1:Nat) pc,x21.v] Tryz.func73 ((scale5_any (some ⟨b,off,none⟩) (m+1) pc p x21 (((1:Int):Rat) / p.getD m 0) _ ((HG.out.ext hW).can.raw HSp.out (by omega)) (g21.raw ZI.out (by omega)) (by omega) (HSp.out.mono (by omega)) (ZI.out.mono (by omega))).wk (fun _ _ _ h=>h.mono (by have:=hW.size;omega)))
 simp only [pS]
 repeat (refine wpq fun K h=>?_;go_big_quiet_op;refine h _ ?_;clear h K)
 refine wpF_nil ?_
 intro w5 hI
 have hE:=he0.out.trans hI.ext
 have G20:=Hi ((hI.facts 1:Since _ _).get fun _ e g=>g.ext e)
 have G21:=Hi ((hI.facts 8:Since _ _).get fun _ e g=>g.ext e)
 have G22:=Hi ((hI.facts 9:Since _ _).get fun _ e g=>g.ext e)
 clear hI he0 hz0 hc0 hf0
 replace HX:=hE.tr HX
 replace HG:=Hi (HG.out.ext hE)
 replace HC:=Hi (HC.out.ext hE)
 have hs_w5:=hE.size
 clear hE
 simp only [pD]
 clear hc1 hc2 hc3
 go_wp2
 go_ret
 exact ⟨x22,rfl,HX.out,by rw [HV.out];exact G22.out⟩
end Go.Proofs.YtpieblkklbilgaaGreat
