/- Binomial of the reference 07; Bound of package stability. -/
import Derived.Test.YtpieblkklbilgaaGreatQEPow
import Derived.Test.YtpieblkklbilgaaGreatQEM21
set_option linter.unusedVariables false
namespace Go.Proofs.YtpieblkklbilgaaGreat
open Go.RowKit Go.Front Go.Num
attribute [local go_sem] XW.cell XW.frozen
def bnd (m:Nat):Nat→Rat
 | 0=>1
 | i+1=>bnd m i * (((m+(i+1):Nat):Int):Rat) / (((i+1:Nat):Int):Rat)
theorem bnd_sz {m:Nat} (hm:m≤64):∀ i,i≤100→Sz (2 * i+1) (bnd m i)
 | 0,_=>Sz.one
 | i+1,h=>by
  have h1:=bnd_sz hm i (by omega)
  have h2:Sz 1 (((m+(i+1):Nat):Int):Rat):=Sz.int (by unfold W32;omega)
  have h3:Sz 1 (((i+1:Nat):Int):Rat):=Sz.int (by unfold W32;omega)
  exact ((h1.mul h2).div h3).mono (by omega)
set_option maxRecDepth 8000 in
set_option maxHeartbeats 2000000 in
theorem binom_any (m k:Nat) (z:Int) (w:World) (hm:m≤64) (hk:k≤100) (hz:z=(m:Int)+k) :
  Does 119 [.int .i64 z,.int .i64 (k:Nat)] w RH.v (fun x w'=>CanR w' x (bnd m k)):=by
 have HX:=Hi (Ext.refl w)
 have hzk:z - (k:Int)=m:=by omega
 have hz1:0≤z∧z≤200:=by omega
 clear hz
 unfold Does
 go_enter Tryz.func119,Tryz.ntmps119
 go_upto_region 1 with fail
 refine nm_alloc ?_
 intro w1 hE hB0 hz
 have hz_w1:=nle hz
 have hr_w1:=nle hz.symm
 clear hz
 replace HX:=hE.tr HX
 have hs_w1:=hE.size
 clear hE
 have B4:=Hi hB0
 clear hB0
 obtain ⟨c_B4,f_B4,l_B4⟩:=blk3 B4.out
 go_wp2_with fail
 refine Calls.mono (rof3_any 1 _ (by decide) (by decide)) ?_
 rintro e w2 ⟨x2,rfl,hE,g2⟩
 have G2:=Hi g2
 clear g2
 replace HX:=hE.tr HX
 replace B4:=hE.bl B4
 have hs_w2:=hE.size
 clear hE
 try clear c_B4 f_B4 l_B4
 obtain ⟨c_B4,f_B4,l_B4⟩:=blk3 B4.out
 go_upto_region 2 with fail
 refine nm_alloc ?_
 intro y3 hE hB0 hz
 have hz_y3:=nle hz
 have hr_y3:=nle hz.symm
 clear hz
 replace HX:=hE.tr HX
 replace B4:=hE.bl B4
 replace G2:=Hi (G2.out.ext hE)
 have hs_y3:=hE.size
 clear hE
 try clear c_B4 f_B4 l_B4
 obtain ⟨c_B4,f_B4,l_B4⟩:=blk3 B4.out
 have B5:=Hi hB0
 clear hB0
 obtain ⟨c_B5,f_B5,l_B5⟩:=blk3 B5.out
 obtain ⟨b5,hb5⟩:∃ b,b=w2.heap.size:=⟨_,rfl⟩
 have hb5w:w.heap.size+1≤b5:=by omega
 rw [← hb5] at B5 ⊢
 clear hb5 c_B4 f_B4 l_B4 c_B5 f_B5 l_B5
 have G0:Hid (CanR y3 x2 (bnd m 0)):=G2
 go_wp2
 go_loopg [6] k (fun g v wr=>∃ (j:Nat) (f:RH),j+g=k∧v=.int .i64 ((j:Int)+1)∧Ext w wr∧wr.heap[w.heap.size]?=some (.cells #[.bool false,.slice none 0 0,.slice none 0 0] 30 (0,0))∧wr.heap[b5]?=some (.cells #[.bool f.neg,.slice f.a f.n f.c,.slice f.b f.m f.d] 30 (0,0))∧CanR wr f (bnd m j))
 case atStart=>exact ⟨0,x2,by omega,rfl,HX.out,B4.out,B5.out,G0.out⟩
 case round =>
  obtain ⟨j,f,hj,rfl,g1,g3,g4,g5⟩:=hrel
  clear HX B4 B5 G2 G0
  have HX:=Hi g1
  have B4:=Hi g3
  have B5:=Hi g4
  have GF:=Hi g5
  clear g1 g3 g4 g5
  try clear c_B4 f_B4 l_B4
  obtain ⟨c_B4,f_B4,l_B4⟩:=blk3 B4.out
  try clear c_B5 f_B5 l_B5
  obtain ⟨c_B5,f_B5,l_B5⟩:=blk3 B5.out
  by_cases h0:gk=0
  case pos =>
   subst h0
   obtain rfl:j=k:=by omega
   have hjn:¬ ((j:Int)+1≤j):=by omega
   go_wp2
   have hF:=((((Fin.start (L:=w.heap.size) HX.out (noU_block B4.out rfl)).set (by omega) (i:=0) (v:=.bool f.neg) rfl).set (by omega) (i:=1) (v:=.slice f.a f.n f.c) rfl).set (by omega) (i:=2) (v:=.slice f.b f.m f.d) rfl)
   exact bodyPost_ret (v:=f.v) (by simp [results,Tryz.results119,go_sem,blk_cell B4.out]) rfl ⟨f,rfl,hF.ext,GF.out.keep hF.keep⟩
  have hjn:(j:Int)+1≤k:=by omega
  have ZF:=Hi (bnd_sz hm j (by omega))
  obtain ⟨p1,hp1⟩:∃ p:Nat,p=m+(j+1):=⟨_,rfl⟩
  have hP1:(m:Int)+((j:Int)+1)=(p1:Nat):=by omega
  have hp1b:p1≤1000:=by omega
  have Z1:Hid (Sz 1 (((p1:Nat):Int):Rat)):=Hi (Sz.int (by unfold W32;omega))
  have Z2:Hid (Sz 1 (((j:Int)+1:Int):Rat)):=Hi (Sz.int (by unfold W32;omega))
  have HN:Hid (bnd m j * (((p1:Nat):Int):Rat) / (((j:Int)+1:Int):Rat)=bnd m (j+1)):=Hi (by rw [hp1];rfl)
  clear hp1
  go_upto_region 5 with fail
  refine wp_region_front 11 (fun opIx=>match opIx with
   | 6=>.spec RH default RH.v (fun s w'=>CanR w' s ((((p1:Nat):Int):Rat)))
   | 7=>.spec RH default RH.v (fun s w'=>CanR w' s (bnd m j * (((p1:Nat):Int):Rat)))
   | 9=>.spec RH default RH.v (fun s w'=>CanR w' s ((((j:Int)+1:Int):Rat)))
   | 10=>.spec RH default RH.v (fun s w'=>CanR w' s (bnd m (j+1)))
   | _=>.quiet) (fun | 7=>[6] | 10=>[7,9] | _=>[]) (by kernel_rfl) (by kernel_rfl) (fun w0 he0 hz0 hc0 hf0=>?_)
  replace he0:=Hi he0
  simp only [pT]
  repeat (refine wpq fun K h=>?_;go_big_quiet_op;refine h _ ?_;clear h K)
  refine wps he0.out rfl rfl (fun w1 hW hG=>?_) fun x20=>?_
  ·exact spc [.int .i64 (p1:Nat)] Tryz.func66 (rof3_any (p1:Nat) _ (by omega) (by omega))
  simp only [pS]
  repeat (refine wpq fun K h=>?_;go_big_quiet_op;refine h _ ?_;clear h K)
  refine wps he0.out rfl rfl (fun w1 hW hG=>?_) fun x21=>?_
  ·have g20:=(hG 6 (by decide):Since _ _).get fun _ e g=>g.ext e
   exact spc [f.v,x20.v] Tryz.func38 (rmul3_any f x20 _ _ _ ((GF.out.ext hW).raw ZF.out (by omega)) (g20.raw Z1.out (by decide)))
  simp only [pS]
  repeat (refine wpq fun K h=>?_;go_big_quiet_op;refine h _ ?_;clear h K)
  refine wps he0.out rfl rfl (fun w1 hW hG=>?_) fun x22=>?_
  ·exact spc [.int .i64 ((j:Int)+1)] Tryz.func66 (rof3_any ((j:Int)+1) _ (by omega) (by omega))
  simp only [pS]
  repeat (refine wpq fun K h=>?_;go_big_quiet_op;refine h _ ?_;clear h K)
  refine wps he0.out rfl rfl (fun w1 hW hG=>?_) fun x23=>?_
  ·have g21:=(hG 7 (by decide):Since _ _).get fun _ e g=>g.ext e
   have g22:=(hG 9 (by decide):Since _ _).get fun _ e g=>g.ext e
   exact spc [x21.v,x22.v] Tryz.func118 ((by rw [← HN.out];exact rover3_any x21 x22 _ _ _ (g21.raw (ZF.out.mul Z1.out) (by omega)) (g22.raw Z2.out (by decide))))
  simp only [pS]
  repeat (refine wpq fun K h=>?_;go_big_quiet_op;refine h _ ?_;clear h K)
  refine wpF_nil ?_
  intro w6 hI
  have hE:=he0.out.trans hI.ext
  have G20:=Hi ((hI.facts 6:Since _ _).get fun _ e g=>g.ext e)
  have G21:=Hi ((hI.facts 7:Since _ _).get fun _ e g=>g.ext e)
  have G22:=Hi ((hI.facts 9:Since _ _).get fun _ e g=>g.ext e)
  have G23:=Hi ((hI.facts 10:Since _ _).get fun _ e g=>g.ext e)
  clear hI he0 hz0 hc0 hf0
  replace HX:=hE.tr HX
  replace B4:=hE.bl B4
  replace B5:=hE.bl B5
  replace GF:=Hi (GF.out.ext hE)
  have hs_w6:=hE.size
  clear hE
  try clear c_B4 f_B4 l_B4
  obtain ⟨c_B4,f_B4,l_B4⟩:=blk3 B4.out
  try clear c_B5 f_B5 l_B5
  obtain ⟨c_B5,f_B5,l_B5⟩:=blk3 B5.out
  simp only [pD]
  go_upto_region 4 with fail
  refine nm_set3 B5.out rfl ?_
  intro y7 T
  replace HX:=Hi (T.ext HX.out (by omega))
  replace B4:=Hi (T.rest _ _ (by omega) B4.out)
  replace B5:=Hi (T.bx)
  replace GF:=Hi (GF.out.keep T.keep)
  replace G20:=Hi (G20.out.keep T.keep)
  replace G21:=Hi (G21.out.keep T.keep)
  replace G22:=Hi (G22.out.keep T.keep)
  replace G23:=Hi (G23.out.keep T.keep)
  have hs_y7:=nle T.size
  have hr_y7:=nle T.size.symm
  clear T
  try clear c_B4 f_B4 l_B4
  obtain ⟨c_B4,f_B4,l_B4⟩:=blk3 B4.out
  try clear c_B5 f_B5 l_B5
  obtain ⟨c_B5,f_B5,l_B5⟩:=blk3 B5.out
  clear hP1
  go_wp2
  go_roundg (gk - 1)
  case measure=>omega
  case rel=>exact ⟨j+1,x23,by omega,by go_num,HX.out,B4.out,B5.out,G23.out⟩
end Go.Proofs.YtpieblkklbilgaaGreat
