/- Filter of make. -/
import Derived.Test.YtpieblkklbilgaaGreatQPFil
import Derived.Test.YtpieblkklbilgaaGreatQPR18
import Derived.Test.YtpieblkklbilgaaGreatQPRp6
set_option linter.unusedVariables false
namespace Go.Proofs.YtpieblkklbilgaaGreat
open Go.RowKit Go.Front Go.Num
attribute [local go_sem] XW.cell XW.frozen
set_option maxRecDepth 8000 in
set_option maxHeartbeats 4000000 in
theorem filter_any (bo ko:Option Addr) (bc kc:Nat) (bs ks:List Int) (w:World) (hb:IntsAt w bo bs) (rb:InR bs) (lb:bs.length≤9223372036854775807) (cb:bs.length≤bc) (mb:bc≤9223372036854775807)
  (hk:IntsAt w ko ks) (rk:InR ks) (lk:ks.length≤9223372036854775807) (ck:ks.length≤kc) (mk:kc≤9223372036854775807) :
  Does 55 [.slice bo bs.length bc,.slice ko ks.length kc] w FH.v (fun f w'=>CanF w' f (filB bs) (filA ks)):=by
 have HX:=Hi (Ext.refl w)
 have HC1:Hid (∀ w1,Ext w w1→Does 126 [.slice ko ks.length kc,.int .i64 ((3:Nat):Int)] w1 SH.v (fun s w'=>NewL w1.heap.size w' s (keL ks))):=Hi (fun w1 hE=>kept_any ko kc 3 ks w1 (hk.ext hE) rk lk (by decide) ck mk)
 have HC2:Hid (∀ w1,Ext w w1→Does 50 [.slice bo bs.length bc,.int .i64 ((3:Nat):Int)] w1 SH.v (fun s w'=>NewL w1.heap.size w' s (filB bs))):=Hi (fun w1 hE=>poly_any bo bc 3 bs w1 (hb.ext hE) rb lb (by decide) cb mb)
 have V1:=Hi (filA_up ks)
 have ZK:=Hi (keL_sz ks)
 have LK:=Hi (keL_len ks)
 obtain ⟨n,hn⟩:∃ n,n=bs.length:=⟨_,rfl⟩
 obtain ⟨m,hm⟩:∃ m,m=ks.length:=⟨_,rfl⟩
 obtain ⟨k,hk'⟩:∃ k,k=keL ks:=⟨_,rfl⟩
 rw [← hm,← hk'] at HC1
 rw [← hn] at HC2
 rw [← hk'] at V1 ZK LK
 rw [← hn,← hm]
 clear hn hm hk' hb rb lb cb hk rk lk ck
 unfold Does
 go_enter Tryz.func55,Tryz.ntmps55
 go_upto_region 1 with fail
 refine nm_alloc ?_
 intro w1 hE hB0 hz
 have hz_w1:=nle hz
 have hr_w1:=nle hz.symm
 clear hz
 replace HX:=hE.tr HX
 have hs_w1:=hE.size
 clear hE
 have B4:=Hi hB0
 clear hB0
 obtain ⟨c_B4,f_B4,l_B4⟩:=blk3 B4.out
 go_wp2_with fail
 refine Calls.mono (HC1.out _ HX.out) ?_
 rintro e w2 ⟨x2,rfl,hE,g2⟩
 have G2:=Hi g2
 clear g2
 replace HX:=hE.tr HX
 replace B4:=hE.bl B4
 have hs_w2:=hE.size
 clear hE
 try clear c_B4 f_B4 l_B4
 obtain ⟨c_B4,f_B4,l_B4⟩:=blk3 B4.out
 obtain ⟨a2,n2,c2⟩:=x2
 have hn2:=G2.out.len
 have hl2:=LK.out
 simp only at hn2
 rw [hn2] at hl2
 clear hn2
 simp only [SH.v]
 go_wp2_with fail
 refine Calls.mono (stepup18_any a2 n2 c2 k _ (G2.out.can.raw ZK.out (by decide)) (upOk ZK.out (by have:=LK.out;omega))) ?_
 rintro e w3 ⟨x3,rfl,hE,g3⟩
 have G3:=Hi g3
 clear g3
 replace HX:=hE.tr HX
 replace B4:=hE.bl B4
 replace G2:=Hi (G2.out.ext hE)
 have hs_w3:=hE.size
 clear hE
 try clear c_B4 f_B4 l_B4
 obtain ⟨c_B4,f_B4,l_B4⟩:=blk3 B4.out
 obtain ⟨⟨a3,n3,c3⟩,e3⟩:=x3
 obtain ⟨he,hl⟩:=G3.out
 rw [V1.out] at he hl
 simp only at he hl
 subst he
 have L3:=Hi hl
 clear hl G3
 simp only [RF,SH.v]
 go_wp2_with fail
 refine Calls.mono (HC2.out _ HX.out) ?_
 rintro e w4 ⟨x4,rfl,hE,g4⟩
 have G4:=Hi g4
 clear g4
 replace HX:=hE.tr HX
 replace B4:=hE.bl B4
 replace G2:=Hi (G2.out.ext hE)
 replace L3:=Hi (L3.out.ext hE)
 have hs_w4:=hE.size
 clear hE
 try clear c_B4 f_B4 l_B4
 obtain ⟨c_B4,f_B4,l_B4⟩:=blk3 B4.out
 obtain ⟨a4,n4,c4⟩:=x4
 simp only [SH.v]
 go_wp2
 refine nm_setF (F:=fun W=>bodyPost _ _ _ _ _ W) B4.out rfl ?_
 intro w5 T
 have L5:=CanL.put2 L3.out B4.out T
 clear L3
 replace HX:=Hi (T.ext HX.out (by omega))
 replace B4:=Hi (T.bx)
 replace G2:=Hi (G2.out.put T (by omega))
 replace G4:=Hi (G4.out.put T (by omega))
 have hs_w5:=nle T.size
 have hr_w5:=nle T.size.symm
 clear T
 try clear c_B4 f_B4 l_B4
 obtain ⟨c_B4,f_B4,l_B4⟩:=blk3 B4.out
 exact bodyPost_ret (v:=FH.v ⟨⟨a4,n4,c4⟩,⟨a3,n3,c3⟩⟩) (by simp [results,Tryz.results55,go_sem,c_B4]) rfl ⟨⟨⟨a4,n4,c4⟩,⟨a3,n3,c3⟩⟩,rfl,HX.out,G4.out.can,L5⟩
end Go.Proofs.YtpieblkklbilgaaGreat
