/- ResponseSeries returns true. -/
import Derived.Test.YtdchjfcklppmgaaGreatQAwk20
import Derived.Test.YtdchjfcklppmgaaGreatQFil2
import Derived.Test.YtdchjfcklppmgaaGreatQFil3
set_option linter.unusedVariables false
namespace Go.Proofs.YtdchjfcklppmgaaGreat
open Go.RowKit Go.Front Go.Num Stab
attribute [local go_sem] XW.cell XW.frozen
theorem ratQs_sz (xs : List Int) : SzL 1 (xs.map ratQ) := fun q hq => by obtain ⟨n, -, rfl⟩ := List.mem_map.1 hq; exact ratQ_sz n
set_option maxRecDepth 8000 in
set_option maxHeartbeats 8000000 in
theorem serieslaw_any (bo ko co mo xo : Option Addr) (bc kc cc mc xc : Nat) (bs ks cs ms xs : List Int) (w : World)
  (h0 : IntsAt w bo bs) (r0 : InR bs) (l0 : bs.length ≤ 9223372036854775807) (c0 : bs.length ≤ bc) (m0 : bc ≤ 9223372036854775807)
  (h1 : IntsAt w ko ks) (r1 : InR ks) (l1 : ks.length ≤ 9223372036854775807) (c1 : ks.length ≤ kc) (m1 : kc ≤ 9223372036854775807)
  (h2 : IntsAt w co cs) (r2 : InR cs) (l2 : cs.length ≤ 9223372036854775807) (c2 : cs.length ≤ cc) (m2 : cc ≤ 9223372036854775807)
  (h3 : IntsAt w mo ms) (r3 : InR ms) (l3 : ms.length ≤ 9223372036854775807) (c3 : ms.length ≤ mc) (m3 : mc ≤ 9223372036854775807)
  (h4 : IntsAt w xo xs) (r4 : InR xs) (l4 : xs.length ≤ 9223372036854775807) (c4 : xs.length ≤ xc) (m4 : xc ≤ 9223372036854775807) :
  Does 12 [.slice bo bs.length bc, .slice ko ks.length kc, .slice co cs.length cc, .slice mo ms.length mc, .slice xo xs.length xc] w (fun _ : Unit => .bool true) (fun _ _ => True) := by
 have HX := Hi (Ext.refl w)
 have HC1 : Hid (∀ w1, Ext w w1 → Does 65 [.slice bo bs.length bc, .slice ko ks.length kc] w1 FH.v (fun f w' => CanF w' f (filB bs) (filA ks))) := Hi (fun w1 hE => filter_any bo ko bc kc bs ks w1 (h0.ext hE) r0 l0 c0 m0 (h1.ext hE) r1 l1 c1 m1)
 have HC2 : Hid (∀ w1, Ext w w1 → Does 65 [.slice co cs.length cc, .slice mo ms.length mc] w1 FH.v (fun f w' => CanF w' f (filB cs) (filA ms))) := Hi (fun w1 hE => filter_any co mo cc mc cs ms w1 (h2.ext hE) r2 l2 c2 m2 (h3.ext hE) r3 l3 c3 m3)
 have HC3 : Hid (xs.length ≤ 8 → ∀ w1, Ext w w1 → Does 73 [.slice xo xs.length xc] w1 SH.v (fun s w' => NewL w1.heap.size w' s (xs.map ratQ))) := Hi (fun h8 w1 hE => rats_any xo xc xs w1 (h4.ext hE) r4 (by omega) c4 m4)
 have P1 := Hi (fil_p bs ks)
 have P2 := Hi (fil_p cs ms)
 have ZX := Hi (ratQs_sz xs)
 have LX : Hid ((xs.map ratQ).length = xs.length) := Hi (List.length_map ..)
 obtain ⟨n0, e0⟩ : ∃ n, n = bs.length := ⟨_, rfl⟩
 obtain ⟨n1, e1⟩ : ∃ n, n = ks.length := ⟨_, rfl⟩
 obtain ⟨n2, e2⟩ : ∃ n, n = cs.length := ⟨_, rfl⟩
 obtain ⟨n3, e3⟩ : ∃ n, n = ms.length := ⟨_, rfl⟩
 obtain ⟨N, e4⟩ : ∃ n, n = xs.length := ⟨_, rfl⟩
 obtain ⟨b, eb⟩ : ∃ b, b = filB bs := ⟨_, rfl⟩
 obtain ⟨a, ea⟩ : ∃ a, a = filA ks := ⟨_, rfl⟩
 obtain ⟨c, ec⟩ : ∃ c, c = filB cs := ⟨_, rfl⟩
 obtain ⟨d, ed⟩ : ∃ d, d = filA ms := ⟨_, rfl⟩
 obtain ⟨x, ex⟩ : ∃ x, x = xs.map ratQ := ⟨_, rfl⟩
 rw [← e0, ← e1, ← eb, ← ea] at HC1
 rw [← e2, ← e3, ← ec, ← ed] at HC2
 rw [← e4, ← ex] at HC3
 rw [← eb, ← ea] at P1
 rw [← ec, ← ed] at P2
 rw [← ex] at ZX
 rw [← ex, ← e4] at LX
 rw [← e0, ← e1, ← e2, ← e3, ← e4]
 clear e0 e1 e2 e3 e4 eb ea ec ed ex h0 r0 l0 c0 m0 h1 r1 l1 c1 m1 h2 r2 l2 c2 m2 h3 r3 l3 c3 m3 h4 r4 l4 c4 m4
 unfold Does
 by_cases h8 : 8 < N
 case pos =>
  have h8i : (8 : Int) < N := by omega
  go_enter Tryz.func12, Tryz.ntmps12
  go_wp2_with fail
  refine Calls.mono (awake20_any _) ?_
  rintro e w1 ⟨x1, rfl, hE, -⟩
  replace HX := hE.tr HX
  have hs_w1 := hE.size
  clear hE
  go_wp2
  go_ret
  exact ⟨(), rfl, HX.out, trivial⟩
 have h8i : ¬ (8 : Int) < N := by omega
 have hN8 : N ≤ 8 := by omega
 replace HC3 := Hi (HC3.out hN8)
 have PS := Hi (P1.out.serp P2.out)
 have PP := Hi (P1.out.parp P2.out)
 have V1 := Hi (P1.out.ser P2.out)
 have V2 := Hi (P1.out.par P2.out)
 have V3 : Hid (runV c d x = (0, runL c d (seq x) N)) := Hi (by rw [runV_ok x P2.out.vf, LX.out])
 have V4 : Hid (runV b a (runL c d (seq x) N) = (0, runL (mul5V b c) (mul5V a d) (seq x) N)) := Hi (by rw [runV_ok _ P1.out.vf, runL_len, run_series P1.out.head P2.out.head])
 have V5 : Hid (runV (mul5V b c) (mul5V a d) x = (0, runL (mul5V b c) (mul5V a d) (seq x) N)) := Hi (by rw [runV_ok x PS.out.vf, LX.out])
 have V6 := Hi (impV_ok P1.out.vf)
 have V7 := Hi (impV_ok P2.out.vf)
 have V8 := Hi (impV_ok PP.out.vf)
 have VS : Hid (∀ n, n < 8 → (runL (add5V (mul5V b d) (mul5V c a)) (mul5V a d) (seq (impL 8)) 8).getD n 0 = (runL b a (seq (impL 8)) 8).getD n 0 + (runL c d (seq (impL 8)) 8).getD n 0) := Hi (run_parallel P1.out.head P2.out.head (seq (impL 8)) 8)
 have V9 := Hi (magV_ok P1.out.vf)
 have V10 := Hi (magV_ok P2.out.vf)
 have V11 := Hi (magV_ok PS.out.vf)
 rw [mag_prod, mag_prod] at V11
 have ZU : Hid (SzL 18432 (runL c d (seq x) N)) := Hi (runL_sz P2.out.zb.sz P2.out.za.sz ZX.out (by decide) (by decide) (by decide) (Nat.le_refl _) (Nat.le_refl _) (runK_le (Nat.le_refl 7) (Nat.le_refl 7) (Nat.le_refl 1) P2.out.lb P2.out.la hN8 (by decide)))
 have ZI1 : Hid (SzL 18432 (runL b a (seq (impL 8)) 8)) := Hi (runL_sz P1.out.zb.sz P1.out.za.sz (impL_sz 8) (by decide) (by decide) (by decide) (Nat.le_refl _) (Nat.le_refl _) (runK_le (Nat.le_refl 7) (Nat.le_refl 7) (Nat.le_refl 1) P1.out.lb P1.out.la (Nat.le_refl 8) (by decide)))
 have ZI2 : Hid (SzL 18432 (runL c d (seq (impL 8)) 8)) := Hi (runL_sz P2.out.zb.sz P2.out.za.sz (impL_sz 8) (by decide) (by decide) (by decide) (Nat.le_refl _) (Nat.le_refl _) (runK_le (Nat.le_refl 7) (Nat.le_refl 7) (Nat.le_refl 1) P2.out.lb P2.out.la (Nat.le_refl 8) (by decide)))
 have ZI3 : Hid (SzL 200000 (runL (add5V (mul5V b d) (mul5V c a)) (mul5V a d) (seq (impL 8)) 8)) := Hi (runL_sz PP.out.zb.sz PP.out.za.sz (impL_sz 8) (by decide) (by decide) (by decide) (Nat.le_refl _) (Nat.le_refl _) (runK_le (Nat.le_refl 31) (Nat.le_refl 31) (Nat.le_refl 1) PP.out.lb PP.out.la (Nat.le_refl 8) (by decide)))
 have K1 : Hid (runK 7 7 1 (tz c).length (tz d).length * 2 ^ N ≤ 60000000) := Hi (by rw [P2.out.tb, P2.out.ta]; exact runK_le (Nat.le_refl 7) (Nat.le_refl 7) (Nat.le_refl 1) P2.out.lb P2.out.la hN8 (by decide))
 have K2 : Hid (runK 7 7 18432 (tz b).length (tz a).length * 2 ^ N ≤ 60000000) := Hi (by rw [P1.out.tb, P1.out.ta]; exact runK_le (Nat.le_refl 7) (Nat.le_refl 7) (Nat.le_refl 18432) P1.out.lb P1.out.la hN8 (by decide))
 have K3 : Hid (runK 31 31 1 (tz (mul5V b c)).length (tz (mul5V a d)).length * 2 ^ N ≤ 60000000) := Hi (by rw [PS.out.tb, PS.out.ta]; exact runK_le (Nat.le_refl 31) (Nat.le_refl 31) (Nat.le_refl 1) PS.out.lb PS.out.la hN8 (by decide))
 have K4 : Hid (runK 7 7 1 (tz b).length (tz a).length * 2 ^ 8 ≤ 60000000) := Hi (by rw [P1.out.tb, P1.out.ta]; exact runK_le (Nat.le_refl 7) (Nat.le_refl 7) (Nat.le_refl 1) P1.out.lb P1.out.la (Nat.le_refl 8) (by decide))
 have K5 : Hid (runK 7 7 1 (tz c).length (tz d).length * 2 ^ 8 ≤ 60000000) := Hi (by rw [P2.out.tb, P2.out.ta]; exact runK_le (Nat.le_refl 7) (Nat.le_refl 7) (Nat.le_refl 1) P2.out.lb P2.out.la (Nat.le_refl 8) (by decide))
 have K6 : Hid (runK 31 31 1 (tz (add5V (mul5V b d) (mul5V c a))).length (tz (mul5V a d)).length * 2 ^ 8 ≤ 60000000) := Hi (by rw [PP.out.tb, PP.out.ta]; exact runK_le (Nat.le_refl 31) (Nat.le_refl 31) (Nat.le_refl 1) PP.out.lb PP.out.la (Nat.le_refl 8) (by decide))
 have M1 : Hid (SzL 400 (crossV b b) ∧ SzL 400 (crossV a a) ∧ SzL 400 (crossV c c) ∧ SzL 400 (crossV d d)) := Hi ⟨((P1.out.zb.cross P1.out.zb (by have := P1.out.lb; omega) (by have := P1.out.lb; omega)).mono (by decide)).sz, ((P1.out.za.cross P1.out.za (by have := P1.out.la; omega) (by have := P1.out.la; omega)).mono (by decide)).sz, ((P2.out.zb.cross P2.out.zb (by have := P2.out.lb; omega) (by have := P2.out.lb; omega)).mono (by decide)).sz, ((P2.out.za.cross P2.out.za (by have := P2.out.la; omega) (by have := P2.out.la; omega)).mono (by decide)).sz⟩
 have M2 : Hid ((crossV b b).length ≤ 4 ∧ (crossV a a).length ≤ 4 ∧ (crossV c c).length ≤ 4 ∧ (crossV d d).length ≤ 4) := Hi ⟨cross_len P1.out.lb P1.out.lb, cross_len P1.out.la P1.out.la, cross_len P2.out.lb P2.out.lb, cross_len P2.out.la P2.out.la⟩
 go_enter Tryz.func12, Tryz.ntmps12
 go_wp2_with fail
 refine Calls.mono (HC1.out _ HX.out) ?_
 rintro e w1 ⟨x1, rfl, hE, g1⟩
 have G1 := Hi g1
 clear g1
 replace HX := hE.tr HX
 have hs_w1 := hE.size
 clear hE
 obtain ⟨⟨ba, bn, bc⟩, ⟨aa, an, ac⟩⟩ := x1
 have LB := Hi G1.out.1
 have LA := Hi G1.out.2
 have hbn := G1.out.1.len
 have han := G1.out.2.len
 clear G1
 simp only at hbn han
 have hbl := P1.out.lb
 have hal := P1.out.la
 rw [hbn] at hbl
 rw [han] at hal
 clear hbn han
 simp only [FH.v, SH.v]
 go_wp2_with fail
 refine Calls.mono (HC2.out _ HX.out) ?_
 rintro e w2 ⟨x2, rfl, hE, g2⟩
 have G2 := Hi g2
 clear g2
 replace HX := hE.tr HX
 replace LB := Hi (LB.out.ext hE)
 replace LA := Hi (LA.out.ext hE)
 have hs_w2 := hE.size
 clear hE
 obtain ⟨⟨ca, cn, cc⟩, ⟨da, dn, dc⟩⟩ := x2
 have LC := Hi G2.out.1
 have LD := Hi G2.out.2
 have hcn := G2.out.1.len
 have hdn := G2.out.2.len
 clear G2
 simp only at hcn hdn
 have hcl := P2.out.lb
 have hdl := P2.out.la
 rw [hcn] at hcl
 rw [hdn] at hdl
 clear hcn hdn
 simp only [FH.v, SH.v]
 go_upto_region 4 with fail
 refine nm_alloc2 ?_
 intro w3 hE hB0 hB1 hz
 have hz_w3 := nle hz
 have hr_w3 := nle hz.symm
 clear hz
 replace HX := hE.tr HX
 replace LB := Hi (LB.out.ext hE)
 replace LA := Hi (LA.out.ext hE)
 replace LC := Hi (LC.out.ext hE)
 replace LD := Hi (LD.out.ext hE)
 have hs_w3 := hE.size
 clear hE
 have B11 := Hi hB0
 clear hB0
 obtain ⟨c_B11, f_B11, l_B11⟩ := blk3 B11.out
 have B12 := Hi hB1
 clear hB1
 obtain ⟨c_B12, f_B12, l_B12⟩ := blk3 B12.out
 go_wp2_with fail
 refine Calls.mono (HC3.out _ HX.out) ?_
 rintro e w4 ⟨x4, rfl, hE, g4⟩
 have G4 := Hi g4
 clear g4
 replace HX := hE.tr HX
 replace LB := Hi (LB.out.ext hE)
 replace LA := Hi (LA.out.ext hE)
 replace LC := Hi (LC.out.ext hE)
 replace LD := Hi (LD.out.ext hE)
 replace B11 := hE.bl B11
 replace B12 := hE.bl B12
 have hs_w4 := hE.size
 clear hE
 try clear c_B11 f_B11 l_B11
 obtain ⟨c_B11, f_B11, l_B11⟩ := blk3 B11.out
 try clear c_B12 f_B12 l_B12
 obtain ⟨c_B12, f_B12, l_B12⟩ := blk3 B12.out
 obtain ⟨xa, xn, xc⟩ := x4
 have LI := Hi G4.out.can
 have hxn := G4.out.len
 simp only at hxn
 rw [LX.out] at hxn
 subst hxn
 clear G4
 simp only [SH.v]
 have RF1 : Hid (RawF w4 ⟨⟨ba, bn, bc⟩, ⟨aa, an, ac⟩⟩ b a) := Hi ⟨LB.out.raw P1.out.zb.sz (by decide), LA.out.raw P1.out.za.sz (by decide)⟩
 have RF2 : Hid (RawF w4 ⟨⟨ca, cn, cc⟩, ⟨da, dn, dc⟩⟩ c d) := Hi ⟨LC.out.raw P2.out.zb.sz (by decide), LD.out.raw P2.out.za.sz (by decide)⟩
 have RX : Hid (RawL w4 ⟨xa, N, xc⟩ x) := Hi (LI.out.raw ZX.out (by decide))
 clear LB
 clear LA
 clear LC
 clear LD
 clear LI
 go_wp2_with fail
 refine Calls.mono (series20_any ⟨⟨ba, bn, bc⟩, ⟨aa, an, ac⟩⟩ ⟨⟨ca, cn, cc⟩, ⟨da, dn, dc⟩⟩ b a c d 7 _ RF1.out RF2.out ⟨by simp only; omega, by simp only; omega⟩ ⟨by simp only; omega, by simp only; omega⟩ P1.out.zb P1.out.za P2.out.zb P2.out.za (by decide)) ?_
 rintro e w5 ⟨x5, rfl, hE, g5⟩
 have G5 := Hi g5
 clear g5
 replace HX := hE.tr HX
 replace B11 := hE.bl B11
 replace B12 := hE.bl B12
 replace RF1 := Hi (RF1.out.ext hE)
 replace RF2 := Hi (RF2.out.ext hE)
 replace RX := Hi (RX.out.ext hE)
 have hs_w5 := hE.size
 clear hE
 try clear c_B11 f_B11 l_B11
 obtain ⟨c_B11, f_B11, l_B11⟩ := blk3 B11.out
 try clear c_B12 f_B12 l_B12
 obtain ⟨c_B12, f_B12, l_B12⟩ := blk3 B12.out
 obtain ⟨⟨⟨sa, sn, sc⟩, ⟨ta, tn, tc⟩⟩, e5⟩ := x5
 obtain ⟨he, h1, h2⟩ := G5.out
 rw [V1.out] at he h1 h2
 simp only at he h1 h2
 subst he
 have l1 := h1.len
 have l2 := h2.len
 simp only at l1 l2
 have hsl := PS.out.lb
 have htl := PS.out.la
 rw [l1] at hsl
 rw [l2] at htl
 have RS1 : Hid (RawF w5 ⟨⟨sa, sn, sc⟩, ⟨ta, tn, tc⟩⟩ (mul5V b c) (mul5V a d)) := Hi ⟨h1.raw PS.out.zb.sz (by decide), h2.raw PS.out.za.sz (by decide)⟩
 clear h1 h2 l1 l2 G5
 simp only [FE, FH.v, SH.v]
 go_upto_region 6 with fail
 refine nm_alloc ?_
 intro w6 hE hB0 hz
 have hz_w6 := nle hz
 have hr_w6 := nle hz.symm
 clear hz
 replace HX := hE.tr HX
 replace B11 := hE.bl B11
 replace B12 := hE.bl B12
 replace RF1 := Hi (RF1.out.ext hE)
 replace RF2 := Hi (RF2.out.ext hE)
 replace RX := Hi (RX.out.ext hE)
 replace RS1 := Hi (RS1.out.ext hE)
 have hs_w6 := hE.size
 clear hE
 try clear c_B11 f_B11 l_B11
 obtain ⟨c_B11, f_B11, l_B11⟩ := blk3 B11.out
 try clear c_B12 f_B12 l_B12
 obtain ⟨c_B12, f_B12, l_B12⟩ := blk3 B12.out
 have B14 := Hi hB0
 clear hB0
 obtain ⟨c_B14, f_B14, l_B14⟩ := blk3 B14.out
 go_wp2_with fail
 refine Calls.mono (parallel20_any ⟨⟨ba, bn, bc⟩, ⟨aa, an, ac⟩⟩ ⟨⟨ca, cn, cc⟩, ⟨da, dn, dc⟩⟩ b a c d 7 _ RF1.out RF2.out ⟨by simp only; omega, by simp only; omega⟩ ⟨by simp only; omega, by simp only; omega⟩ P1.out.zb P1.out.za P2.out.zb P2.out.za (by decide)) ?_
 rintro e w7 ⟨x7, rfl, hE, g7⟩
 have G7 := Hi g7
 clear g7
 replace HX := hE.tr HX
 replace B11 := hE.bl B11
 replace B12 := hE.bl B12
 replace RF1 := Hi (RF1.out.ext hE)
 replace RF2 := Hi (RF2.out.ext hE)
 replace RX := Hi (RX.out.ext hE)
 replace RS1 := Hi (RS1.out.ext hE)
 replace B14 := hE.bl B14
 have hs_w7 := hE.size
 clear hE
 try clear c_B11 f_B11 l_B11
 obtain ⟨c_B11, f_B11, l_B11⟩ := blk3 B11.out
 try clear c_B12 f_B12 l_B12
 obtain ⟨c_B12, f_B12, l_B12⟩ := blk3 B12.out
 try clear c_B14 f_B14 l_B14
 obtain ⟨c_B14, f_B14, l_B14⟩ := blk3 B14.out
 obtain ⟨⟨⟨pa, pn, pc⟩, ⟨qa, qn, qc⟩⟩, e7⟩ := x7
 obtain ⟨he, h1, h2⟩ := G7.out
 rw [V2.out] at he h1 h2
 simp only at he h1 h2
 subst he
 have l1 := h1.len
 have l2 := h2.len
 simp only at l1 l2
 have hpl := PP.out.lb
 have hql := PP.out.la
 rw [l1] at hpl
 rw [l2] at hql
 have RP1 : Hid (RawF w7 ⟨⟨pa, pn, pc⟩, ⟨qa, qn, qc⟩⟩ (add5V (mul5V b d) (mul5V c a)) (mul5V a d)) := Hi ⟨h1.raw PP.out.zb.sz (by decide), h2.raw PP.out.za.sz (by decide)⟩
 clear h1 h2 l1 l2 G7
 simp only [FE, FH.v, SH.v]
 go_upto_region 7 with fail
 refine nm_alloc ?_
 intro w8 hE hB0 hz
 have hz_w8 := nle hz
 have hr_w8 := nle hz.symm
 clear hz
 replace HX := hE.tr HX
 replace B11 := hE.bl B11
 replace B12 := hE.bl B12
 replace RF1 := Hi (RF1.out.ext hE)
 replace RF2 := Hi (RF2.out.ext hE)
 replace RX := Hi (RX.out.ext hE)
 replace RS1 := Hi (RS1.out.ext hE)
 replace B14 := hE.bl B14
 replace RP1 := Hi (RP1.out.ext hE)
 have hs_w8 := hE.size
 clear hE
 try clear c_B11 f_B11 l_B11
 obtain ⟨c_B11, f_B11, l_B11⟩ := blk3 B11.out
 try clear c_B12 f_B12 l_B12
 obtain ⟨c_B12, f_B12, l_B12⟩ := blk3 B12.out
 try clear c_B14 f_B14 l_B14
 obtain ⟨c_B14, f_B14, l_B14⟩ := blk3 B14.out
 have B16 := Hi hB0
 clear hB0
 obtain ⟨c_B16, f_B16, l_B16⟩ := blk3 B16.out
 go_wp2_with fail
 refine Calls.mono (run20_any ⟨⟨ca, cn, cc⟩, ⟨da, dn, dc⟩⟩ xa N xc c d x 7 7 1 _ RF2.out RX.out (by simp only; omega) (by simp only; omega) (by omega) P2.out.zb.sz P2.out.za.sz ZX.out (by decide) (by decide) (by decide) (by decide) (by decide) (by decide) K1.out) ?_
 rintro e w9 ⟨x9, rfl, hE, g9⟩
 have G9 := Hi g9
 clear g9
 replace HX := hE.tr HX
 replace B11 := hE.bl B11
 replace B12 := hE.bl B12
 replace RF1 := Hi (RF1.out.ext hE)
 replace RF2 := Hi (RF2.out.ext hE)
 replace RX := Hi (RX.out.ext hE)
 replace RS1 := Hi (RS1.out.ext hE)
 replace B14 := hE.bl B14
 replace RP1 := Hi (RP1.out.ext hE)
 replace B16 := hE.bl B16
 have hs_w9 := hE.size
 clear hE
 try clear c_B11 f_B11 l_B11
 obtain ⟨c_B11, f_B11, l_B11⟩ := blk3 B11.out
 try clear c_B12 f_B12 l_B12
 obtain ⟨c_B12, f_B12, l_B12⟩ := blk3 B12.out
 try clear c_B14 f_B14 l_B14
 obtain ⟨c_B14, f_B14, l_B14⟩ := blk3 B14.out
 try clear c_B16 f_B16 l_B16
 obtain ⟨c_B16, f_B16, l_B16⟩ := blk3 B16.out
 obtain ⟨⟨ua, un, uc⟩, e9⟩ := x9
 obtain ⟨he, h1⟩ := G9.out
 rw [V3.out] at he h1
 simp only at he h1
 subst he
 have l1 := h1.len
 rw [runL_len] at l1
 simp only at l1
 subst l1
 have RU : Hid (RawL w9 ⟨ua, N, uc⟩ (runL c d (seq x) N)) := Hi (h1.raw ZU.out (by decide))
 clear h1 G9
 simp only [RF, SH.v]
 go_wp2_with fail
 refine Calls.mono (run20_any ⟨⟨ba, bn, bc⟩, ⟨aa, an, ac⟩⟩ ua N uc b a (runL c d (seq x) N) 7 7 18432 _ RF1.out RU.out (by simp only; omega) (by simp only; omega) (by omega) P1.out.zb.sz P1.out.za.sz ZU.out (by decide) (by decide) (by decide) (by decide) (by decide) (by decide) K2.out) ?_
 rintro e w10 ⟨x10, rfl, hE, g10⟩
 have G10 := Hi g10
 clear g10
 replace HX := hE.tr HX
 replace B11 := hE.bl B11
 replace B12 := hE.bl B12
 replace RF1 := Hi (RF1.out.ext hE)
 replace RF2 := Hi (RF2.out.ext hE)
 replace RX := Hi (RX.out.ext hE)
 replace RS1 := Hi (RS1.out.ext hE)
 replace B14 := hE.bl B14
 replace RP1 := Hi (RP1.out.ext hE)
 replace B16 := hE.bl B16
 replace RU := Hi (RU.out.ext hE)
 have hs_w10 := hE.size
 clear hE
 try clear c_B11 f_B11 l_B11
 obtain ⟨c_B11, f_B11, l_B11⟩ := blk3 B11.out
 try clear c_B12 f_B12 l_B12
 obtain ⟨c_B12, f_B12, l_B12⟩ := blk3 B12.out
 try clear c_B14 f_B14 l_B14
 obtain ⟨c_B14, f_B14, l_B14⟩ := blk3 B14.out
 try clear c_B16 f_B16 l_B16
 obtain ⟨c_B16, f_B16, l_B16⟩ := blk3 B16.out
 obtain ⟨⟨va, vn, vc⟩, e10⟩ := x10
 obtain ⟨he, h1⟩ := G10.out
 rw [V4.out] at he h1
 simp only at he h1
 subst he
 have LV := Hi h1
 clear h1 G10
 simp only [RF, SH.v]
 go_wp2_with fail
 refine Calls.mono (run20_any ⟨⟨sa, sn, sc⟩, ⟨ta, tn, tc⟩⟩ xa N xc (mul5V b c) (mul5V a d) x 31 31 1 _ RS1.out RX.out (by simp only; omega) (by simp only; omega) (by omega) PS.out.zb.sz PS.out.za.sz ZX.out (by decide) (by decide) (by decide) (by decide) (by decide) (by decide) K3.out) ?_
 rintro e w11 ⟨x11, rfl, hE, g11⟩
 have G11 := Hi g11
 clear g11
 replace HX := hE.tr HX
 replace B11 := hE.bl B11
 replace B12 := hE.bl B12
 replace RF1 := Hi (RF1.out.ext hE)
 replace RF2 := Hi (RF2.out.ext hE)
 replace RX := Hi (RX.out.ext hE)
 replace RS1 := Hi (RS1.out.ext hE)
 replace B14 := hE.bl B14
 replace RP1 := Hi (RP1.out.ext hE)
 replace B16 := hE.bl B16
 replace RU := Hi (RU.out.ext hE)
 replace LV := Hi (LV.out.ext hE)
 have hs_w11 := hE.size
 clear hE
 try clear c_B11 f_B11 l_B11
 obtain ⟨c_B11, f_B11, l_B11⟩ := blk3 B11.out
 try clear c_B12 f_B12 l_B12
 obtain ⟨c_B12, f_B12, l_B12⟩ := blk3 B12.out
 try clear c_B14 f_B14 l_B14
 obtain ⟨c_B14, f_B14, l_B14⟩ := blk3 B14.out
 try clear c_B16 f_B16 l_B16
 obtain ⟨c_B16, f_B16, l_B16⟩ := blk3 B16.out
 obtain ⟨⟨wa, wn, wc⟩, e11⟩ := x11
 obtain ⟨he, h1⟩ := G11.out
 rw [V5.out] at he h1
 simp only at he h1
 subst he
 have LW := Hi h1
 clear h1 G11
 simp only [RF, SH.v]
 go_wp2_with fail
 refine Calls.mono (samelist_any ⟨va, vn, vc⟩ ⟨wa, wn, wc⟩ _ _ _ LV.out LW.out) ?_
 rintro e w12 ⟨x12, rfl, hE, -⟩
 replace HX := hE.tr HX
 replace B11 := hE.bl B11
 replace B12 := hE.bl B12
 replace RF1 := Hi (RF1.out.ext hE)
 replace RF2 := Hi (RF2.out.ext hE)
 replace RX := Hi (RX.out.ext hE)
 replace RS1 := Hi (RS1.out.ext hE)
 replace B14 := hE.bl B14
 replace RP1 := Hi (RP1.out.ext hE)
 replace B16 := hE.bl B16
 replace RU := Hi (RU.out.ext hE)
 replace LV := Hi (LV.out.ext hE)
 replace LW := Hi (LW.out.ext hE)
 have hs_w12 := hE.size
 clear hE
 try clear c_B11 f_B11 l_B11
 obtain ⟨c_B11, f_B11, l_B11⟩ := blk3 B11.out
 try clear c_B12 f_B12 l_B12
 obtain ⟨c_B12, f_B12, l_B12⟩ := blk3 B12.out
 try clear c_B14 f_B14 l_B14
 obtain ⟨c_B14, f_B14, l_B14⟩ := blk3 B14.out
 try clear c_B16 f_B16 l_B16
 obtain ⟨c_B16, f_B16, l_B16⟩ := blk3 B16.out
 rw [decide_eq_true rfl]
 clear LV
 clear LW
 clear RU
 go_wp2_with fail
 refine Calls.mono (impulse20_any ⟨⟨ba, bn, bc⟩, ⟨aa, an, ac⟩⟩ b a 8 7 7 _ RF1.out (by simp only; omega) (by simp only; omega) (by decide) (by decide) P1.out.zb.sz P1.out.za.sz (by decide) (by decide) (by decide) (by decide) (fun _ _ => K4.out)) ?_
 rintro e w13 ⟨x13, rfl, hE, g13⟩
 have G13 := Hi g13
 clear g13
 replace HX := hE.tr HX
 replace B11 := hE.bl B11
 replace B12 := hE.bl B12
 replace RF1 := Hi (RF1.out.ext hE)
 replace RF2 := Hi (RF2.out.ext hE)
 replace RX := Hi (RX.out.ext hE)
 replace RS1 := Hi (RS1.out.ext hE)
 replace B14 := hE.bl B14
 replace RP1 := Hi (RP1.out.ext hE)
 replace B16 := hE.bl B16
 have hs_w13 := hE.size
 clear hE
 try clear c_B11 f_B11 l_B11
 obtain ⟨c_B11, f_B11, l_B11⟩ := blk3 B11.out
 try clear c_B12 f_B12 l_B12
 obtain ⟨c_B12, f_B12, l_B12⟩ := blk3 B12.out
 try clear c_B14 f_B14 l_B14
 obtain ⟨c_B14, f_B14, l_B14⟩ := blk3 B14.out
 try clear c_B16 f_B16 l_B16
 obtain ⟨c_B16, f_B16, l_B16⟩ := blk3 B16.out
 obtain ⟨⟨ia, i1, ic⟩, e13⟩ := x13
 obtain ⟨he, h1⟩ := G13.out
 rw [V6.out] at he h1
 simp only at he h1
 subst he
 have l1 := h1.len
 rw [runL_len] at l1
 simp only at l1
 subst l1
 have RI1 : Hid (RawL w13 ⟨ia, 8, ic⟩ (runL b a (seq (impL 8)) 8)) := Hi (h1.raw ZI1.out (by decide))
 clear h1 G13
 simp only [RF, SH.v]
 go_wp2_with fail
 refine Calls.mono (impulse20_any ⟨⟨ca, cn, cc⟩, ⟨da, dn, dc⟩⟩ c d 8 7 7 _ RF2.out (by simp only; omega) (by simp only; omega) (by decide) (by decide) P2.out.zb.sz P2.out.za.sz (by decide) (by decide) (by decide) (by decide) (fun _ _ => K5.out)) ?_
 rintro e w14 ⟨x14, rfl, hE, g14⟩
 have G14 := Hi g14
 clear g14
 replace HX := hE.tr HX
 replace B11 := hE.bl B11
 replace B12 := hE.bl B12
 replace RF1 := Hi (RF1.out.ext hE)
 replace RF2 := Hi (RF2.out.ext hE)
 replace RX := Hi (RX.out.ext hE)
 replace RS1 := Hi (RS1.out.ext hE)
 replace B14 := hE.bl B14
 replace RP1 := Hi (RP1.out.ext hE)
 replace B16 := hE.bl B16
 replace RI1 := Hi (RI1.out.ext hE)
 have hs_w14 := hE.size
 clear hE
 try clear c_B11 f_B11 l_B11
 obtain ⟨c_B11, f_B11, l_B11⟩ := blk3 B11.out
 try clear c_B12 f_B12 l_B12
 obtain ⟨c_B12, f_B12, l_B12⟩ := blk3 B12.out
 try clear c_B14 f_B14 l_B14
 obtain ⟨c_B14, f_B14, l_B14⟩ := blk3 B14.out
 try clear c_B16 f_B16 l_B16
 obtain ⟨c_B16, f_B16, l_B16⟩ := blk3 B16.out
 obtain ⟨⟨ja, j1, jc⟩, e14⟩ := x14
 obtain ⟨he, h1⟩ := G14.out
 rw [V7.out] at he h1
 simp only at he h1
 subst he
 have l1 := h1.len
 rw [runL_len] at l1
 simp only at l1
 subst l1
 have RI2 : Hid (RawL w14 ⟨ja, 8, jc⟩ (runL c d (seq (impL 8)) 8)) := Hi (h1.raw ZI2.out (by decide))
 clear h1 G14
 simp only [RF, SH.v]
 go_wp2_with fail
 refine Calls.mono (impulse20_any ⟨⟨pa, pn, pc⟩, ⟨qa, qn, qc⟩⟩ (add5V (mul5V b d) (mul5V c a)) (mul5V a d) 8 31 31 _ RP1.out (by simp only; omega) (by simp only; omega) (by decide) (by decide) PP.out.zb.sz PP.out.za.sz (by decide) (by decide) (by decide) (by decide) (fun _ _ => K6.out)) ?_
 rintro e w15 ⟨x15, rfl, hE, g15⟩
 have G15 := Hi g15
 clear g15
 replace HX := hE.tr HX
 replace B11 := hE.bl B11
 replace B12 := hE.bl B12
 replace RF1 := Hi (RF1.out.ext hE)
 replace RF2 := Hi (RF2.out.ext hE)
 replace RX := Hi (RX.out.ext hE)
 replace RS1 := Hi (RS1.out.ext hE)
 replace B14 := hE.bl B14
 replace RP1 := Hi (RP1.out.ext hE)
 replace B16 := hE.bl B16
 replace RI1 := Hi (RI1.out.ext hE)
 replace RI2 := Hi (RI2.out.ext hE)
 have hs_w15 := hE.size
 clear hE
 try clear c_B11 f_B11 l_B11
 obtain ⟨c_B11, f_B11, l_B11⟩ := blk3 B11.out
 try clear c_B12 f_B12 l_B12
 obtain ⟨c_B12, f_B12, l_B12⟩ := blk3 B12.out
 try clear c_B14 f_B14 l_B14
 obtain ⟨c_B14, f_B14, l_B14⟩ := blk3 B14.out
 try clear c_B16 f_B16 l_B16
 obtain ⟨c_B16, f_B16, l_B16⟩ := blk3 B16.out
 obtain ⟨⟨ka, k1, kc⟩, e15⟩ := x15
 obtain ⟨he, h1⟩ := G15.out
 rw [V8.out] at he h1
 simp only at he h1
 subst he
 have l1 := h1.len
 rw [runL_len] at l1
 simp only at l1
 subst l1
 have RI3 : Hid (RawL w15 ⟨ka, 8, kc⟩ (runL (add5V (mul5V b d) (mul5V c a)) (mul5V a d) (seq (impL 8)) 8)) := Hi (h1.raw ZI3.out (by decide))
 clear h1 G15
 simp only [RF, SH.v]
 (try clear c_B16 f_B16 l_B16); clear B16
 clear RP1
 clear RX
 have hw15 : w.heap.size ≤ w15.heap.size := by omega
 obtain ⟨b11, hb11⟩ : ∃ b11, b11 = w2.heap.size := ⟨_, rfl⟩
 obtain ⟨b12, hb12⟩ : ∃ b12, b12 = w2.heap.size + 1 := ⟨_, rfl⟩
 obtain ⟨b14, hb14⟩ : ∃ b14, b14 = w5.heap.size := ⟨_, rfl⟩
 rw [← hb12] at B12 ⊢
 rw [← hb11] at B11 ⊢
 rw [← hb14] at B14 ⊢
 clear hb11 hb12 hb14 c_B11 f_B11 l_B11 c_B12 f_B12 l_B12 c_B14 f_B14 l_B14
 have B11s := B11
 have B12s := B12
 have B14s := B14
 have RF1s := RF1
 have RF2s := RF2
 have RS1s := RS1
 have HX0 := HX
 have HX15 := Hi (Ext.refl w15)
 (try clear c_B11 f_B11 l_B11); clear B11
 (try clear c_B12 f_B12 l_B12); clear B12
 (try clear c_B14 f_B14 l_B14); clear B14
 clear RF1
 clear RF2
 clear RS1
 clear HX
 go_wp2
 go_loopg [139] 8 (fun g i wr => ∃ j : Nat, j + g = 8 ∧ i = .int .i64 (j : Nat) ∧ Ext w15 wr)
 case atStart => exact ⟨0, rfl, rfl, Ext.refl _⟩
 case round =>
  obtain ⟨j, hj, rfl, g1⟩ := hrel
  clear HX15
  have RI1w := Hi (RI1.out.ext g1)
  have RI2w := Hi (RI2.out.ext g1)
  have RI3w := Hi (RI3.out.ext g1)
  have HX15 := Hi g1
  clear g1
  by_cases h0 : gk = 0
  case neg =>
   have hj8 : (j : Int) < 8 := by omega
   obtain ⟨y1, f1, r1, q1, hl1, ⟨a1, a2, a3⟩, hP1⟩ := RI1w.out.cells' (k := j) (by omega)
   obtain ⟨y2, f2, r2, q2, hl2, ⟨a4, a5, a6⟩, hP2⟩ := RI2w.out.cells' (k := j) (by omega)
   obtain ⟨y3, f3, r3, q3, hl3, ⟨a7, a8, a9⟩, hP3⟩ := RI3w.out.cells' (k := j) (by omega)
   obtain ⟨r1neg, r1a, r1n, r1c, r1b, r1m, r1d⟩ := r1
   obtain ⟨r2neg, r2a, r2n, r2c, r2b, r2m, r2d⟩ := r2
   obtain ⟨r3neg, r3a, r3n, r3c, r3b, r3m, r3d⟩ := r3
   simp only at q1 q2 q3 a1 a2 a3 a4 a5 a6 a7 a8 a9
   have Q1 := Hi hP1
   have Q2 := Hi hP2
   have Q3 := Hi hP3
   have S1 : Hid (Sz 40000 ((runL b a (seq (impL 8)) 8).getD j 0 + (runL c d (seq (impL 8)) 8).getD j 0)) := Hi (((ZI1.out.getD (by decide) j).add (ZI2.out.getD (by decide) j)).mono (by decide))
   have E1 : Hid (cmpR ((runL (add5V (mul5V b d) (mul5V c a)) (mul5V a d) (seq (impL 8)) 8).getD j 0) ((runL b a (seq (impL 8)) 8).getD j 0 + (runL c d (seq (impL 8)) 8).getD j 0) = 0) := Hi (pcmp_eq.2 (VS.out j (by omega)))
   clear hP1 hP2 hP3
   subst q1 q2 q3
   go_upto_region 20 with fail
   refine wp_region_front 14 (fun opIx => match opIx with
    | 12 => .spec RH default RH.v (fun s w' => CanR w' s ((runL b a (seq (impL 8)) 8).getD j 0 + (runL c d (seq (impL 8)) 8).getD j 0))
    | 13 => .spec Unit () (fun _ => .int .i64 0) (fun _ _ => True)
    | _ => .quiet) (fun | 13 => [12] | _ => []) (by kernel_rfl) (by kernel_rfl) (fun w0 he0 hz0 hc0 hf0 => ?_)
   replace he0 := Hi he0
   simp only [pT]
   repeat (refine wpq fun K h => ?_; go_big_quiet_op; refine h _ ?_; clear h K)
   refine wps he0.out rfl rfl (fun w1 hW hG => ?_) fun x20 => ?_
   ·exact spc [RH.v ⟨r1neg, r1a, r1n, r1c, r1b, r1m, r1d⟩, RH.v ⟨r2neg, r2a, r2n, r2c, r2b, r2m, r2d⟩] Tryz.func40 (radd3_any _ _ _ _ _ (Q1.out.ext hW) (Q2.out.ext hW))
   simp only [pS]
   repeat (refine wpq fun K h => ?_; go_big_quiet_op; refine h _ ?_; clear h K)
   refine wps he0.out rfl rfl (fun w1 hW hG => ?_) fun x21 => ?_
   ·have g20 := (hG 12 (by decide) : Since _ _).get fun _ e g => g.ext e
    exact spc [RH.v ⟨r3neg, r3a, r3n, r3c, r3b, r3m, r3d⟩, x20.v] Tryz.func54 ((by rw [← E1.out]; exact rcmp3_any _ x20 _ _ _ (Q3.out.ext hW) (g20.raw S1.out (by decide))))
   simp only [pS]
   repeat (refine wpq fun K h => ?_; go_big_quiet_op; refine h _ ?_; clear h K)
   refine wpF_nil ?_
   intro y20 hI
   have hE := he0.out.trans hI.ext
   have G20 := Hi ((hI.facts 12 : Since _ _).get fun _ e g => g.ext e)
   clear hI he0 hz0 hc0 hf0
   replace HX15 := hE.tr HX15
   have hs_y20 := hE.size
   clear hE
   simp only [pD]
   go_wp2
   go_roundg (gk - 1)
   case measure => omega
   case rel => exact ⟨j + 1, by omega, by go_num, HX15.out⟩
  subst h0
  obtain rfl : j = 8 := by omega
  have HXw := Hi (HX0.out.trans HX15.out)
  have B11 := Hi (HX15.out.block B11s.out)
  have B12 := Hi (HX15.out.block B12s.out)
  have B14 := Hi (HX15.out.block B14s.out)
  have RF1 := Hi (RF1s.out.ext HX15.out)
  have RF2 := Hi (RF2s.out.ext HX15.out)
  have RS1 := Hi (RS1s.out.ext HX15.out)
  clear RI1w RI2w RI3w
  try clear c_B11 f_B11 l_B11
  obtain ⟨c_B11, f_B11, l_B11⟩ := blk3 B11.out
  try clear c_B12 f_B12 l_B12
  obtain ⟨c_B12, f_B12, l_B12⟩ := blk3 B12.out
  try clear c_B14 f_B14 l_B14
  obtain ⟨c_B14, f_B14, l_B14⟩ := blk3 B14.out
  go_wp2_with fail
  refine Calls.mono (magnitude20_any ⟨⟨ba, bn, bc⟩, ⟨aa, an, ac⟩⟩ b a 7 _ RF1.out ⟨by simp only; omega, by simp only; omega⟩ P1.out.zb.sz P1.out.za.sz (by decide) (by decide)) ?_
  rintro e w30 ⟨x30, rfl, hE, g30⟩
  have G30 := Hi g30
  clear g30
  replace HX15 := hE.tr HX15
  replace HXw := hE.tr HXw
  replace B11 := hE.bl B11
  replace B12 := hE.bl B12
  replace B14 := hE.bl B14
  replace RF1 := Hi (RF1.out.ext hE)
  replace RF2 := Hi (RF2.out.ext hE)
  replace RS1 := Hi (RS1.out.ext hE)
  have hs_w30 := hE.size
  clear hE
  try clear c_B11 f_B11 l_B11
  obtain ⟨c_B11, f_B11, l_B11⟩ := blk3 B11.out
  try clear c_B12 f_B12 l_B12
  obtain ⟨c_B12, f_B12, l_B12⟩ := blk3 B12.out
  try clear c_B14 f_B14 l_B14
  obtain ⟨c_B14, f_B14, l_B14⟩ := blk3 B14.out
  obtain ⟨⟨⟨fa, fn, fc⟩, ⟨ga, gn, gc⟩⟩, e30⟩ := x30
  obtain ⟨he, h1, h2⟩ := G30.out
  rw [V9.out] at he h1 h2
  simp only at he h1 h2
  subst he
  have lf := h1.len
  have lg := h2.len
  simp only at lf lg
  have hfl := M2.out.1
  have hgl := M2.out.2.1
  rw [lf] at hfl
  rw [lg] at hgl
  have RM1 : Hid (RawL w30 ⟨fa, fn, fc⟩ (crossV b b)) := Hi (h1.raw M1.out.1 (by decide))
  have RM2 : Hid (RawL w30 ⟨ga, gn, gc⟩ (crossV a a)) := Hi (h2.raw M1.out.2.1 (by decide))
  clear h1 h2 lf lg G30
  simp only [FE, FH.v, SH.v]
  go_upto_region 24 with fail
  refine nm_alloc ?_
  intro w31 hE hB0 hz
  have hz_w31 := nle hz
  have hr_w31 := nle hz.symm
  clear hz
  replace HX15 := hE.tr HX15
  replace HXw := hE.tr HXw
  replace B11 := hE.bl B11
  replace B12 := hE.bl B12
  replace B14 := hE.bl B14
  replace RF1 := Hi (RF1.out.ext hE)
  replace RF2 := Hi (RF2.out.ext hE)
  replace RS1 := Hi (RS1.out.ext hE)
  replace RM1 := Hi (RM1.out.ext hE)
  replace RM2 := Hi (RM2.out.ext hE)
  have hs_w31 := hE.size
  clear hE
  try clear c_B11 f_B11 l_B11
  obtain ⟨c_B11, f_B11, l_B11⟩ := blk3 B11.out
  try clear c_B12 f_B12 l_B12
  obtain ⟨c_B12, f_B12, l_B12⟩ := blk3 B12.out
  try clear c_B14 f_B14 l_B14
  obtain ⟨c_B14, f_B14, l_B14⟩ := blk3 B14.out
  have B28 := Hi hB0
  clear hB0
  obtain ⟨c_B28, f_B28, l_B28⟩ := blk3 B28.out
  go_wp2_with fail
  refine Calls.mono (magnitude20_any ⟨⟨ca, cn, cc⟩, ⟨da, dn, dc⟩⟩ c d 7 _ RF2.out ⟨by simp only; omega, by simp only; omega⟩ P2.out.zb.sz P2.out.za.sz (by decide) (by decide)) ?_
  rintro e w32 ⟨x32, rfl, hE, g32⟩
  have G32 := Hi g32
  clear g32
  replace HX15 := hE.tr HX15
  replace HXw := hE.tr HXw
  replace B11 := hE.bl B11
  replace B12 := hE.bl B12
  replace B14 := hE.bl B14
  replace RF1 := Hi (RF1.out.ext hE)
  replace RF2 := Hi (RF2.out.ext hE)
  replace RS1 := Hi (RS1.out.ext hE)
  replace RM1 := Hi (RM1.out.ext hE)
  replace RM2 := Hi (RM2.out.ext hE)
  replace B28 := hE.bl B28
  have hs_w32 := hE.size
  clear hE
  try clear c_B11 f_B11 l_B11
  obtain ⟨c_B11, f_B11, l_B11⟩ := blk3 B11.out
  try clear c_B12 f_B12 l_B12
  obtain ⟨c_B12, f_B12, l_B12⟩ := blk3 B12.out
  try clear c_B14 f_B14 l_B14
  obtain ⟨c_B14, f_B14, l_B14⟩ := blk3 B14.out
  try clear c_B28 f_B28 l_B28
  obtain ⟨c_B28, f_B28, l_B28⟩ := blk3 B28.out
  obtain ⟨⟨⟨fa2, fn2, fc2⟩, ⟨ga2, gn2, gc2⟩⟩, e32⟩ := x32
  obtain ⟨he, h1, h2⟩ := G32.out
  rw [V10.out] at he h1 h2
  simp only at he h1 h2
  subst he
  have lf := h1.len
  have lg := h2.len
  simp only at lf lg
  have hfl2 := M2.out.2.2.1
  have hgl2 := M2.out.2.2.2
  rw [lf] at hfl2
  rw [lg] at hgl2
  have RM3 : Hid (RawL w32 ⟨fa2, fn2, fc2⟩ (crossV c c)) := Hi (h1.raw M1.out.2.2.1 (by decide))
  have RM4 : Hid (RawL w32 ⟨ga2, gn2, gc2⟩ (crossV d d)) := Hi (h2.raw M1.out.2.2.2 (by decide))
  clear h1 h2 lf lg G32
  simp only [FE, FH.v, SH.v]
  go_upto_region 25 with fail
  refine nm_alloc ?_
  intro w33 hE hB0 hz
  have hz_w33 := nle hz
  have hr_w33 := nle hz.symm
  clear hz
  replace HX15 := hE.tr HX15
  replace HXw := hE.tr HXw
  replace B11 := hE.bl B11
  replace B12 := hE.bl B12
  replace B14 := hE.bl B14
  replace RF1 := Hi (RF1.out.ext hE)
  replace RF2 := Hi (RF2.out.ext hE)
  replace RS1 := Hi (RS1.out.ext hE)
  replace RM1 := Hi (RM1.out.ext hE)
  replace RM2 := Hi (RM2.out.ext hE)
  replace B28 := hE.bl B28
  replace RM3 := Hi (RM3.out.ext hE)
  replace RM4 := Hi (RM4.out.ext hE)
  have hs_w33 := hE.size
  clear hE
  try clear c_B11 f_B11 l_B11
  obtain ⟨c_B11, f_B11, l_B11⟩ := blk3 B11.out
  try clear c_B12 f_B12 l_B12
  obtain ⟨c_B12, f_B12, l_B12⟩ := blk3 B12.out
  try clear c_B14 f_B14 l_B14
  obtain ⟨c_B14, f_B14, l_B14⟩ := blk3 B14.out
  try clear c_B28 f_B28 l_B28
  obtain ⟨c_B28, f_B28, l_B28⟩ := blk3 B28.out
  have B29 := Hi hB0
  clear hB0
  obtain ⟨c_B29, f_B29, l_B29⟩ := blk3 B29.out
  go_wp2_with fail
  refine Calls.mono (magnitude20_any ⟨⟨sa, sn, sc⟩, ⟨ta, tn, tc⟩⟩ (mul5V b c) (mul5V a d) 31 _ RS1.out ⟨by simp only; omega, by simp only; omega⟩ PS.out.zb.sz PS.out.za.sz (by decide) (by decide)) ?_
  rintro e w34 ⟨x34, rfl, hE, g34⟩
  have G34 := Hi g34
  clear g34
  replace HX15 := hE.tr HX15
  replace HXw := hE.tr HXw
  replace B11 := hE.bl B11
  replace B12 := hE.bl B12
  replace B14 := hE.bl B14
  replace RF1 := Hi (RF1.out.ext hE)
  replace RF2 := Hi (RF2.out.ext hE)
  replace RS1 := Hi (RS1.out.ext hE)
  replace RM1 := Hi (RM1.out.ext hE)
  replace RM2 := Hi (RM2.out.ext hE)
  replace B28 := hE.bl B28
  replace RM3 := Hi (RM3.out.ext hE)
  replace RM4 := Hi (RM4.out.ext hE)
  replace B29 := hE.bl B29
  have hs_w34 := hE.size
  clear hE
  try clear c_B11 f_B11 l_B11
  obtain ⟨c_B11, f_B11, l_B11⟩ := blk3 B11.out
  try clear c_B12 f_B12 l_B12
  obtain ⟨c_B12, f_B12, l_B12⟩ := blk3 B12.out
  try clear c_B14 f_B14 l_B14
  obtain ⟨c_B14, f_B14, l_B14⟩ := blk3 B14.out
  try clear c_B28 f_B28 l_B28
  obtain ⟨c_B28, f_B28, l_B28⟩ := blk3 B28.out
  try clear c_B29 f_B29 l_B29
  obtain ⟨c_B29, f_B29, l_B29⟩ := blk3 B29.out
  obtain ⟨⟨⟨fa3, fn3, fc3⟩, ⟨ga3, gn3, gc3⟩⟩, e34⟩ := x34
  obtain ⟨he, h1, h2⟩ := G34.out
  rw [V11.out] at he h1 h2
  simp only at he h1 h2
  subst he
  have LM5 := Hi h1
  have LM6 := Hi h2
  clear h1 h2 G34
  simp only [FE, FH.v, SH.v]
  go_upto_region 26 with fail
  refine nm_alloc ?_
  intro w35 hE hB0 hz
  have hz_w35 := nle hz
  have hr_w35 := nle hz.symm
  clear hz
  replace HX15 := hE.tr HX15
  replace HXw := hE.tr HXw
  replace B11 := hE.bl B11
  replace B12 := hE.bl B12
  replace B14 := hE.bl B14
  replace RF1 := Hi (RF1.out.ext hE)
  replace RF2 := Hi (RF2.out.ext hE)
  replace RS1 := Hi (RS1.out.ext hE)
  replace RM1 := Hi (RM1.out.ext hE)
  replace RM2 := Hi (RM2.out.ext hE)
  replace B28 := hE.bl B28
  replace RM3 := Hi (RM3.out.ext hE)
  replace RM4 := Hi (RM4.out.ext hE)
  replace B29 := hE.bl B29
  replace LM5 := Hi (LM5.out.ext hE)
  replace LM6 := Hi (LM6.out.ext hE)
  have hs_w35 := hE.size
  clear hE
  try clear c_B11 f_B11 l_B11
  obtain ⟨c_B11, f_B11, l_B11⟩ := blk3 B11.out
  try clear c_B12 f_B12 l_B12
  obtain ⟨c_B12, f_B12, l_B12⟩ := blk3 B12.out
  try clear c_B14 f_B14 l_B14
  obtain ⟨c_B14, f_B14, l_B14⟩ := blk3 B14.out
  try clear c_B28 f_B28 l_B28
  obtain ⟨c_B28, f_B28, l_B28⟩ := blk3 B28.out
  try clear c_B29 f_B29 l_B29
  obtain ⟨c_B29, f_B29, l_B29⟩ := blk3 B29.out
  have B30 := Hi hB0
  clear hB0
  obtain ⟨c_B30, f_B30, l_B30⟩ := blk3 B30.out
  (try clear c_B11 f_B11 l_B11); clear B11
  (try clear c_B12 f_B12 l_B12); clear B12
  (try clear c_B14 f_B14 l_B14); clear B14
  clear RF1
  clear RF2
  clear RS1
  refine wp_region_front 32 (fun opIx => match opIx with
   | 0 => .spec Unit () (fun _ => .bool true) (fun _ _ => True)
   | 20 => .spec (SH) (default) (SH.v) (fun x w' => CanL w' x (mul5V (crossV b b) (crossV c c)))
   | 21 => .spec Unit () (fun _ => .bool true) (fun _ _ => True)
   | 30 => .spec (SH) (default) (SH.v) (fun x w' => CanL w' x (mul5V (crossV a a) (crossV d d)))
   | 31 => .spec Unit () (fun _ => .bool true) (fun _ _ => True)
   | _ => .quiet) (fun | 21 => [20] | 31 => [30] | _ => []) (by kernel_rfl) (by kernel_rfl) (fun w0 he0 hz0 hc0 hf0 => ?_)
  replace he0 := Hi he0
  simp only [pT]
  repeat (refine wpq fun K h => ?_; go_big_quiet_op; refine h _ ?_; clear h K)
  refine wps he0.out rfl rfl (fun w1 hW hG => ?_) fun x40 => ?_
  ·exact spc [] Tryz.func64 (awake20_any _)
  simp only [pS]
  repeat (refine wpq fun K h => ?_; go_big_quiet_op; refine h _ ?_; clear h K)
  refine wps he0.out rfl rfl (fun w1 hW hG => ?_) fun x41 => ?_
  ·exact spc [.slice fa fn fc, .slice fa2 fn2 fc2] Tryz.func25 ((mul5_any fa fa2 fn fc fn2 fc2 (crossV b b) (crossV c c) 400 _ (RM1.out.ext hW) (RM3.out.ext hW) (by omega) (by omega) M1.out.1 M1.out.2.2.1 (by decide)).weak (fun _ _ _ h => h.can))
  simp only [pS]
  repeat (refine wpq fun K h => ?_; go_big_quiet_op; refine h _ ?_; clear h K)
  refine wps he0.out rfl rfl (fun w1 hW hG => ?_) fun x42 => ?_
  ·have g41 := (hG 20 (by decide) : Since _ _).get fun _ e g => g.ext e
   exact spc [.slice fa3 fn3 fc3, x41.v] Tryz.func29 ((by have h := equal_any ⟨fa3, fn3, fc3⟩ x41 _ _ _ (LM5.out.ext hW) g41; rw [decide_eq_true rfl] at h; exact h))
  simp only [pS]
  repeat (refine wpq fun K h => ?_; go_big_quiet_op; refine h _ ?_; clear h K)
  refine wps he0.out rfl rfl (fun w1 hW hG => ?_) fun x43 => ?_
  ·exact spc [.slice ga gn gc, .slice ga2 gn2 gc2] Tryz.func25 ((mul5_any ga ga2 gn gc gn2 gc2 (crossV a a) (crossV d d) 400 _ (RM2.out.ext hW) (RM4.out.ext hW) (by omega) (by omega) M1.out.2.1 M1.out.2.2.2 (by decide)).weak (fun _ _ _ h => h.can))
  simp only [pS]
  repeat (refine wpq fun K h => ?_; go_big_quiet_op; refine h _ ?_; clear h K)
  refine wps he0.out rfl rfl (fun w1 hW hG => ?_) fun x44 => ?_
  ·have g43 := (hG 30 (by decide) : Since _ _).get fun _ e g => g.ext e
   exact spc [.slice ga3 gn3 gc3, x43.v] Tryz.func29 ((by have h := equal_any ⟨ga3, gn3, gc3⟩ x43 _ _ _ (LM6.out.ext hW) g43; rw [decide_eq_true rfl] at h; exact h))
  simp only [pS]
  repeat (refine wpq fun K h => ?_; go_big_quiet_op; refine h _ ?_; clear h K)
  refine wpF_nil ?_
  intro w36 hI
  have hE := he0.out.trans hI.ext
  have G41 := Hi ((hI.facts 20 : Since _ _).get fun _ e g => g.ext e)
  have G43 := Hi ((hI.facts 30 : Since _ _).get fun _ e g => g.ext e)
  clear hI he0 hz0 hc0 hf0
  replace HX15 := hE.tr HX15
  replace HXw := hE.tr HXw
  replace RM1 := Hi (RM1.out.ext hE)
  replace RM2 := Hi (RM2.out.ext hE)
  replace B28 := hE.bl B28
  replace RM3 := Hi (RM3.out.ext hE)
  replace RM4 := Hi (RM4.out.ext hE)
  replace B29 := hE.bl B29
  replace LM5 := Hi (LM5.out.ext hE)
  replace LM6 := Hi (LM6.out.ext hE)
  replace B30 := hE.bl B30
  have hs_w36 := hE.size
  clear hE
  try clear c_B28 f_B28 l_B28
  obtain ⟨c_B28, f_B28, l_B28⟩ := blk3 B28.out
  try clear c_B29 f_B29 l_B29
  obtain ⟨c_B29, f_B29, l_B29⟩ := blk3 B29.out
  try clear c_B30 f_B30 l_B30
  obtain ⟨c_B30, f_B30, l_B30⟩ := blk3 B30.out
  simp only [pD]
  go_wp2
  go_ret
  exact ⟨(), rfl, HXw.out, trivial⟩
end Go.Proofs.YtdchjfcklppmgaaGreat
