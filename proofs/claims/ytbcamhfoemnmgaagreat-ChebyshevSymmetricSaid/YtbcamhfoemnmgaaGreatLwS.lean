/- ChebyshevSymmetric returns true. -/
import Derived.Test.YtbcamhfoemnmgaaGreatM13
import Derived.Test.YtbcamhfoemnmgaaGreatM16
import Derived.Test.YtbcamhfoemnmgaaGreatM14
set_option linter.unusedVariables false
namespace Go.Proofs.YtbcamhfoemnmgaaGreat
open Go.RowKit Go.Front Go.Num
attribute [local go_sem] XW.cell XW.frozen
theorem tapL_sz {c : List Rat} {s n : Nat} (h : SzL s c) (hs : 1 ≤ s) : SzL (s + 1) (tapL c n) := by
  intro q hq
  obtain ⟨i, -, rfl⟩ := List.mem_map.1 hq
  unfold tapE
  split
  · exact (h.getD hs 0).mono (by omega)
  · exact (h.getD hs _).mul half_sz
set_option maxRecDepth 8000 in
set_option maxHeartbeats 4000000 in
theorem symmetric_any (ao : Option Addr) (cap : Nat) (xs : List Int) (w : World) (h : IntsAt w ao xs) (hr : InR xs) (hl : xs.length ≤ 9223372036854775807) (hc : xs.length ≤ cap) (hcm : cap ≤ 9223372036854775807) :
    Does 7 [.slice ao xs.length cap] w (fun _ : Unit => .bool true) (fun _ _ => True) := by
  have HX := Lib.hid (Ext.refl w)
  have HC1 := Lib.hid (poly_any ao cap 5 xs w h hr hl (by decide) hc hcm)
  have ZP := Lib.hid (pq_sz xs 5)
  have LP := Lib.hid (pq_len xs 5)
  have TP : Hid (tz (polyQ xs 5) = polyQ xs 5) := Lib.hid (tz_idem _)
  obtain ⟨n, hn⟩ : ∃ n, n = xs.length := ⟨_, rfl⟩
  obtain ⟨p, hp⟩ : ∃ p, p = polyQ xs 5 := ⟨_, rfl⟩
  rw [← hn] at HC1 hl hc ⊢
  rw [← hp] at HC1 ZP LP TP
  clear hn hp h hr
  have hlc : (tbV p.length p).length ≤ 6 := by rw [tbV_len]; exact LP.out
  have ZC : Hid (SzL 256 (tbV p.length p)) := Lib.hid ((tbV_sz1 ZP.out (by decide) (by have := LP.out; omega)).mono (by
    have := Nat.pow_le_pow_right (show 0 < 2 by decide) LP.out
    omega))
  have HV : Hid (tapsV p 5 = (0, tapL (tbV p.length p) 5)) := Lib.hid (by
    unfold tapsV
    have := LP.out
    rw [TP.out, if_neg (by omega), if_neg (by omega)]
    rfl)
  have HS : Hid (crossV (tapL (tbV p.length p) 5) (tapL (tbV p.length p) 5) = mul5V p p) := Lib.hid (by rw [sym_plain hlc, fbV_tbV TP.out])
  have ZH : Hid (SzL 257 (tapL (tbV p.length p) 5)) := Lib.hid (tapL_sz ZC.out (by decide))
  have LH : Hid ((tapL (tbV p.length p) 5).length = 11) := Lib.hid (tap_len _)
  have ZC2 : Hid (SzL 5000000 (tbV (tz p).length (tz p))) := Lib.hid (by rw [TP.out]; exact ZC.out.mono (by decide))
  obtain ⟨hh, hhe⟩ : ∃ hh, hh = tapL (tbV p.length p) 5 := ⟨_, rfl⟩
  rw [← hhe] at HV HS ZH LH
  clear hhe hlc ZC
  unfold Does
  go_enter Tryz.func7, Tryz.ntmps7
  go_wp2_with fail
  refine Calls.mono (HC1.out) ?_
  rintro e w1 ⟨x1, rfl, hE, g1⟩
  have G1 := Lib.hid g1
  clear g1
  replace HX := Lib.hid (HX.out.trans hE)
  have hs_w1 := hE.size
  clear hE
  obtain ⟨a1, n1, c1⟩ := x1
  simp only [SH.v]
  have hn1 := G1.out.len
  simp only at hn1
  have hl1 := LP.out
  rw [hn1] at hl1
  clear hn1
  go_wp2_with fail
  refine Calls.mono (taps_any a1 n1 c1 1 p 5 _ (G1.out.can.raw ZP.out (by decide)) (by omega) ZP.out (by decide) (by decide) ZC2.out) ?_
  rintro e w2 ⟨x2, rfl, hE, g2⟩
  have G2 := Lib.hid g2
  clear g2
  replace HX := Lib.hid (HX.out.trans hE)
  replace G1 := Lib.hid (G1.out.ext hE)
  have hs_w2 := hE.size
  clear hE
  obtain ⟨⟨a2, n2, c2⟩, e2⟩ := x2
  obtain ⟨he, hl2⟩ := G2.out
  rw [HV.out] at he hl2
  simp only at he hl2
  subst he
  have L2 := Lib.hid (hl2.raw ZH.out (by decide))
  clear hl2 G2
  simp only [RF, SH.v]
  have hn2 : n2 = 11 := by have := L2.out.len; rw [LH.out] at this; exact this.symm
  subst hn2
  go_wp2_with fail
  refine Calls.mono (magnitude_any a2 11 c2 257 hh _ L2.out (by decide) ZH.out (by decide) (by decide)) ?_
  rintro e w3 ⟨x3, rfl, hE, g3⟩
  have G3 := Lib.hid g3
  clear g3
  replace HX := Lib.hid (HX.out.trans hE)
  replace G1 := Lib.hid (G1.out.ext hE)
  replace L2 := Lib.hid (L2.out.ext hE)
  have hs_w3 := hE.size
  clear hE
  obtain ⟨⟨a3, n3, c3⟩, e3⟩ := x3
  obtain ⟨he, hl3⟩ := G3.out
  rw [HS.out] at hl3
  simp only at he hl3
  subst he
  have L3 := Lib.hid hl3
  clear hl3 G3
  simp only [RF, SH.v]
  go_wp2_with fail
  refine Calls.mono (awake8_any _) ?_
  rintro e w4 ⟨x4, rfl, hE, -⟩
  replace HX := Lib.hid (HX.out.trans hE)
  replace G1 := Lib.hid (G1.out.ext hE)
  replace L2 := Lib.hid (L2.out.ext hE)
  replace L3 := Lib.hid (L3.out.ext hE)
  have hs_w4 := hE.size
  clear hE
  go_wp2_with fail
  refine Calls.mono (mul5_any a1 a1 n1 c1 n1 c1 p p 1 _ (G1.out.can.raw ZP.out (by decide)) (G1.out.can.raw ZP.out (by decide)) (by omega) (by omega) ZP.out ZP.out (by decide)) ?_
  rintro e w5 ⟨x5, rfl, hE, g5⟩
  have G5 := Lib.hid g5
  clear g5
  replace HX := Lib.hid (HX.out.trans hE)
  replace G1 := Lib.hid (G1.out.ext hE)
  replace L2 := Lib.hid (L2.out.ext hE)
  replace L3 := Lib.hid (L3.out.ext hE)
  have hs_w5 := hE.size
  clear hE
  obtain ⟨a5, n5, c5⟩ := x5
  simp only [SH.v]
  go_wp2_with fail
  refine Calls.mono (equal_any ⟨a3, n3, c3⟩ ⟨a5, n5, c5⟩ (mul5V p p) (mul5V p p) _ L3.out G5.out.can) ?_
  rintro e w6 ⟨x6, rfl, hE, -⟩
  replace HX := Lib.hid (HX.out.trans hE)
  replace G1 := Lib.hid (G1.out.ext hE)
  replace L2 := Lib.hid (L2.out.ext hE)
  replace L3 := Lib.hid (L3.out.ext hE)
  replace G5 := Lib.hid (G5.out.ext hE)
  have hs_w6 := hE.size
  clear hE
  rw [decide_eq_true rfl]
  go_wp2
  go_ret
  exact ⟨(), rfl, HX.out, trivial⟩
end Go.Proofs.YtbcamhfoemnmgaaGreat
