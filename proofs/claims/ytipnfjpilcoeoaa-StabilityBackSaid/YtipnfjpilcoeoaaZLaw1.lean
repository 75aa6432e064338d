/- StabilityBack returns true. -/
import Derived.Test.YtipnfjpilcoeoaaM10
set_option linter.unusedVariables false
namespace Go.Proofs.Ytipnfjpilcoeoaa
open Go.RowKit Go.Front Go.Num
attribute [local go_sem] XW.cell XW.frozen
theorem kept_all : ∀ m : Nat, m < 15 → (-1 < (((m : Int) - 7 : Int) : Rat) / ((8 : Int) : Rat) ∧ (((m : Int) - 7 : Int) : Rat) / ((8 : Int) : Rat) < 1) ∧ ((((m : Int) - 7 : Int) : Rat) / ((8 : Int) : Rat)).num.natAbs < W32 ∧ ((((m : Int) - 7 : Int) : Rat) / ((8 : Int) : Rat)).den < W32 := by decide +kernel
theorem kept_ok (n : Int) : (-1 < keptQ n ∧ keptQ n < 1) ∧ Sz 1 (keptQ n) := by
  have h1 := Int.emod_nonneg n (show (15 : Int) ≠ 0 by decide)
  have h2 := Int.emod_lt_of_pos n (show (0 : Int) < 15 by decide)
  have h := kept_all (n % 15).toNat (by omega)
  rw [show (((n % 15).toNat : Nat) : Int) = n % 15 by omega] at h
  exact ⟨h.1, by rw [Nat.pow_one]; exact h.2.1, by rw [Nat.pow_one]; exact h.2.2⟩
set_option maxRecDepth 8000 in
set_option maxHeartbeats 4000000 in
theorem back_any (ao : Option Addr) (cap : Nat) (xs : List Int) (w : World) (h : IntsAt w ao xs) (hr : InR xs) (hl : xs.length ≤ 9223372036854775807) (hc : xs.length ≤ cap) (hcm : cap ≤ 9223372036854775807) :
    Does 3 [.slice ao xs.length cap] w (fun _ : Unit => .bool true) (fun _ _ => True) := by
  have HX := Lib.hid (Ext.refl w)
  obtain ⟨ks, hks⟩ : ∃ ks, ks = (xs.take 5).map keptQ := ⟨_, rfl⟩
  have Hks := Lib.hid hks
  have hlk : ks.length ≤ 5 := by rw [hks, List.length_map, List.length_take]; omega
  have hsm : ∀ r ∈ ks, -1 < r ∧ r < 1 := by
    intro r hr
    rw [hks] at hr
    obtain ⟨n, -, rfl⟩ := List.mem_map.1 hr
    exact (kept_ok n).1
  have hsz : SzL 1 ks := by
    intro r hr
    rw [hks] at hr
    obtain ⟨n, -, rfl⟩ := List.mem_map.1 hr
    exact (kept_ok n).2
  have HZ := Lib.hid hsz
  have HZt : Hid (SzL 1 (tz ks)) := Lib.hid hsz.tz
  have V2 := Lib.hid (upV_ok hsm (by omega))
  have V3 := Lib.hid (reflV_ups hsm (by omega))
  have V4 := Lib.hid (upV_tz hsm (by omega))
  have V5 := Lib.hid (stabV_ups hsm (by omega))
  have HLk := Lib.hid hlk
  have HLt : Hid ((tz ks).length ≤ 5) := Lib.hid (Nat.le_trans (tz_len_le ks) hlk)
  have HZA : Hid (SzL 94 (tz (Stab.ups ks))) := Lib.hid ((SzL.tz (ups_sz ks hsz)).mono (Nat.le_trans (upg_mono hlk) (by decide)))
  have HLA : Hid ((tz (tz (Stab.ups ks))).length ≤ 6) := Lib.hid (by
    rw [tz_idem]
    have h1 := tz_len_le (Stab.ups ks)
    rw [Stab.ups_length] at h1
    omega)
  have HOA : Hid (RefOk ((tz (tz (Stab.ups ks))).length - 1) (norm (tz (tz (Stab.ups ks))))) := Lib.hid (reflOk (m := 5) (s := 94) (by decide) HZA.out HLA.out (by decide))
  have H := Lib.hid h
  have HR := Lib.hid hr
  clear hks hsm hsz h hr hlk
  have hcall := kept_any ao cap 5 xs w H.out HR.out hl (by decide) hc hcm
  rw [← Hks.out] at hcall
  have HC := Lib.hid hcall
  clear hcall
  obtain ⟨n, hn⟩ : ∃ n, n = xs.length := ⟨_, rfl⟩
  rw [← hn] at HC hl hc ⊢
  clear hn
  unfold Does
  go_enter Try.func3, Try.ntmps3
  go_wp2_with fail
  refine Calls.mono (HC.out) ?_
  rintro e w1 ⟨x1, rfl, hE, g1⟩
  have G1 := Lib.hid g1
  clear g1
  replace HX := Lib.hid (HX.out.trans hE)
  have hs_w1 := hE.size
  clear hE
  obtain ⟨ka, kn, kc⟩ := x1
  simp only [SH.v]
  have L1 := Lib.hid G1.out.can
  have hkn := L1.out.len
  have hkl := L1.out.le
  have hkm := L1.out.max
  simp only at hkn hkl hkm
  have Hkn := Lib.hid hkn
  have hk5 : kn ≤ 5 := by rw [← hkn]; exact HLk.out
  clear G1 hkn
  go_wp2_with fail
  refine Calls.mono (stepup_any ka kn kc ks _ (L1.out.raw HZ.out (by decide)) (by omega) (upOk HZ.out HLk.out)) ?_
  rintro e w2 ⟨x2, rfl, hE, g2⟩
  have G2 := Lib.hid g2
  clear g2
  replace HX := Lib.hid (HX.out.trans hE)
  replace L1 := Lib.hid (L1.out.ext hE)
  have hs_w2 := hE.size
  clear hE
  obtain ⟨⟨a2, n2, c2⟩, e2⟩ := x2
  obtain ⟨he, hl⟩ := G2.out
  rw [V2.out] at he hl
  simp only at he hl
  subst he
  have L2 := Lib.hid hl.can
  clear hl G2
  simp only [RF, SH.v]
  have hn2 : n2 ≤ 1073741824 := by have h1 := L2.out.len; have h2 := HLA.out; rw [tz_idem] at h2; simp only at h1; omega
  go_wp2_with fail
  refine Calls.mono (reflections_any a2 n2 c2 _ _ (L2.out.raw HZA.out (by decide)) hn2 (HZA.out.mono (by decide)) (fun _ => HOA.out)) ?_
  rintro e w3 ⟨x3, rfl, hE, g3⟩
  have G3 := Lib.hid g3
  clear g3
  replace HX := Lib.hid (HX.out.trans hE)
  replace L1 := Lib.hid (L1.out.ext hE)
  replace L2 := Lib.hid (L2.out.ext hE)
  have hs_w3 := hE.size
  clear hE
  obtain ⟨⟨a3, n3, c3⟩, e3⟩ := x3
  obtain ⟨he, hl⟩ := G3.out
  rw [V3.out] at he hl
  simp only at he hl
  subst he
  have L3 := Lib.hid hl.can
  clear hl G3
  simp only [RF, SH.v]
  have hn3 : n3 ≤ 1073741824 := by have h1 := L3.out.len; have h2 := HLt.out; simp only at h1; omega
  go_wp2_with fail
  refine Calls.mono (stepup_any a3 n3 c3 (tz ks) _ (L3.out.raw HZt.out (by decide)) hn3 (upOk HZt.out HLt.out)) ?_
  rintro e w4 ⟨x4, rfl, hE, g4⟩
  have G4 := Lib.hid g4
  clear g4
  replace HX := Lib.hid (HX.out.trans hE)
  replace L1 := Lib.hid (L1.out.ext hE)
  replace L2 := Lib.hid (L2.out.ext hE)
  replace L3 := Lib.hid (L3.out.ext hE)
  have hs_w4 := hE.size
  clear hE
  obtain ⟨⟨a4, n4, c4⟩, e4⟩ := x4
  obtain ⟨he, hl⟩ := G4.out
  rw [V4.out] at he hl
  simp only at he hl
  subst he
  have L4 := Lib.hid hl.can
  clear hl G4
  simp only [RF, SH.v]
  go_wp2_with fail
  refine Calls.mono (stable_any a2 n2 c2 _ _ (L2.out.raw HZA.out (by decide)) hn2 (HZA.out.mono (by decide)) (fun _ => HOA.out)) ?_
  rintro e w5 ⟨x5, rfl, hE, -⟩
  replace HX := Lib.hid (HX.out.trans hE)
  replace L1 := Lib.hid (L1.out.ext hE)
  replace L2 := Lib.hid (L2.out.ext hE)
  replace L3 := Lib.hid (L3.out.ext hE)
  replace L4 := Lib.hid (L4.out.ext hE)
  have hs_w5 := hE.size
  clear hE
  rw [V5.out]
  simp only [BF]
  go_wp2
  go_loopg [3] kn (fun g v wr => v = .slice ka g kc ∧ g ≤ kn ∧ tz ks = tz (ks.take g) ∧ Ext w5 wr)
  case atStart => exact ⟨rfl, Nat.le_refl _, by rw [List.take_of_length_le (by rw [Hkn.out]; exact Nat.le_refl _)], Ext.refl _⟩
  case round =>
    obtain ⟨rfl, hg, hs, hE⟩ := hrel
    have Hs := Lib.hid hs
    clear hs
    have HE5 := Lib.hid hE
    replace HX := Lib.hid (HX.out.trans hE)
    replace L1 := Lib.hid (L1.out.ext hE)
    replace L2 := Lib.hid (L2.out.ext hE)
    replace L3 := Lib.hid (L3.out.ext hE)
    replace L4 := Lib.hid (L4.out.ext hE)
    have hs_wr := hE.size
    clear hE
    by_cases h0 : gk = 0
    case pos =>
      subst h0
      have HT : Hid (tz ks = ks.take 0) := Lib.hid (by rw [Hs.out]; rfl)
      have HSm : Hid (tz ks = ks.take 0) := HT
      have LK : Hid (CanL wr ⟨ka, 0, kc⟩ (tz ks)) := Lib.hid (by rw [HSm.out]; exact L1.out.take (by omega))
      go_wp2_with fail
      refine Calls.mono (awake18_any _) ?_
      rintro e w20 ⟨x20, rfl, hE, -⟩
      replace HX := Lib.hid (HX.out.trans hE)
      replace L1 := Lib.hid (L1.out.ext hE)
      replace L2 := Lib.hid (L2.out.ext hE)
      replace L3 := Lib.hid (L3.out.ext hE)
      replace L4 := Lib.hid (L4.out.ext hE)
      replace LK := Lib.hid (LK.out.ext hE)
      have hs_w20 := hE.size
      clear hE
      go_wp2_with fail
      refine Calls.mono (samelist_any ⟨a3, n3, c3⟩ ⟨ka, 0, kc⟩ (tz ks) (tz ks) _ L3.out LK.out) ?_
      rintro e w21 ⟨x21, rfl, hE, -⟩
      replace HX := Lib.hid (HX.out.trans hE)
      replace L1 := Lib.hid (L1.out.ext hE)
      replace L2 := Lib.hid (L2.out.ext hE)
      replace L3 := Lib.hid (L3.out.ext hE)
      replace L4 := Lib.hid (L4.out.ext hE)
      replace LK := Lib.hid (LK.out.ext hE)
      have hs_w21 := hE.size
      clear hE
      rw [decide_eq_true rfl]
      go_wp2_with fail
      refine Calls.mono (equal_any ⟨a2, n2, c2⟩ ⟨a4, n4, c4⟩ (tz (Stab.ups ks)) (tz (Stab.ups ks)) _ L2.out L4.out) ?_
      rintro e w22 ⟨x22, rfl, hE, -⟩
      replace HX := Lib.hid (HX.out.trans hE)
      replace L1 := Lib.hid (L1.out.ext hE)
      replace L2 := Lib.hid (L2.out.ext hE)
      replace L3 := Lib.hid (L3.out.ext hE)
      replace L4 := Lib.hid (L4.out.ext hE)
      replace LK := Lib.hid (LK.out.ext hE)
      have hs_w22 := hE.size
      clear hE
      rw [decide_eq_true rfl]
      go_wp2
      go_ret
      exact ⟨(), rfl, HX.out, trivial⟩
    obtain ⟨k, rfl⟩ : ∃ m, gk = m + 1 := ⟨gk - 1, by omega⟩
    obtain ⟨b, off, r, hao, ⟨hc1, hc2, hc3⟩, hP⟩ := L1.out.at (k := k) (by omega)
    have hbl : b < wr.heap.size := World.block_lt_of_cell? _ _ hc1
    subst hao
    obtain ⟨rneg, ra, rn, rc, rb, rm, rd⟩ := r
    simp only at hc1 hc2 hc3
    have HP := Lib.hid (hP.raw (HZ.out.at (by rw [Hkn.out]; omega)) (by decide))
    clear hP h0
    have hE0 := Lib.hid (Ext.refl wr)
    go_wp2_with fail
    refine Calls.mono (rsign3_any ⟨rneg, ra, rn, rc, rb, rm, rd⟩ _ _ HP.out) ?_
    rintro e w10 ⟨x10, rfl, hE, -⟩
    replace HX := Lib.hid (HX.out.trans hE)
    replace L1 := Lib.hid (L1.out.ext hE)
    replace L2 := Lib.hid (L2.out.ext hE)
    replace L3 := Lib.hid (L3.out.ext hE)
    replace L4 := Lib.hid (L4.out.ext hE)
    replace hE0 := Lib.hid (hE0.out.trans hE)
    have hs_w10 := hE.size
    clear hE
    have HZ0 := Lib.hid (cmpR_self0 (ks.getD k 0))
    obtain ⟨c, hc⟩ : ∃ c, c = cmpR (ks.getD k 0) 0 := ⟨_, rfl⟩
    rw [← hc] at HZ0 ⊢
    clear hc HP hc1 hc2 hc3 hbl
    by_cases hz : c = 0
    · subst hz
      have Hz0 := Lib.hid (HZ0.out.1 rfl)
      clear HZ0
      go_wp2
      go_roundg k
      case measure => omega
      case rel => exact ⟨by go_num, by omega, by rw [Hs.out, tz_zero (by rw [Hkn.out]; omega) Hz0.out], HE5.out.trans hE0.out⟩
    · have hzb : (c == 0) = false := by simpa using hz
      have HT : Hid (tz ks = ks.take (k + 1)) := Lib.hid (by rw [Hs.out, tz_stop (by rw [Hkn.out]; omega) (fun h => hz (HZ0.out.2 h))])
      clear HZ0 hz
      have HSm : Hid (tz ks = ks.take (k + 1)) := HT
      have LK : Hid (CanL w10 ⟨some ⟨b, off, none⟩, (k + 1), kc⟩ (tz ks)) := Lib.hid (by rw [HSm.out]; exact L1.out.take (by omega))
      go_wp2_with fail
      refine Calls.mono (awake18_any _) ?_
      rintro e w20 ⟨x20, rfl, hE, -⟩
      replace HX := Lib.hid (HX.out.trans hE)
      replace L1 := Lib.hid (L1.out.ext hE)
      replace L2 := Lib.hid (L2.out.ext hE)
      replace L3 := Lib.hid (L3.out.ext hE)
      replace L4 := Lib.hid (L4.out.ext hE)
      replace hE0 := Lib.hid (hE0.out.trans hE)
      replace LK := Lib.hid (LK.out.ext hE)
      have hs_w20 := hE.size
      clear hE
      go_wp2_with fail
      refine Calls.mono (samelist_any ⟨a3, n3, c3⟩ ⟨some ⟨b, off, none⟩, (k + 1), kc⟩ (tz ks) (tz ks) _ L3.out LK.out) ?_
      rintro e w21 ⟨x21, rfl, hE, -⟩
      replace HX := Lib.hid (HX.out.trans hE)
      replace L1 := Lib.hid (L1.out.ext hE)
      replace L2 := Lib.hid (L2.out.ext hE)
      replace L3 := Lib.hid (L3.out.ext hE)
      replace L4 := Lib.hid (L4.out.ext hE)
      replace hE0 := Lib.hid (hE0.out.trans hE)
      replace LK := Lib.hid (LK.out.ext hE)
      have hs_w21 := hE.size
      clear hE
      rw [decide_eq_true rfl]
      go_wp2_with fail
      refine Calls.mono (equal_any ⟨a2, n2, c2⟩ ⟨a4, n4, c4⟩ (tz (Stab.ups ks)) (tz (Stab.ups ks)) _ L2.out L4.out) ?_
      rintro e w22 ⟨x22, rfl, hE, -⟩
      replace HX := Lib.hid (HX.out.trans hE)
      replace L1 := Lib.hid (L1.out.ext hE)
      replace L2 := Lib.hid (L2.out.ext hE)
      replace L3 := Lib.hid (L3.out.ext hE)
      replace L4 := Lib.hid (L4.out.ext hE)
      replace hE0 := Lib.hid (hE0.out.trans hE)
      replace LK := Lib.hid (LK.out.ext hE)
      have hs_w22 := hE.size
      clear hE
      rw [decide_eq_true rfl]
      go_wp2
      go_ret
      exact ⟨(), rfl, HX.out, trivial⟩
end Go.Proofs.Ytipnfjpilcoeoaa
