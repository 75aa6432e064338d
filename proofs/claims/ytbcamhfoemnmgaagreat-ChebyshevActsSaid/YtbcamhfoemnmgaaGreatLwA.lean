/- ChebyshevActs returns true. -/
import Derived.Test.YtbcamhfoemnmgaaGreatM13
import Derived.Test.YtbcamhfoemnmgaaGreatR8b
import Derived.Test.YtbcamhfoemnmgaaGreatR8c
import Derived.Test.YtbcamhfoemnmgaaGreatM14
import Derived.Test.YtbcamhfoemnmgaaGreatJnR
set_option linter.unusedVariables false
namespace Go.Proofs.YtbcamhfoemnmgaaGreat
open Go.RowKit Go.Front Go.Num
attribute [local go_sem] XW.cell XW.frozen
set_option maxRecDepth 8000 in
set_option maxHeartbeats 8000000 in
theorem actslaw8_any (pa qa ca : Option Addr) (pn pc qn qc cn cc : Nat) (rs us vs : List RH) (n : Int) (w : World) (h : RS w ⟨pa, pn, pc⟩ rs) (hi : ∀ r ∈ rs, RatIn w r) (k : RS w ⟨qa, qn, qc⟩ us) (ki : ∀ r ∈ us, RatIn w r) (c : RS w ⟨ca, cn, cc⟩ vs) (ci : ∀ r ∈ vs, RatIn w r)
    (hn1 : -9223372036854775808 ≤ n) (hn2 : n ≤ 9223372036854775807) :
    Does 4 [.int .i64 n, .slice pa pn pc, .slice qa qn qc, .slice ca cn cc] w (fun _ : Unit => .bool true) (fun _ _ => True) := by
  have HX := Lib.hid (Ext.refl w)
  have H1 := Lib.hid h
  have H2 := Lib.hid k
  have H3 := Lib.hid c
  have I1 := Lib.hid hi
  have I2 := Lib.hid ki
  have I3 := Lib.hid ci
  clear h k c hi ki ci
  unfold Does
  go_enter Tryz.func4, Tryz.ntmps4
  go_wp2_with fail
  refine Calls.mono (smallpoly_any pa pn pc rs _ H1.out) ?_
  rintro e w1 ⟨x1, rfl, hE, g1⟩
  have G1 := Lib.hid g1
  clear g1
  replace HX := Lib.hid (HX.out.trans hE)
  have hs_w1 := hE.size
  clear hE
  cases x1
  case false =>
    go_wp2_with fail
    refine Calls.mono (awake8_any _) ?_
    rintro e w2 ⟨x2, rfl, hE, -⟩
    replace HX := Lib.hid (HX.out.trans hE)
    have hs_w2 := hE.size
    clear hE
    go_wp2
    go_ret
    exact ⟨(), rfl, HX.out, trivial⟩
  obtain ⟨hp8, hpd⟩ := G1.out.1 rfl
  obtain ⟨ps, hps, hpz⟩ := rats_raw H1.out I1.out hpd (by decide) (by decide)
  have LP := Lib.hid (hps.ext HX.out)
  have ZP := Lib.hid hpz
  clear G1 hpd hps hpz H1 I1
  go_wp2_with fail
  refine Calls.mono (smallpoly_any qa qn qc us _ (H2.out.ext HX.out)) ?_
  rintro e w3 ⟨x3, rfl, hE, g3⟩
  have G3 := Lib.hid g3
  clear g3
  replace HX := Lib.hid (HX.out.trans hE)
  replace LP := Lib.hid (LP.out.ext hE)
  have hs_w3 := hE.size
  clear hE
  cases x3
  case false =>
    go_wp2_with fail
    refine Calls.mono (awake8_any _) ?_
    rintro e w4 ⟨x4, rfl, hE, -⟩
    replace HX := Lib.hid (HX.out.trans hE)
    replace LP := Lib.hid (LP.out.ext hE)
    have hs_w4 := hE.size
    clear hE
    go_wp2
    go_ret
    exact ⟨(), rfl, HX.out, trivial⟩
  obtain ⟨hq8, hqd⟩ := G3.out.1 rfl
  obtain ⟨qs, hqs, hqz⟩ := rats_raw H2.out I2.out hqd (by decide) (by decide)
  have LQ := Lib.hid (hqs.ext HX.out)
  have ZQ := Lib.hid hqz
  clear G3 hqd hqs hqz H2 I2
  go_wp2_with fail
  refine Calls.mono (smallpoly_any ca cn cc vs _ (H3.out.ext HX.out)) ?_
  rintro e w5 ⟨x5, rfl, hE, g5⟩
  have G5 := Lib.hid g5
  clear g5
  replace HX := Lib.hid (HX.out.trans hE)
  replace LP := Lib.hid (LP.out.ext hE)
  replace LQ := Lib.hid (LQ.out.ext hE)
  have hs_w5 := hE.size
  clear hE
  cases x5
  case false =>
    go_wp2_with fail
    refine Calls.mono (awake8_any _) ?_
    rintro e w6 ⟨x6, rfl, hE, -⟩
    replace HX := Lib.hid (HX.out.trans hE)
    replace LP := Lib.hid (LP.out.ext hE)
    replace LQ := Lib.hid (LQ.out.ext hE)
    have hs_w6 := hE.size
    clear hE
    go_wp2
    go_ret
    exact ⟨(), rfl, HX.out, trivial⟩
  obtain ⟨hc8, hcd⟩ := G5.out.1 rfl
  obtain ⟨cs, hcs, hcz⟩ := rats_raw H3.out I3.out hcd (by decide) (by decide)
  have LC := Lib.hid (hcs.ext HX.out)
  have ZC := Lib.hid hcz
  clear G5 hcd hcs hcz H3 I3
  have hcg : cg 2 cn ≤ 4194304 := by unfold cg; omega
  go_wp2_with fail
  refine Calls.mono (mod_any n 10 _ hn1 hn2 (by decide) (by decide)) ?_
  rintro e w7 ⟨x7, rfl, hE, -⟩
  replace HX := Lib.hid (HX.out.trans hE)
  replace LP := Lib.hid (LP.out.ext hE)
  replace LQ := Lib.hid (LQ.out.ext hE)
  replace LC := Lib.hid (LC.out.ext hE)
  have hs_w7 := hE.size
  clear hE
  obtain ⟨m, hm⟩ : ∃ m, m = n % 10 := ⟨_, rfl⟩
  rw [← hm]
  clear hm hn1 hn2
  go_upto_region 4 with fail
  refine nm_alloc ?_
  intro y1 hE hB0 hz
  have hz_y1 := Nat.le_of_eq hz
  have hr_y1 := Nat.le_of_eq hz.symm
  clear hz
  replace HX := Lib.hid (HX.out.trans hE)
  replace LP := Lib.hid (LP.out.ext hE)
  replace LQ := Lib.hid (LQ.out.ext hE)
  replace LC := Lib.hid (LC.out.ext hE)
  have hs_y1 := hE.size
  clear hE
  have BS := Lib.hid hB0
  clear hB0
  have c_BS := blk_cell BS.out
  have f_BS := blk_frozen BS.out
  have l_BS := (Array.getElem?_eq_some_iff.1 BS.out).1
  obtain ⟨L, hL⟩ : ∃ L, L = w7.heap.size := ⟨_, rfl⟩
  rw [← hL] at BS ⊢
  clear hL c_BS f_BS l_BS
  go_loopg [46] 2 (fun g i wr => ∃ j : Nat, j + g = 2 ∧ i = .int .i64 (j : Nat) ∧ Ext w wr ∧ wr.heap[L]? = some (.cells #[.int .i64 n, .int .i64 m] 3 (0, 0)) ∧ RawL wr ⟨pa, pn, pc⟩ ps ∧ RawL wr ⟨qa, qn, qc⟩ qs ∧ RawL wr ⟨ca, cn, cc⟩ cs)
  case atStart => exact ⟨0, by omega, rfl, HX.out, BS.out, LP.out, LQ.out, LC.out⟩
  case round =>
    obtain ⟨j, hj, rfl, g1, g2, g3, g4, g5⟩ := hrel
    clear HX BS LP LQ LC
    have HX := Lib.hid g1
    have BS := Lib.hid g2
    have LP := Lib.hid g3
    have LQ := Lib.hid g4
    have LC := Lib.hid g5
    clear g1 g2 g3 g4 g5
    (try clear f_BS l_BS)
    have f_BS := blk_frozen BS.out
    have l_BS := (Array.getElem?_eq_some_iff.1 BS.out).1
    by_cases h0 : gk = 0
    case neg =>
      have hj2 : (j : Int) < 2 := by omega
      obtain ⟨k, hcell⟩ : ∃ k, wr.cell? ⟨L, j, none⟩ = some (.int .i64 k) := by
        have hb := blk_cell BS.out j
        match j, (show j < 2 by omega) with
        | 0, _ => exact ⟨n, hb⟩
        | 1, _ => exact ⟨m, hb⟩
      go_upto_region 6 with fail
      clear hcell
      go_wp2_with fail
      refine Calls.mono (t_any k _) ?_
      rintro e w10 ⟨x10, rfl, hE, g10⟩
      have G10 := Lib.hid g10
      clear g10
      replace HX := Lib.hid (HX.out.trans hE)
      replace LP := Lib.hid (LP.out.ext hE)
      replace LQ := Lib.hid (LQ.out.ext hE)
      replace LC := Lib.hid (LC.out.ext hE)
      replace BS := Lib.hid (hE.block BS.out)
      have hs_w10 := hE.size
      clear hE
      (try clear f_BS l_BS)
      have f_BS := blk_frozen BS.out
      have l_BS := (Array.getElem?_eq_some_iff.1 BS.out).1
      obtain ⟨⟨a1, m1, c1⟩, e1⟩ := x10
      obtain ⟨he1, hl1⟩ := G10.out
      simp only at he1 hl1
      have L1 := Lib.hid hl1
      have F1 := Lib.hid he1
      clear G10 hl1 he1
      simp only [RF, SH.v]
      go_wp2_with fail
      refine Calls.mono (t8_any k _) ?_
      rintro e w11 ⟨x11, rfl, hE, g11⟩
      have G11 := Lib.hid g11
      clear g11
      replace HX := Lib.hid (HX.out.trans hE)
      replace LP := Lib.hid (LP.out.ext hE)
      replace LQ := Lib.hid (LQ.out.ext hE)
      replace LC := Lib.hid (LC.out.ext hE)
      replace BS := Lib.hid (hE.block BS.out)
      replace L1 := Lib.hid (L1.out.ext hE)
      have hs_w11 := hE.size
      clear hE
      (try clear f_BS l_BS)
      have f_BS := blk_frozen BS.out
      have l_BS := (Array.getElem?_eq_some_iff.1 BS.out).1
      obtain ⟨⟨a2, m2, c2⟩, e2⟩ := x11
      obtain ⟨he2, hl2⟩ := G11.out
      simp only at he2 hl2
      have L2 := Lib.hid hl2
      obtain rfl : e2 = e1 := he2.trans F1.out.symm
      clear G11 hl2 he2 F1
      simp only [RF, SH.v]
      go_wp2_with fail
      refine Calls.mono (equal_any ⟨a1, m1, c1⟩ ⟨a2, m2, c2⟩ _ _ _ L1.out L2.out) ?_
      rintro e w12 ⟨x12, rfl, hE, -⟩
      replace HX := Lib.hid (HX.out.trans hE)
      replace LP := Lib.hid (LP.out.ext hE)
      replace LQ := Lib.hid (LQ.out.ext hE)
      replace LC := Lib.hid (LC.out.ext hE)
      replace BS := Lib.hid (hE.block BS.out)
      replace L1 := Lib.hid (L1.out.ext hE)
      replace L2 := Lib.hid (L2.out.ext hE)
      have hs_w12 := hE.size
      clear hE
      (try clear f_BS l_BS)
      have f_BS := blk_frozen BS.out
      have l_BS := (Array.getElem?_eq_some_iff.1 BS.out).1
      rw [decide_eq_true rfl]
      go_wp2
      go_roundg (gk - 1)
      case measure => omega
      case rel => exact ⟨j + 1, by omega, by go_num, HX.out, BS.out, LP.out, LQ.out, LC.out⟩
    subst h0
    have hj2 : ¬ (j : Int) < 2 := by omega
    go_wp2_with fail
    refine Calls.mono (frombasis_any ca cn cc cs 2 _ LC.out (by omega) ZC.out (by decide) (by decide) hcg) ?_
    rintro e w20 ⟨x20, rfl, hE, g20⟩
    have G20 := Lib.hid g20
    clear g20
    replace HX := Lib.hid (HX.out.trans hE)
    replace LP := Lib.hid (LP.out.ext hE)
    replace LQ := Lib.hid (LQ.out.ext hE)
    replace LC := Lib.hid (LC.out.ext hE)
    replace BS := Lib.hid (hE.block BS.out)
    have hs_w20 := hE.size
    clear hE
    (try clear f_BS l_BS)
    have f_BS := blk_frozen BS.out
    have l_BS := (Array.getElem?_eq_some_iff.1 BS.out).1
    obtain ⟨⟨a1, m1, c1⟩, e1⟩ := x20
    obtain ⟨he, hl⟩ := G20.out
    simp only at he hl
    subst he
    have L1 := Lib.hid hl
    clear hl G20
    simp only [RF, SH.v]
    go_wp2_with fail
    refine Calls.mono (frombasis8_any ca cn cc 2 cs _ LC.out (by omega) ZC.out (by decide) (by decide)) ?_
    rintro e w21 ⟨x21, rfl, hE, g21⟩
    have G21 := Lib.hid g21
    clear g21
    replace HX := Lib.hid (HX.out.trans hE)
    replace LP := Lib.hid (LP.out.ext hE)
    replace LQ := Lib.hid (LQ.out.ext hE)
    replace LC := Lib.hid (LC.out.ext hE)
    replace BS := Lib.hid (hE.block BS.out)
    replace L1 := Lib.hid (L1.out.ext hE)
    have hs_w21 := hE.size
    clear hE
    (try clear f_BS l_BS)
    have f_BS := blk_frozen BS.out
    have l_BS := (Array.getElem?_eq_some_iff.1 BS.out).1
    obtain ⟨⟨a2, m2, c2⟩, e2⟩ := x21
    obtain ⟨he, hl⟩ := G21.out
    simp only at he hl
    subst he
    have L2 := Lib.hid hl
    clear hl G21
    simp only [RF, SH.v]
    go_wp2_with fail
    refine Calls.mono (cross_any pa qa pn pc qn qc 2 ps qs _ LP.out LQ.out (by omega) (by omega) ZP.out ZQ.out (by decide) (by decide)) ?_
    rintro e w22 ⟨x22, rfl, hE, g22⟩
    have G22 := Lib.hid g22
    clear g22
    replace HX := Lib.hid (HX.out.trans hE)
    replace LP := Lib.hid (LP.out.ext hE)
    replace LQ := Lib.hid (LQ.out.ext hE)
    replace LC := Lib.hid (LC.out.ext hE)
    replace BS := Lib.hid (hE.block BS.out)
    replace L1 := Lib.hid (L1.out.ext hE)
    replace L2 := Lib.hid (L2.out.ext hE)
    have hs_w22 := hE.size
    clear hE
    (try clear f_BS l_BS)
    have f_BS := blk_frozen BS.out
    have l_BS := (Array.getElem?_eq_some_iff.1 BS.out).1
    obtain ⟨⟨a3, m3, c3⟩, e3⟩ := x22
    obtain ⟨he, hl⟩ := G22.out
    simp only at he hl
    subst he
    have L3 := Lib.hid hl
    clear hl G22
    simp only [RF, SH.v]
    go_wp2_with fail
    refine Calls.mono (cross8_any pa qa pn pc qn qc 2 ps qs _ LP.out LQ.out (by omega) (by omega) ZP.out ZQ.out (by decide) (by decide)) ?_
    rintro e w23 ⟨x23, rfl, hE, g23⟩
    have G23 := Lib.hid g23
    clear g23
    replace HX := Lib.hid (HX.out.trans hE)
    replace LP := Lib.hid (LP.out.ext hE)
    replace LQ := Lib.hid (LQ.out.ext hE)
    replace LC := Lib.hid (LC.out.ext hE)
    replace BS := Lib.hid (hE.block BS.out)
    replace L1 := Lib.hid (L1.out.ext hE)
    replace L2 := Lib.hid (L2.out.ext hE)
    replace L3 := Lib.hid (L3.out.ext hE)
    have hs_w23 := hE.size
    clear hE
    (try clear f_BS l_BS)
    have f_BS := blk_frozen BS.out
    have l_BS := (Array.getElem?_eq_some_iff.1 BS.out).1
    obtain ⟨⟨a4, m4, c4⟩, e4⟩ := x23
    obtain ⟨he, hl⟩ := G23.out
    simp only at he hl
    subst he
    have L4 := Lib.hid hl
    clear hl G23
    simp only [RF, SH.v]
    go_wp2_with fail
    refine Calls.mono (magnitude_any pa pn pc 2 ps _ LP.out (by omega) ZP.out (by decide) (by decide)) ?_
    rintro e w24 ⟨x24, rfl, hE, g24⟩
    have G24 := Lib.hid g24
    clear g24
    replace HX := Lib.hid (HX.out.trans hE)
    replace LP := Lib.hid (LP.out.ext hE)
    replace LQ := Lib.hid (LQ.out.ext hE)
    replace LC := Lib.hid (LC.out.ext hE)
    replace BS := Lib.hid (hE.block BS.out)
    replace L1 := Lib.hid (L1.out.ext hE)
    replace L2 := Lib.hid (L2.out.ext hE)
    replace L3 := Lib.hid (L3.out.ext hE)
    replace L4 := Lib.hid (L4.out.ext hE)
    have hs_w24 := hE.size
    clear hE
    (try clear f_BS l_BS)
    have f_BS := blk_frozen BS.out
    have l_BS := (Array.getElem?_eq_some_iff.1 BS.out).1
    obtain ⟨⟨a5, m5, c5⟩, e5⟩ := x24
    obtain ⟨he, hl⟩ := G24.out
    simp only at he hl
    subst he
    have L5 := Lib.hid hl
    clear hl G24
    simp only [RF, SH.v]
    go_wp2_with fail
    refine Calls.mono (magnitude8_any pa pn pc 2 ps _ LP.out (by omega) ZP.out (by decide) (by decide)) ?_
    rintro e w25 ⟨x25, rfl, hE, g25⟩
    have G25 := Lib.hid g25
    clear g25
    replace HX := Lib.hid (HX.out.trans hE)
    replace LP := Lib.hid (LP.out.ext hE)
    replace LQ := Lib.hid (LQ.out.ext hE)
    replace LC := Lib.hid (LC.out.ext hE)
    replace BS := Lib.hid (hE.block BS.out)
    replace L1 := Lib.hid (L1.out.ext hE)
    replace L2 := Lib.hid (L2.out.ext hE)
    replace L3 := Lib.hid (L3.out.ext hE)
    replace L4 := Lib.hid (L4.out.ext hE)
    replace L5 := Lib.hid (L5.out.ext hE)
    have hs_w25 := hE.size
    clear hE
    (try clear f_BS l_BS)
    have f_BS := blk_frozen BS.out
    have l_BS := (Array.getElem?_eq_some_iff.1 BS.out).1
    obtain ⟨⟨a6, m6, c6⟩, e6⟩ := x25
    obtain ⟨he, hl⟩ := G25.out
    simp only at he hl
    subst he
    have L6 := Lib.hid hl
    clear hl G25
    simp only [RF, SH.v]
    go_wp2_with fail
    refine Calls.mono (awake8_any _) ?_
    rintro e w26 ⟨x26, rfl, hE, -⟩
    replace HX := Lib.hid (HX.out.trans hE)
    replace LP := Lib.hid (LP.out.ext hE)
    replace LQ := Lib.hid (LQ.out.ext hE)
    replace LC := Lib.hid (LC.out.ext hE)
    replace BS := Lib.hid (hE.block BS.out)
    replace L1 := Lib.hid (L1.out.ext hE)
    replace L2 := Lib.hid (L2.out.ext hE)
    replace L3 := Lib.hid (L3.out.ext hE)
    replace L4 := Lib.hid (L4.out.ext hE)
    replace L5 := Lib.hid (L5.out.ext hE)
    replace L6 := Lib.hid (L6.out.ext hE)
    have hs_w26 := hE.size
    clear hE
    (try clear f_BS l_BS)
    have f_BS := blk_frozen BS.out
    have l_BS := (Array.getElem?_eq_some_iff.1 BS.out).1
    go_wp2_with fail
    refine Calls.mono (equal_any ⟨a1, m1, c1⟩ ⟨a2, m2, c2⟩ _ _ _ L1.out L2.out) ?_
    rintro e w27 ⟨x27, rfl, hE, -⟩
    replace HX := Lib.hid (HX.out.trans hE)
    replace LP := Lib.hid (LP.out.ext hE)
    replace LQ := Lib.hid (LQ.out.ext hE)
    replace LC := Lib.hid (LC.out.ext hE)
    replace BS := Lib.hid (hE.block BS.out)
    replace L1 := Lib.hid (L1.out.ext hE)
    replace L2 := Lib.hid (L2.out.ext hE)
    replace L3 := Lib.hid (L3.out.ext hE)
    replace L4 := Lib.hid (L4.out.ext hE)
    replace L5 := Lib.hid (L5.out.ext hE)
    replace L6 := Lib.hid (L6.out.ext hE)
    have hs_w27 := hE.size
    clear hE
    (try clear f_BS l_BS)
    have f_BS := blk_frozen BS.out
    have l_BS := (Array.getElem?_eq_some_iff.1 BS.out).1
    rw [decide_eq_true rfl]
    clear L1
    clear L2
    go_wp2_with fail
    refine Calls.mono (equal_any ⟨a3, m3, c3⟩ ⟨a4, m4, c4⟩ _ _ _ L3.out L4.out) ?_
    rintro e w28 ⟨x28, rfl, hE, -⟩
    replace HX := Lib.hid (HX.out.trans hE)
    replace LP := Lib.hid (LP.out.ext hE)
    replace LQ := Lib.hid (LQ.out.ext hE)
    replace LC := Lib.hid (LC.out.ext hE)
    replace BS := Lib.hid (hE.block BS.out)
    replace L3 := Lib.hid (L3.out.ext hE)
    replace L4 := Lib.hid (L4.out.ext hE)
    replace L5 := Lib.hid (L5.out.ext hE)
    replace L6 := Lib.hid (L6.out.ext hE)
    have hs_w28 := hE.size
    clear hE
    (try clear f_BS l_BS)
    have f_BS := blk_frozen BS.out
    have l_BS := (Array.getElem?_eq_some_iff.1 BS.out).1
    rw [decide_eq_true rfl]
    clear L3
    clear L4
    go_wp2_with fail
    refine Calls.mono (equal_any ⟨a5, m5, c5⟩ ⟨a6, m6, c6⟩ _ _ _ L5.out L6.out) ?_
    rintro e w29 ⟨x29, rfl, hE, -⟩
    replace HX := Lib.hid (HX.out.trans hE)
    replace LP := Lib.hid (LP.out.ext hE)
    replace LQ := Lib.hid (LQ.out.ext hE)
    replace LC := Lib.hid (LC.out.ext hE)
    replace BS := Lib.hid (hE.block BS.out)
    replace L5 := Lib.hid (L5.out.ext hE)
    replace L6 := Lib.hid (L6.out.ext hE)
    have hs_w29 := hE.size
    clear hE
    (try clear f_BS l_BS)
    have f_BS := blk_frozen BS.out
    have l_BS := (Array.getElem?_eq_some_iff.1 BS.out).1
    rw [decide_eq_true rfl]
    clear L5
    clear L6
    go_wp2_with fail
    refine Calls.mono (tobasis_any pa pn pc 2 ps _ LP.out (by omega) ZP.out (by decide) (by decide)) ?_
    rintro e w30 ⟨x30, rfl, hE, g30⟩
    have G30 := Lib.hid g30
    clear g30
    replace HX := Lib.hid (HX.out.trans hE)
    replace LP := Lib.hid (LP.out.ext hE)
    replace LQ := Lib.hid (LQ.out.ext hE)
    replace LC := Lib.hid (LC.out.ext hE)
    replace BS := Lib.hid (hE.block BS.out)
    have hs_w30 := hE.size
    clear hE
    (try clear f_BS l_BS)
    have f_BS := blk_frozen BS.out
    have l_BS := (Array.getElem?_eq_some_iff.1 BS.out).1
    go_wp2_with fail
    refine Calls.mono (tobasis8_any pa pn pc 2 ps _ LP.out (by omega) ZP.out (by decide) (by decide)) ?_
    rintro e w31 ⟨x31, rfl, hE, g31⟩
    have G31 := Lib.hid g31
    clear g31
    replace HX := Lib.hid (HX.out.trans hE)
    replace LP := Lib.hid (LP.out.ext hE)
    replace LQ := Lib.hid (LQ.out.ext hE)
    replace LC := Lib.hid (LC.out.ext hE)
    replace BS := Lib.hid (hE.block BS.out)
    replace G30 := Lib.hid (G30.out.ext hE)
    have hs_w31 := hE.size
    clear hE
    (try clear f_BS l_BS)
    have f_BS := blk_frozen BS.out
    have l_BS := (Array.getElem?_eq_some_iff.1 BS.out).1
    go_wp2_with fail
    refine Calls.mono (samelist_any x30 x31 _ _ _ G30.out G31.out) ?_
    rintro e w32 ⟨x32, rfl, hE, -⟩
    replace HX := Lib.hid (HX.out.trans hE)
    replace LP := Lib.hid (LP.out.ext hE)
    replace LQ := Lib.hid (LQ.out.ext hE)
    replace LC := Lib.hid (LC.out.ext hE)
    replace BS := Lib.hid (hE.block BS.out)
    replace G30 := Lib.hid (G30.out.ext hE)
    replace G31 := Lib.hid (G31.out.ext hE)
    have hs_w32 := hE.size
    clear hE
    (try clear f_BS l_BS)
    have f_BS := blk_frozen BS.out
    have l_BS := (Array.getElem?_eq_some_iff.1 BS.out).1
    rw [decide_eq_true rfl]
    go_wp2
    go_ret
    exact ⟨(), rfl, HX.out, trivial⟩
end Go.Proofs.YtbcamhfoemnmgaaGreat
