/- ChebyshevTaps returns true. -/
import Derived.Test.YtbcamhfoemnmgaaGreatM13
import Derived.Test.YtbcamhfoemnmgaaGreatR8d
import Derived.Test.YtbcamhfoemnmgaaGreatR8e
import Derived.Test.YtbcamhfoemnmgaaGreatM14
import Derived.Test.YtbcamhfoemnmgaaGreatJnR
set_option linter.unusedVariables false
namespace Go.Proofs.YtbcamhfoemnmgaaGreat
open Go.RowKit Go.Front Go.Num
attribute [local go_sem] XW.cell XW.frozen
theorem sm_pad {n m : Nat} {f : Nat → Rat} (h : n ≤ m) (h0 : ∀ i, n ≤ i → i < m → f i = 0) : Stab.sm n f = Stab.sm m f := by
  obtain ⟨d, rfl⟩ : ∃ d, m = n + d := ⟨m - n, by omega⟩
  rw [Stab.sm_split, Stab.sm_congr (n := d) (g := fun _ => 0) (fun i hi => h0 (n + i) (by omega) (by omega)), Stab.sm_zero]
  grind
theorem fbS_ext {a b : List Rat} (h : ∀ i, a.getD i 0 = b.getD i 0) (i : Nat) : fbS a i = fbS b i := by
  have e : ∀ c : List Rat, c.length ≤ max a.length b.length → fbS c i = Stab.sm (max a.length b.length) (fun k => c.getD k 0 * Tf k i) := fun c hc => by
    unfold fbS
    refine sm_pad hc fun j hj _ => ?_
    rw [getD_over' hj]; grind
  rw [e a (Nat.le_max_left _ _), e b (Nat.le_max_right _ _)]
  exact Stab.sm_congr fun j _ => by rw [h]
theorem fbV_ext {a b : List Rat} (h : ∀ i, a.getD i 0 = b.getD i 0) : fbV a = fbV b := by
  rw [← fbV_tz a, ← fbV_tz b]
  apply tz_ext
  intro i
  rw [fbV_getD, fbV_getD]
  exact fbS_ext h i
theorem tapK_get (c : List Rat) (n i : Nat) : (tapL c n).getD i 0 = if i < 2 * n + 1 then tapE c n i else 0 := range_getD _ _ _
theorem tapK_len (c : List Rat) (n : Nat) : (tapL c n).length = 2 * n + 1 := by unfold tapL; simp
theorem tapK_sz {c : List Rat} {s n : Nat} (h : SzL s c) (hs : 1 ≤ s) : SzL (s + 1) (tapL c n) := by
  intro q hq
  obtain ⟨i, -, rfl⟩ := List.mem_map.1 hq
  unfold tapE
  split
  · exact (h.getD hs 0).mono (by omega)
  · exact (h.getD hs _).mul half_sz
theorem half2 (x : Rat) : x * half + x * half = x := by unfold half; grind
theorem ampC_getD (h : List Rat) (n j i : Nat) : (ampC h n j).getD i 0 = if i = 0 then h.getD n 0 else if i ≤ j then h.getD (n + i) 0 + h.getD (n + i) 0 else 0 := by
  unfold ampC
  cases i with
  | zero => rfl
  | succ i =>
    rw [if_neg (by omega)]
    show ((List.range j).map (fun k => h.getD (n + (k + 1)) 0 + h.getD (n + (k + 1)) 0)).getD i 0 = _
    rw [range_getD]
    by_cases hi : i < j
    · rw [if_pos hi, if_pos (by omega)]
    · rw [if_neg hi, if_neg (by omega)]
theorem ampV_tap {c : List Rat} {n : Nat} (hc : c.length ≤ n + 1) : ampV (tapL c n) = (0, fbV c) := by
  have hl := tapK_len c n
  have h2 : (tapL c n).length / 2 = n := by rw [hl]; omega
  have heq : AmpEq (tapL c n) n n := by
    intro k hk
    rw [tapK_get, tapK_get, if_pos (by omega), if_pos (by omega)]
    unfold tapE
    rw [show dst n (n - (k + 1)) = dst n (n + (k + 1)) by unfold dst; split <;> split <;> omega]
  unfold ampV
  rw [if_neg (by rw [hl]; omega), h2, if_pos heq]
  congr 1
  apply fbV_ext
  intro i
  rw [ampC_getD]
  by_cases h0 : i = 0
  · subst h0
    rw [if_pos rfl, tapK_get, if_pos (by omega)]
    unfold tapE
    rw [if_pos (by unfold dst; split <;> omega)]
  · rw [if_neg h0]
    by_cases hi : i ≤ n
    · rw [if_pos hi, tapK_get, if_pos (by omega)]
      have e : dst n (n + i) = i := by unfold dst; split <;> omega
      unfold tapE
      rw [e, if_neg h0, half2]
    · rw [if_neg hi, getD_over' (by omega)]
theorem sm4_true {n m : Nat} (h : sm4 n m = true) : n ≤ 4 ∧ m ≤ 4 := of_decide_eq_true h
set_option maxRecDepth 8000 in
set_option maxHeartbeats 8000000 in
theorem tapslaw_any (ha pa la : Option Addr) (hn hc pn pc lc : Nat) (rs us : List RH) (n : Int) (xs : List Int) (w : World) (h : RS w ⟨ha, hn, hc⟩ rs) (hi : ∀ r ∈ rs, RatIn w r) (p : RS w ⟨pa, pn, pc⟩ us) (pi : ∀ r ∈ us, RatIn w r)
    (hn1 : -9223372036854775808 ≤ n) (hn2 : n ≤ 9223372036854775807) (x : IntsAt w la xs) (xr : InR xs) (xl : xs.length ≤ 9223372036854775807) (xc : xs.length ≤ lc) (xcm : lc ≤ 9223372036854775807) :
    Does 6 [.slice ha hn hc, .slice pa pn pc, .int .i64 n, .slice la xs.length lc] w (fun _ : Unit => .bool true) (fun _ _ => True) := by
  have HX := Lib.hid (Ext.refl w)
  have H := Lib.hid h
  have HP := Lib.hid p
  have HI := Lib.hid hi
  have PI := Lib.hid pi
  have hle := h.le
  have hmx := h.max
  have Hlen := Lib.hid h.len
  simp only at hle hmx Hlen
  have HC1 : Hid (∀ w1, Ext w w1 → Does 47 [.slice la xs.length lc, .int .i64 ((6 : Nat) : Int)] w1 SH.v (fun s w' => NewL w1.heap.size w' s (polyQ xs 6))) := Lib.hid (fun w1 hE => poly_any la lc 6 xs w1 (x.ext hE) xr xl (by decide) xc xcm)
  have ZQ := Lib.hid (pq_sz xs 6)
  have LQ := Lib.hid (pq_len xs 6)
  have TQ : Hid (tz (polyQ xs 6) = polyQ xs 6) := Lib.hid (tz_idem _)
  obtain ⟨m, hm⟩ : ∃ m, m = xs.length := ⟨_, rfl⟩
  obtain ⟨q, hq⟩ : ∃ q, q = polyQ xs 6 := ⟨_, rfl⟩
  rw [← hm] at HC1 xl xc ⊢
  rw [← hq] at HC1 ZQ LQ TQ
  clear hm hq h p hi pi x xr
  unfold Does
  by_cases h9 : 9 < hn
  case pos =>
    have h9i : (9 : Int) < hn := by omega
    go_enter Tryz.func6, Tryz.ntmps6
    go_wp2_with fail
    refine Calls.mono (awake8_any _) ?_
    rintro e w1 ⟨x1, rfl, hE, -⟩
    replace HX := Lib.hid (HX.out.trans hE)
    have hs_w1 := hE.size
    clear hE
    go_wp2
    go_ret
    exact ⟨(), rfl, HX.out, trivial⟩
  have h9i : ¬ (9 : Int) < hn := by omega
  go_enter Tryz.func6, Tryz.ntmps6
  go_wp2_with fail
  refine Calls.mono (smallpoly_any pa pn pc us _ HP.out) ?_
  rintro e w1 ⟨x1, rfl, hE, g1⟩
  have G1 := Lib.hid g1
  clear g1
  replace HX := Lib.hid (HX.out.trans hE)
  have hs_w1 := hE.size
  clear hE
  cases x1
  case false =>
    go_wp2_with fail
    refine Calls.mono (awake8_any _) ?_
    rintro e w2 ⟨x2, rfl, hE, -⟩
    replace HX := Lib.hid (HX.out.trans hE)
    have hs_w2 := hE.size
    clear hE
    go_wp2
    go_ret
    exact ⟨(), rfl, HX.out, trivial⟩
  obtain ⟨hp8, hpd⟩ := G1.out.1 rfl
  obtain ⟨ps, hps, hpz⟩ := rats_raw HP.out PI.out hpd (by decide) (by decide)
  have LP := Lib.hid hps
  have ZP := Lib.hid hpz
  clear G1 hpd hps hpz HP PI
  have E1 := Lib.hid (Ext.refl w1)
  have HXw := HX
  go_wp2
  go_loopg [36] hn (fun g i wr => ∃ j : Nat, j + g = hn ∧ i = .int .i64 (j : Nat) ∧ Ext w wr ∧ SmD 4 (rs.take j))
  case atStart => exact ⟨0, by omega, rfl, HX.out, fun r hr => by simp at hr⟩
  case round =>
    obtain ⟨j, hj, rfl, g1, g2⟩ := hrel
    clear HX HXw E1
    have HX := Lib.hid g1
    have HS := Lib.hid g2
    clear g1 g2
    by_cases h0 : gk = 0
    case neg =>
      have hjn : (j : Int) < hn := by omega
      obtain ⟨b, off, hao, ⟨hc1, hc2, hc3⟩⟩ := (H.out.ext HX.out).at (k := j) (by omega)
      obtain ⟨r, hr⟩ : ∃ r, r = rs.getD j default := ⟨_, rfl⟩
      rw [← hr] at hc1 hc2 hc3
      have Hr := Lib.hid hr
      obtain ⟨rneg, ra, rn, rc, rb, rm, rd⟩ := r
      simp only at hc1 hc2 hc3
      subst hao
      have hbl : b < wr.heap.size := World.block_lt_of_cell? _ _ hc1
      clear hr
      go_upto_region 6 with fail
      refine nm_alloc ?_
      intro y1 hE hB0 hz
      have hz_y1 := Nat.le_of_eq hz
      have hr_y1 := Nat.le_of_eq hz.symm
      clear hz
      replace HX := Lib.hid (HX.out.trans hE)
      have hs_y1 := hE.size
      clear hE
      have B4 := Lib.hid hB0
      clear hB0
      have c_B4 := blk_cell B4.out
      have f_B4 := blk_frozen B4.out
      have l_B4 := (Array.getElem?_eq_some_iff.1 B4.out).1
      clear hc1 hc2 hc3 hbl
      go_wp2_with fail
      refine Calls.mono (smallrat_any ⟨rneg, ra, rn, rc, rb, rm, rd⟩ _) ?_
      rintro e w3 ⟨x3, rfl, hE, -⟩
      replace HX := Lib.hid (HX.out.trans hE)
      replace B4 := Lib.hid (hE.block B4.out)
      have hs_w3 := hE.size
      clear hE
      (try clear c_B4 f_B4 l_B4)
      have c_B4 := blk_cell B4.out
      have f_B4 := blk_frozen B4.out
      have l_B4 := (Array.getElem?_eq_some_iff.1 B4.out).1
      obtain ⟨s4, hs4⟩ : ∃ s4, s4 = sm4 rn rm := ⟨_, rfl⟩
      rw [show sm4 (RH.n ⟨rneg, ra, rn, rc, rb, rm, rd⟩) (RH.m ⟨rneg, ra, rn, rc, rb, rm, rd⟩) = s4 from hs4.symm]
      have Hs4 := Lib.hid hs4
      clear hs4
      cases s4
      case false =>
        go_wp2_with fail
        refine Calls.mono (awake8_any _) ?_
        rintro e w4 ⟨x4, rfl, hE, -⟩
        replace HX := Lib.hid (HX.out.trans hE)
        replace B4 := Lib.hid (hE.block B4.out)
        have hs_w4 := hE.size
        clear hE
        (try clear c_B4 f_B4 l_B4)
        have c_B4 := blk_cell B4.out
        have f_B4 := blk_frozen B4.out
        have l_B4 := (Array.getElem?_eq_some_iff.1 B4.out).1
        go_wp2
        go_ret
        exact ⟨(), rfl, HX.out, trivial⟩
      have HS2 : Hid (SmD 4 (rs.take (j + 1))) := Lib.hid (HS.out.take_succ (by rw [Hlen.out]; omega) (by rw [← Hr.out]; exact sm4_true Hs4.out.symm))
      go_wp2
      go_roundg (gk - 1)
      case measure => omega
      case rel => exact ⟨j + 1, by omega, by go_num, HX.out, HS2.out⟩
    subst h0
    obtain rfl : j = hn := by omega
    have hjn : ¬ (j : Int) < j := by omega
    have HE : Hid (rs.take j = rs) := Lib.hid (List.take_of_length_le (by rw [Hlen.out]; exact Nat.le_refl _))
    rw [HE.out] at HS
    obtain ⟨hs, hhs, hhz⟩ := rats_raw H.out HI.out HS.out (by decide) (by decide)
    have LH := Lib.hid (hhs.ext HX.out)
    have ZH := Lib.hid hhz
    replace LP := Lib.hid (LP.out.ext HX.out)
    have LQl : Hid ((tbV q.length q).length ≤ 7) := Lib.hid (by rw [tbV_len]; exact LQ.out)
    have ZC : Hid (SzL 512 (tbV q.length q)) := Lib.hid ((tbV_sz1 ZQ.out (by decide) (by have := LQ.out; omega)).mono (by
      have := Nat.pow_le_pow_right (show 0 < 2 by decide) LQ.out
      omega))
    have hpl : (tz ps).length ≤ 8 := by have h1 := tz_len_le ps; have h2 := LP.out.len; simp only at h2; omega
    have ZCp : Hid (SzL 5000000 (tbV (tz ps).length (tz ps))) := Lib.hid ((tbV_sz1 (ZP.out.tz) (by decide) (by omega)).mono (by
      have := Nat.pow_le_pow_right (show 0 < 2 by decide) hpl
      omega))
    obtain ⟨K, hK1, hK2, hK3⟩ : ∃ K : Nat, (K : Int) = 6 + n % 3 ∧ 6 ≤ K ∧ K ≤ 8 := by
      have h1 := Int.emod_nonneg n (show (3 : Int) ≠ 0 by decide)
      have h2 := Int.emod_lt_of_pos n (show (0 : Int) < 3 by decide)
      exact ⟨(6 + n % 3).toNat, by omega, by omega, by omega⟩
    have HK := Lib.hid hK1
    have HV1 : Hid (tapsV q K = (0, tapL (tbV q.length q) K)) := Lib.hid (by
      unfold tapsV
      have := LQ.out
      rw [TQ.out, if_neg (by omega), if_neg (by omega)]
      rfl)
    have HV2 : Hid (ampV (tapL (tbV q.length q) K) = (0, q)) := Lib.hid (by rw [ampV_tap (by have := LQl.out; omega), fbV_tbV TQ.out])
    have ZT : Hid (SzL 513 (tapL (tbV q.length q) K)) := Lib.hid (tapK_sz ZC.out (by decide))
    have LT : Hid ((tapL (tbV q.length q) K).length = 2 * K + 1) := Lib.hid (tapK_len _ _)
    have ZCq : Hid (SzL 5000000 (tbV (tz q).length (tz q))) := Lib.hid (by rw [TQ.out]; exact ZC.out.mono (by decide))
    obtain ⟨t, ht⟩ : ∃ t, t = tapL (tbV q.length q) K := ⟨_, rfl⟩
    rw [← ht] at HV1 HV2 ZT LT
    clear ht hK1 hhs hhz hpl LQl ZC H HI HS HE
    go_wp2_with fail
    refine Calls.mono (amplitude_any ha j hc 4 hs _ LH.out (by omega) ZH.out (by decide) (by decide)) ?_
    rintro e w10 ⟨x10, rfl, hE, g10⟩
    have G10 := Lib.hid g10
    clear g10
    replace HX := Lib.hid (HX.out.trans hE)
    replace LH := Lib.hid (LH.out.ext hE)
    replace LP := Lib.hid (LP.out.ext hE)
    have hs_w10 := hE.size
    clear hE
    obtain ⟨⟨a1, m1, c1⟩, e1⟩ := x10
    obtain ⟨he1, hl1⟩ := G10.out
    simp only at he1 hl1
    have L1 := Lib.hid hl1
    have F1 := Lib.hid he1
    clear G10 hl1 he1
    simp only [RF, SH.v]
    go_wp2_with fail
    refine Calls.mono (amplitude8_any ha j hc 4 hs _ LH.out (by omega) ZH.out (by decide) (by decide)) ?_
    rintro e w11 ⟨x11, rfl, hE, g11⟩
    have G11 := Lib.hid g11
    clear g11
    replace HX := Lib.hid (HX.out.trans hE)
    replace LH := Lib.hid (LH.out.ext hE)
    replace LP := Lib.hid (LP.out.ext hE)
    replace L1 := Lib.hid (L1.out.ext hE)
    have hs_w11 := hE.size
    clear hE
    obtain ⟨⟨a2, m2, c2⟩, e2⟩ := x11
    obtain ⟨he2, hl2⟩ := G11.out
    simp only at he2 hl2
    have L2 := Lib.hid hl2
    obtain rfl : e2 = e1 := he2.trans F1.out.symm
    clear G11 hl2 he2 F1
    simp only [RF, SH.v]
    go_wp2_with fail
    refine Calls.mono (taps_any pa pn pc 2 ps n _ LP.out (by omega) ZP.out (by decide) (by decide) ZCp.out) ?_
    rintro e w12 ⟨x12, rfl, hE, g12⟩
    have G12 := Lib.hid g12
    clear g12
    replace HX := Lib.hid (HX.out.trans hE)
    replace LH := Lib.hid (LH.out.ext hE)
    replace LP := Lib.hid (LP.out.ext hE)
    replace L1 := Lib.hid (L1.out.ext hE)
    replace L2 := Lib.hid (L2.out.ext hE)
    have hs_w12 := hE.size
    clear hE
    obtain ⟨⟨a3, m3, c3⟩, e3⟩ := x12
    obtain ⟨he3, hl3⟩ := G12.out
    simp only at he3 hl3
    have L3 := Lib.hid hl3
    have F3 := Lib.hid he3
    clear G12 hl3 he3
    simp only [RF, SH.v]
    go_wp2_with fail
    refine Calls.mono (taps8_any pa pn pc 2 ps n _ LP.out (by omega) ZP.out (by decide) (by decide) ZCp.out) ?_
    rintro e w13 ⟨x13, rfl, hE, g13⟩
    have G13 := Lib.hid g13
    clear g13
    replace HX := Lib.hid (HX.out.trans hE)
    replace LH := Lib.hid (LH.out.ext hE)
    replace LP := Lib.hid (LP.out.ext hE)
    replace L1 := Lib.hid (L1.out.ext hE)
    replace L2 := Lib.hid (L2.out.ext hE)
    replace L3 := Lib.hid (L3.out.ext hE)
    have hs_w13 := hE.size
    clear hE
    obtain ⟨⟨a4, m4, c4⟩, e4⟩ := x13
    obtain ⟨he4, hl4⟩ := G13.out
    simp only at he4 hl4
    have L4 := Lib.hid hl4
    obtain rfl : e4 = e3 := he4.trans F3.out.symm
    clear G13 hl4 he4 F3
    simp only [RF, SH.v]
    go_wp2_with fail
    refine Calls.mono (equal_any ⟨a1, m1, c1⟩ ⟨a2, m2, c2⟩ _ _ _ L1.out L2.out) ?_
    rintro e w14 ⟨x14, rfl, hE, -⟩
    replace HX := Lib.hid (HX.out.trans hE)
    replace LH := Lib.hid (LH.out.ext hE)
    replace LP := Lib.hid (LP.out.ext hE)
    replace L1 := Lib.hid (L1.out.ext hE)
    replace L2 := Lib.hid (L2.out.ext hE)
    replace L3 := Lib.hid (L3.out.ext hE)
    replace L4 := Lib.hid (L4.out.ext hE)
    have hs_w14 := hE.size
    clear hE
    rw [decide_eq_true rfl]
    clear L1
    clear L2
    go_wp2_with fail
    refine Calls.mono (samelist_any ⟨a3, m3, c3⟩ ⟨a4, m4, c4⟩ _ _ _ L3.out L4.out) ?_
    rintro e w15 ⟨x15, rfl, hE, -⟩
    replace HX := Lib.hid (HX.out.trans hE)
    replace LH := Lib.hid (LH.out.ext hE)
    replace LP := Lib.hid (LP.out.ext hE)
    replace L3 := Lib.hid (L3.out.ext hE)
    replace L4 := Lib.hid (L4.out.ext hE)
    have hs_w15 := hE.size
    clear hE
    rw [decide_eq_true rfl]
    clear L3
    clear L4
    go_wp2_with fail
    refine Calls.mono (HC1.out _ HX.out) ?_
    rintro e w16 ⟨x16, rfl, hE, g16⟩
    have G16 := Lib.hid g16
    clear g16
    replace HX := Lib.hid (HX.out.trans hE)
    replace LH := Lib.hid (LH.out.ext hE)
    replace LP := Lib.hid (LP.out.ext hE)
    have hs_w16 := hE.size
    clear hE
    obtain ⟨a5, n5, c5⟩ := x16
    simp only [SH.v]
    have hl5 := LQ.out
    have hn5 := G16.out.len
    simp only at hn5
    rw [hn5] at hl5
    clear hn5
    go_wp2_with fail
    refine Calls.mono (mod_any n 3 _ hn1 hn2 (by decide) (by decide)) ?_
    rintro e w17 ⟨x17, rfl, hE, -⟩
    replace HX := Lib.hid (HX.out.trans hE)
    replace LH := Lib.hid (LH.out.ext hE)
    replace LP := Lib.hid (LP.out.ext hE)
    replace G16 := Lib.hid (G16.out.ext hE)
    have hs_w17 := hE.size
    clear hE
    go_wp2_with fail
    rw [← HK.out]
    refine Calls.mono (taps_any a5 n5 c5 1 q (K : Int) _ (G16.out.can.raw ZQ.out (by decide)) (by omega) ZQ.out (by decide) (by decide) ZCq.out) ?_
    rintro e w18 ⟨x18, rfl, hE, g18⟩
    have G18 := Lib.hid g18
    clear g18
    replace HX := Lib.hid (HX.out.trans hE)
    replace LH := Lib.hid (LH.out.ext hE)
    replace LP := Lib.hid (LP.out.ext hE)
    replace G16 := Lib.hid (G16.out.ext hE)
    have hs_w18 := hE.size
    clear hE
    obtain ⟨⟨a6, n6, c6⟩, e6⟩ := x18
    obtain ⟨he, hl6⟩ := G18.out
    rw [HV1.out] at he hl6
    simp only at he hl6
    subst he
    have L6 := Lib.hid hl6
    clear hl6 G18
    simp only [RF, SH.v]
    have hn6 := L6.out.len
    rw [LT.out] at hn6
    simp only at hn6
    subst hn6
    go_wp2_with fail
    refine Calls.mono (amplitude_any a6 (2 * K + 1) c6 513 t _ (L6.out.raw ZT.out (by decide)) (by omega) ZT.out (by decide) (by decide)) ?_
    rintro e w19 ⟨x19, rfl, hE, g19⟩
    have G19 := Lib.hid g19
    clear g19
    replace HX := Lib.hid (HX.out.trans hE)
    replace LH := Lib.hid (LH.out.ext hE)
    replace LP := Lib.hid (LP.out.ext hE)
    replace G16 := Lib.hid (G16.out.ext hE)
    replace L6 := Lib.hid (L6.out.ext hE)
    have hs_w19 := hE.size
    clear hE
    obtain ⟨⟨a7, n7, c7⟩, e7⟩ := x19
    obtain ⟨he, hl7⟩ := G19.out
    rw [HV2.out] at he hl7
    simp only at he hl7
    subst he
    have L7 := Lib.hid hl7
    clear hl7 G19
    simp only [RF, SH.v]
    go_wp2_with fail
    refine Calls.mono (awake8_any _) ?_
    rintro e w20 ⟨x20, rfl, hE, -⟩
    replace HX := Lib.hid (HX.out.trans hE)
    replace LH := Lib.hid (LH.out.ext hE)
    replace LP := Lib.hid (LP.out.ext hE)
    replace G16 := Lib.hid (G16.out.ext hE)
    replace L6 := Lib.hid (L6.out.ext hE)
    replace L7 := Lib.hid (L7.out.ext hE)
    have hs_w20 := hE.size
    clear hE
    go_wp2_with fail
    refine Calls.mono (equal_any ⟨a7, n7, c7⟩ ⟨a5, n5, c5⟩ q q _ L7.out G16.out.can) ?_
    rintro e w21 ⟨x21, rfl, hE, -⟩
    replace HX := Lib.hid (HX.out.trans hE)
    replace LH := Lib.hid (LH.out.ext hE)
    replace LP := Lib.hid (LP.out.ext hE)
    replace G16 := Lib.hid (G16.out.ext hE)
    replace L6 := Lib.hid (L6.out.ext hE)
    replace L7 := Lib.hid (L7.out.ext hE)
    have hs_w21 := hE.size
    clear hE
    rw [decide_eq_true rfl]
    go_wp2
    go_ret
    exact ⟨(), rfl, HX.out, trivial⟩
end Go.Proofs.YtbcamhfoemnmgaaGreat
