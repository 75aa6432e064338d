/- Powers and binomial coefficients. -/
import Derived.Test.YteafdebcihbjdaaGreatM17
import Derived.Test.YteafdebcihbjdaaGreatM10
set_option linter.unusedVariables false
namespace Go.Proofs.YteafdebcihbjdaaGreat
open Go.RowKit Go.Front Go.Num
attribute [local go_sem] XW.cell XW.frozen
theorem pow_digs {v K m : Nat} (hv : v < W32 ^ K) (hm : m ≤ 64) (hK : 1 ≤ K) : (digs (v ^ m)).length ≤ 64 * K := by
  apply digs_len
  rcases Nat.eq_zero_or_pos m with h0 | h0
  · subst h0
    rw [Nat.pow_zero]
    exact Nat.lt_of_lt_of_le (by decide : 1 < 2) (W32_pow_ge (by omega))
  · have h1 : v ^ m < (W32 ^ K) ^ m := Nat.pow_lt_pow_left hv (by omega)
    rw [← Nat.pow_mul] at h1
    exact Nat.lt_of_lt_of_le h1 (Nat.pow_le_pow_right W32_pos (by rw [Nat.mul_comm 64]; exact Nat.mul_le_mul_left _ hm))
theorem u32_pone {w : World} {L : Nat} {T : TypeId} (h : w.heap[L]? = some (.cells #[.int .u32 1] T (0, 0))) : U32 w (some ⟨L, 0, none⟩) 1 1 (digs 1) := by
  rw [digs_one]
  refine ⟨rfl, Nat.le_refl _, by decide, fun d hd => ?_, Or.inr ⟨L, 0, rfl, fun k hk => ?_⟩⟩
  · obtain rfl : d = 1 := by simpa using hd
    decide
  · obtain rfl : k = 0 := by omega
    rw [blk_cell h]
    rfl
set_option maxRecDepth 4000 in
set_option maxHeartbeats 2000000 in
theorem power_any (ao : Option Addr) (n cap v K N : Nat) (w : World) (h : U32 w ao n cap (digs v)) (hv : v < W32 ^ K) (hK : 1 ≤ K) (hK2 : K ≤ 1048576) (hN : N ≤ 64) :
    Calls Tryz.prog 125 #[.slice ao n cap, .int .i64 (N : Nat)] w (DPost (digs (v ^ N)) w) := by
  have H := Lib.hid h
  have HX := Lib.hid (Ext.refl w)
  have HL : Hid (∀ m, m ≤ 64 → (digs (v ^ m)).length ≤ 67108864) := Lib.hid (fun m hm => Nat.le_trans (pow_digs hv hm hK) (by omega))
  clear h
  go_enter Tryz.func125, Tryz.ntmps125
  go_upto_region 2 with fail
  refine nm_alloc ?_
  intro w1 hE hB0 hz
  have hz_w1 := Nat.le_of_eq hz
  have hr_w1 := Nat.le_of_eq hz.symm
  clear hz
  replace HX := Lib.hid (HX.out.trans hE)
  have hs_w1 := hE.size
  clear hE
  have B1 := Lib.hid hB0
  clear hB0
  have c_B1 := blk_cell B1.out
  have f_B1 := blk_frozen B1.out
  have l_B1 := (Array.getElem?_eq_some_iff.1 B1.out).1
  have HA : Hid (U32 w1 ao n cap (digs (v ^ 1))) := Lib.hid (by rw [Nat.pow_one]; exact H.out.ext HX.out)
  have HR : Hid (U32 w1 (some ⟨w.heap.size, 0, none⟩) 1 1 (digs (v ^ 0))) := Lib.hid (by rw [Nat.pow_zero]; exact u32_pone B1.out)
  go_loopg [0, 1, 5] N (fun g a z r wr => ∃ (m j : Nat) (s t : SH), a = s.v ∧ z = .int .i64 (g : Nat) ∧ r = t.v ∧ 1 ≤ m ∧ j + m * g = N ∧ Ext w wr ∧ (m ≤ 64 ∨ g = 0) ∧ U32 wr s.a s.n s.c (digs (v ^ m)) ∧ U32 wr t.a t.n t.c (digs (v ^ j)))
  case atStart => exact ⟨1, 0, ⟨ao, n, cap⟩, ⟨some ⟨w.heap.size, 0, none⟩, 1, 1⟩, rfl, rfl, rfl, by decide, by omega, HX.out, Or.inl (by decide), HA.out, HR.out⟩
  case round =>
    obtain ⟨m, j, ⟨sa, sn, sc⟩, ⟨ta, tn, tc⟩, rfl, rfl, rfl, hm1, hj, g1, hm, g2, g3⟩ := hrel
    clear HX HA HR
    have HX := Lib.hid g1
    have HA := Lib.hid g2
    have HR := Lib.hid g3
    simp only at g2 g3
    clear g1 g2 g3
    simp only [SH.v]
    simp only at HA HR
    by_cases h0 : gk = 0
    case pos =>
      subst h0
      have HE : Hid (v ^ j = v ^ N) := Lib.hid (by rw [← hj, Nat.mul_zero, Nat.add_zero])
      rw [HE.out] at HR
      clear hj hm
      go_wp2
      go_ret
      exact ⟨ta, tn, tc, rfl, HR.out, HX.out⟩
    have hm64 : m ≤ 64 := by omega
    have hgi : (0 : Int) < gk := by omega
    have hmg : m ≤ m * gk := Nat.le_mul_of_pos_right m (by omega)
    have hj64 : j ≤ 64 := by omega
    have hsl : sn ≤ 67108864 := by have h1 := HA.out.len; have h2 := HL.out m hm64; rw [h1] at h2; exact h2
    have htl : tn ≤ 67108864 := by have h1 := HR.out.len; have h2 := HL.out j hj64; rw [h1] at h2; exact h2
    obtain ⟨g2, hg2⟩ : ∃ g2, g2 = gk / 2 := ⟨_, rfl⟩
    have hdI : (gk : Int).tdiv 2 = g2 := by have h2 : (gk : Int).tdiv 2 = ((gk / 2 : Nat) : Int) := rfl; omega
    have hdJ : (gk : Int) / 2 = g2 := by omega
    have hlt : g2 < gk := by omega
    have hgk : gk ≤ 64 := by have := Nat.le_mul_of_pos_left gk hm1; omega
    have hg64 : (g2 : Int) ≤ 64 := by omega
    have HSq : Hid (val (digs (v ^ m)) * val (digs (v ^ m)) = v ^ (2 * m)) := Lib.hid (by rw [val_digs, ← Nat.pow_add, Nat.two_mul])
    have HMu : Hid (val (digs (v ^ j)) * val (digs (v ^ m)) = v ^ (j + m)) := Lib.hid (by rw [val_digs, val_digs, ← Nat.pow_add])
    rcases Nat.mod_two_eq_zero_or_one gk with hpar | hpar
    · have hmI : (gk : Int).tmod 2 = 0 := by have h2 : (gk : Int).tmod 2 = ((gk % 2 : Nat) : Int) := rfl; omega
      have hmJ : (gk : Int) % 2 = 0 := by omega
      have hg : gk = 2 * g2 := by omega
      have hg2p : (0 : Int) < g2 := by omega
      have hjn : j + 2 * m * g2 = N := by rw [← hj, hg, Nat.mul_comm 2 m, Nat.mul_assoc]
      have hm2 : 2 * m ≤ 64 ∨ g2 = 0 := by
        left
        have := Nat.le_mul_of_pos_right (2 * m) (show 0 < g2 by omega)
        omega
      clear hj hm hmg hpar hg2 hg
      go_wp2_with fail
      refine Calls.mono (mul_any sa sa sn sc sn sc _ _ _ HA.out HA.out (by omega) (by omega)) ?_
      rintro e w3 ⟨a3, n3, c3, rfl, hU, hE⟩
      rw [HSq.out] at hU
      have HU := Lib.hid hU
      clear hU
      replace HX := Lib.hid (HX.out.trans hE)
      replace HA := Lib.hid (HA.out.ext hE)
      replace HR := Lib.hid (HR.out.ext hE)
      have hs_w3 := hE.size
      clear hE
      clear hdI hdJ hmI hmJ
      go_wp2
      go_roundg g2
      case measure => omega
      case rel => exact ⟨2 * m, j, ⟨a3, n3, c3⟩, ⟨ta, tn, tc⟩, rfl, by go_num, rfl, by omega, hjn, HX.out, hm2, HU.out, HR.out⟩
    · have hmI : (gk : Int).tmod 2 = 1 := by have h2 : (gk : Int).tmod 2 = ((gk % 2 : Nat) : Int) := rfl; omega
      have hmJ : (gk : Int) % 2 = 1 := by omega
      have hg : gk = 2 * g2 + 1 := by omega
      have hjn : j + m + 2 * m * g2 = N := by rw [← hj, hg, Nat.mul_add, Nat.mul_one, Nat.mul_comm 2 m, Nat.mul_assoc]; omega
      have hm2 : 2 * m ≤ 64 ∨ g2 = 0 := by
        rcases Nat.eq_zero_or_pos g2 with h1 | h1
        · exact Or.inr h1
        · left
          have := Nat.le_mul_of_pos_right (2 * m) h1
          omega
      have hjm : j + m ≤ 64 := by omega
      clear hj hm hmg hpar hg2 hg
      go_wp2_with fail
      refine Calls.mono (mul_any ta sa tn tc sn sc _ _ _ HR.out HA.out (by omega) (by omega)) ?_
      rintro e w3 ⟨a3, n3, c3, rfl, hU, hE⟩
      rw [HMu.out] at hU
      have HU := Lib.hid hU
      clear hU
      replace HX := Lib.hid (HX.out.trans hE)
      replace HA := Lib.hid (HA.out.ext hE)
      replace HR := Lib.hid (HR.out.ext hE)
      have hs_w3 := hE.size
      clear hE
      by_cases hg0 : g2 = 0
      case pos =>
        subst hg0
        have hjn2 : j + m + m * 0 = N := by rw [Nat.mul_zero] at hjn ⊢; exact hjn
        go_wp2
        go_roundg 0
        case measure => omega
        case rel => exact ⟨m, j + m, ⟨sa, sn, sc⟩, ⟨a3, n3, c3⟩, rfl, rfl, rfl, hm1, hjn2, HX.out, Or.inr rfl, HA.out, HU.out⟩
      have hg2p : (0 : Int) < g2 := by omega
      go_wp2_with fail
      refine Calls.mono (mul_any sa sa sn sc sn sc _ _ _ HA.out HA.out (by omega) (by omega)) ?_
      rintro e w4 ⟨a4, n4, c4, rfl, hU, hE⟩
      rw [HSq.out] at hU
      have HU4 := Lib.hid hU
      clear hU
      replace HX := Lib.hid (HX.out.trans hE)
      replace HA := Lib.hid (HA.out.ext hE)
      replace HR := Lib.hid (HR.out.ext hE)
      replace HU := Lib.hid (HU.out.ext hE)
      have hs_w4 := hE.size
      clear hE
      clear hdI hdJ hmI hmJ
      go_wp2
      go_roundg g2
      case measure => omega
      case rel => exact ⟨2 * m, j + m, ⟨a4, n4, c4⟩, ⟨a3, n3, c3⟩, rfl, by go_num, rfl, by omega, hjn, HX.out, hm2, HU4.out, HU.out⟩
set_option maxRecDepth 4000 in
set_option maxHeartbeats 1000000 in
theorem npow_any (ao : Option Addr) (n cap v K N : Nat) (w : World) (h : U32 w ao n cap (digs v)) (hv : v < W32 ^ K) (hK : 1 ≤ K) (hK2 : K ≤ 1048576) (hN : N ≤ 64) :
    Does 95 [.slice ao n cap, .int .i64 (N : Nat)] w RF (fun x w' => x.2 = 0 ∧ x.1.U w' (digs (v ^ N))) := by
  have H := Lib.hid h
  have HX := Lib.hid (Ext.refl w)
  have h1 : ¬ (N : Int) < 0 := by omega
  have h2 : ¬ (64 : Int) < N := by omega
  clear h
  unfold Does
  go_enter Tryz.func95, Tryz.ntmps95
  go_wp2_with fail
  refine Calls.mono (power_any ao n cap v K N _ H.out hv hK hK2 hN) ?_
  rintro e w3 ⟨a3, n3, c3, rfl, hU, hE⟩
  have HU := Lib.hid hU
  clear hU
  replace HX := Lib.hid (HX.out.trans hE)
  have hs_w3 := hE.size
  clear hE
  go_wp2
  exact bodyPost_ret (v := RF (⟨a3, n3, c3⟩, 0)) (by simp [results, Tryz.results95, go_sem, RF]) rfl ⟨(⟨a3, n3, c3⟩, 0), rfl, HX.out, rfl, HU.out⟩
theorem pow_negn (n N : Nat) : (-(n : Int)) ^ N = if N % 2 = 1 then -((n ^ N : Nat) : Int) else ((n ^ N : Nat) : Int) := by
  induction N with
  | zero => simp
  | succ N ih =>
    rw [Int.pow_succ, ih, Nat.pow_succ]
    by_cases h : N % 2 = 1
    · rw [if_pos h, if_neg (by omega), Int.neg_mul_neg, Int.natCast_mul]
    · rw [if_neg h, if_pos (by omega), Int.mul_neg, Int.natCast_mul]
theorem pow_neg (z : Int) (N : Nat) : decide (z ^ N < 0) = (decide (z < 0) && decide (N % 2 = 1)) := by
  rcases Int.lt_or_le z 0 with h | h
  · obtain ⟨n, rfl⟩ : ∃ n : Nat, z = -(n : Int) := ⟨z.natAbs, by omega⟩
    have hn : 0 < n := by omega
    have hp : 0 < n ^ N := Nat.pow_pos hn
    rw [pow_negn, decide_eq_true h, Bool.true_and]
    apply decide_eq_decide.2
    split
    · rename_i h1
      exact ⟨fun _ => h1, fun _ => by omega⟩
    · rename_i h1
      exact ⟨fun h2 => by omega, fun h2 => absurd h2 h1⟩
  · obtain ⟨n, rfl⟩ : ∃ n : Nat, z = (n : Int) := ⟨z.natAbs, by omega⟩
    rw [decide_eq_false (show ¬ ((n : Int) < 0) by omega), Bool.false_and, ← Int.natCast_pow]
    exact decide_eq_false (by omega)
set_option maxRecDepth 8000 in
set_option maxHeartbeats 2000000 in
theorem rpow_any (t : RH) (q : Rat) (K N : Nat) (w : World) (h : RawR w t q) (hz : Sz K q) (hK : 1 ≤ K) (hK2 : K ≤ 1048576) (hN : N ≤ 64) :
    Does 53 [t.v, .int .i64 (N : Nat)] w (fun x : RH => DV x 0) (fun x w' => CanR w' x (q ^ N)) := by
  obtain ⟨tneg, ta, tn, tc, tb, tm, td⟩ := t
  have H := Lib.hid h
  have HX := Lib.hid (Ext.refl w)
  have Hz := Lib.hid hz
  have h1 : ¬ (N : Int) < 0 := by omega
  have h2 : ¬ (64 : Int) < N := by omega
  clear h hz
  unfold Does
  go_enter Tryz.func53, Tryz.ntmps53
  go_upto_region 1 with fail
  refine nm_alloc2 ?_
  intro w1 hE hB0 hB1 hz
  have hz_w1 := Nat.le_of_eq hz
  have hr_w1 := Nat.le_of_eq hz.symm
  clear hz
  replace HX := Lib.hid (HX.out.trans hE)
  have hs_w1 := hE.size
  clear hE
  have B2 := Lib.hid hB0
  clear hB0
  have c_B2 := blk_cell B2.out
  have f_B2 := blk_frozen B2.out
  have l_B2 := (Array.getElem?_eq_some_iff.1 B2.out).1
  have B4 := Lib.hid hB1
  clear hB1
  have c_B4 := blk_cell B4.out
  have f_B4 := blk_frozen B4.out
  have l_B4 := (Array.getElem?_eq_some_iff.1 B4.out).1
  go_wp2_with fail
  refine Calls.mono (rtrim_any ⟨tneg, ta, tn, tc, tb, tm, td⟩ q _ (H.out.ext HX.out)) ?_
  rintro e w2 ⟨x2, rfl, hE, g2⟩
  have G2 := Lib.hid g2
  clear g2
  replace HX := Lib.hid (HX.out.trans hE)
  replace B2 := Lib.hid (hE.block B2.out)
  replace B4 := Lib.hid (hE.block B4.out)
  have hs_w2 := hE.size
  clear hE
  (try clear c_B2 f_B2 l_B2)
  have c_B2 := blk_cell B2.out
  have f_B2 := blk_frozen B2.out
  have l_B2 := (Array.getElem?_eq_some_iff.1 B2.out).1
  (try clear c_B4 f_B4 l_B4)
  have c_B4 := blk_cell B4.out
  have f_B4 := blk_frozen B4.out
  have l_B4 := (Array.getElem?_eq_some_iff.1 B4.out).1
  obtain ⟨xn, xa, xl, xc, xb, xm, xd⟩ := x2
  go_upto_region 4 with fail
  refine nm_alloc ?_
  intro y3 hE hB0 hz
  have hz_y3 := Nat.le_of_eq hz
  have hr_y3 := Nat.le_of_eq hz.symm
  clear hz
  replace HX := Lib.hid (HX.out.trans hE)
  replace B2 := Lib.hid (hE.block B2.out)
  replace B4 := Lib.hid (hE.block B4.out)
  replace G2 := Lib.hid (G2.out.ext hE)
  have hs_y3 := hE.size
  clear hE
  (try clear c_B2 f_B2 l_B2)
  have c_B2 := blk_cell B2.out
  have f_B2 := blk_frozen B2.out
  have l_B2 := (Array.getElem?_eq_some_iff.1 B2.out).1
  (try clear c_B4 f_B4 l_B4)
  have c_B4 := blk_cell B4.out
  have f_B4 := blk_frozen B4.out
  have l_B4 := (Array.getElem?_eq_some_iff.1 B4.out).1
  have B6 := Lib.hid hB0
  clear hB0
  have c_B6 := blk_cell B6.out
  have f_B6 := blk_frozen B6.out
  have l_B6 := (Array.getElem?_eq_some_iff.1 B6.out).1
  have U1 : Hid (U32 y3 xa xl xc (digs q.num.natAbs)) := Lib.hid G2.out.2.1
  have U2 : Hid (U32 y3 xb xm xd (digs q.den)) := Lib.hid G2.out.2.2
  have HN : Hid (xn = decide (q.num < 0)) := Lib.hid G2.out.1
  clear G2
  go_wp2_with fail
  refine Calls.mono (npow_any xa xl xc q.num.natAbs K N _ U1.out Hz.out.1 hK hK2 hN) ?_
  rintro e w5 ⟨x5, rfl, hE, g5⟩
  have G5 := Lib.hid g5
  clear g5
  replace HX := Lib.hid (HX.out.trans hE)
  replace B2 := Lib.hid (hE.block B2.out)
  replace B4 := Lib.hid (hE.block B4.out)
  replace B6 := Lib.hid (hE.block B6.out)
  replace U1 := Lib.hid (U1.out.ext hE)
  replace U2 := Lib.hid (U2.out.ext hE)
  have hs_w5 := hE.size
  clear hE
  (try clear c_B2 f_B2 l_B2)
  have c_B2 := blk_cell B2.out
  have f_B2 := blk_frozen B2.out
  have l_B2 := (Array.getElem?_eq_some_iff.1 B2.out).1
  (try clear c_B4 f_B4 l_B4)
  have c_B4 := blk_cell B4.out
  have f_B4 := blk_frozen B4.out
  have l_B4 := (Array.getElem?_eq_some_iff.1 B4.out).1
  (try clear c_B6 f_B6 l_B6)
  have c_B6 := blk_cell B6.out
  have f_B6 := blk_frozen B6.out
  have l_B6 := (Array.getElem?_eq_some_iff.1 B6.out).1
  obtain ⟨⟨a5, n5, c5⟩, e5⟩ := x5
  obtain ⟨he5, hu5⟩ := G5.out
  simp only at he5 hu5
  subst he5
  have U5 := Lib.hid hu5
  clear hu5 G5
  simp only [RF, SH.v]
  go_wp2_with fail
  refine Calls.mono (npow_any xb xm xd q.den K N _ U2.out Hz.out.2 hK hK2 hN) ?_
  rintro e w6 ⟨x6, rfl, hE, g6⟩
  have G6 := Lib.hid g6
  clear g6
  replace HX := Lib.hid (HX.out.trans hE)
  replace B2 := Lib.hid (hE.block B2.out)
  replace B4 := Lib.hid (hE.block B4.out)
  replace B6 := Lib.hid (hE.block B6.out)
  replace U1 := Lib.hid (U1.out.ext hE)
  replace U2 := Lib.hid (U2.out.ext hE)
  replace U5 := Lib.hid (U5.out.ext hE)
  have hs_w6 := hE.size
  clear hE
  (try clear c_B2 f_B2 l_B2)
  have c_B2 := blk_cell B2.out
  have f_B2 := blk_frozen B2.out
  have l_B2 := (Array.getElem?_eq_some_iff.1 B2.out).1
  (try clear c_B4 f_B4 l_B4)
  have c_B4 := blk_cell B4.out
  have f_B4 := blk_frozen B4.out
  have l_B4 := (Array.getElem?_eq_some_iff.1 B4.out).1
  (try clear c_B6 f_B6 l_B6)
  have c_B6 := blk_cell B6.out
  have f_B6 := blk_frozen B6.out
  have l_B6 := (Array.getElem?_eq_some_iff.1 B6.out).1
  obtain ⟨⟨a6, n6, c6⟩, e6⟩ := x6
  obtain ⟨he6, hu6⟩ := G6.out
  simp only at he6 hu6
  subst he6
  have U6 := Lib.hid hu6
  clear hu6 G6
  simp only [RF, SH.v]
  have hmI : (N : Int).tmod 2 = ((N % 2 : Nat) : Int) := rfl
  have hmJ : (N : Int) % 2 = ((N % 2 : Nat) : Int) := by omega
  have HS : Hid ((xn && decide (N % 2 = 1)) = decide ((q ^ N).num < 0)) := Lib.hid (by rw [HN.out, Rat.num_pow, pow_neg])
  have HD : Hid (digs (q ^ N).num.natAbs = digs (q.num.natAbs ^ N)) := Lib.hid (by rw [Rat.num_pow, Int.natAbs_pow])
  have HD2 : Hid (digs (q ^ N).den = digs (q.den ^ N)) := Lib.hid (by rw [Rat.den_pow])
  clear HN
  have hbx : (((N % 2 : Nat) : Int) == 1) = decide (N % 2 = 1) := by
    by_cases h : N % 2 = 1
    · rw [h]; rfl
    · rw [decide_eq_false h, beq_eq_false_iff_ne]; omega
  obtain ⟨r, hr⟩ : ∃ r, r = N % 2 := ⟨_, rfl⟩
  rw [← hr] at hmI hmJ HS hbx
  clear hr
  cases xn
  case false =>
    have HC : Hid (CanR w6 ⟨false, a5, n5, c5, a6, n6, c6⟩ (q ^ N)) := Lib.hid ⟨by rw [← HS.out]; rfl, by rw [HD.out]; exact U5.out, by rw [HD2.out]; exact U6.out⟩
    go_wp2
    have hF := (((Fin.start (L := w.heap.size + 1) HX.out (noU_block B4.out rfl)).set (by omega) (i := 0) (v := .bool false) rfl).set (by omega) (i := 1) (v := .slice a5 n5 c5) rfl).set (by omega) (i := 2) (v := .slice a6 n6 c6) rfl
    exact bodyPost_ret (v := DV ⟨false, a5, n5, c5, a6, n6, c6⟩ 0) (by simp [results, Tryz.results53, go_sem, blk_cell B4.out, DV]) rfl ⟨⟨false, a5, n5, c5, a6, n6, c6⟩, rfl, hF.ext, HC.out.keep hF.keep⟩
  case true =>
    by_cases hr1 : r = 1
    case pos =>
      subst hr1
      have HC : Hid (CanR w6 ⟨true, a5, n5, c5, a6, n6, c6⟩ (q ^ N)) := Lib.hid ⟨by rw [← HS.out]; rfl, by rw [HD.out]; exact U5.out, by rw [HD2.out]; exact U6.out⟩
      go_wp2
      have hF := (((Fin.start (L := w.heap.size + 1) HX.out (noU_block B4.out rfl)).set (by omega) (i := 0) (v := .bool true) rfl).set (by omega) (i := 1) (v := .slice a5 n5 c5) rfl).set (by omega) (i := 2) (v := .slice a6 n6 c6) rfl
      exact bodyPost_ret (v := DV ⟨true, a5, n5, c5, a6, n6, c6⟩ 0) (by simp [results, Tryz.results53, go_sem, blk_cell B4.out, DV]) rfl ⟨⟨true, a5, n5, c5, a6, n6, c6⟩, rfl, hF.ext, HC.out.keep hF.keep⟩
    case neg =>
      have hbf : ((r : Int) == 1) = false := by rw [hbx]; exact decide_eq_false hr1
      have HC : Hid (CanR w6 ⟨false, a5, n5, c5, a6, n6, c6⟩ (q ^ N)) := Lib.hid ⟨by rw [← HS.out, decide_eq_false hr1]; rfl, by rw [HD.out]; exact U5.out, by rw [HD2.out]; exact U6.out⟩
      go_wp2
      have hF := (((Fin.start (L := w.heap.size + 1) HX.out (noU_block B4.out rfl)).set (by omega) (i := 0) (v := .bool false) rfl).set (by omega) (i := 1) (v := .slice a5 n5 c5) rfl).set (by omega) (i := 2) (v := .slice a6 n6 c6) rfl
      exact bodyPost_ret (v := DV ⟨false, a5, n5, c5, a6, n6, c6⟩ 0) (by simp [results, Tryz.results53, go_sem, blk_cell B4.out, DV]) rfl ⟨⟨false, a5, n5, c5, a6, n6, c6⟩, rfl, hF.ext, HC.out.keep hF.keep⟩
end Go.Proofs.YteafdebcihbjdaaGreat
