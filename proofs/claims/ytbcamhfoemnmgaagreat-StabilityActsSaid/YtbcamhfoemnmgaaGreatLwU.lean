/- StabilityActs returns true. -/
import Derived.Test.YtbcamhfoemnmgaaGreatM10
import Derived.Test.YtbcamhfoemnmgaaGreatBnd2
import Derived.Test.YtbcamhfoemnmgaaGreatJnR
set_option linter.unusedVariables false
namespace Go.Proofs.YtbcamhfoemnmgaaGreat
open Go.RowKit Go.Front Go.Num
attribute [local go_sem] XW.cell XW.frozen
def upgs (s : Nat) : Nat → Nat
  | 0 => 1
  | j + 1 => 2 * upgs s j + s + 1
theorem upgs_mono {s i j : Nat} (h : i ≤ j) : upgs s i ≤ upgs s j := by
  induction j with
  | zero => obtain rfl : i = 0 := by omega
            exact Nat.le_refl _
  | succ j ih =>
    rcases Nat.lt_or_ge i (j + 1) with h1 | h1
    · exact Nat.le_trans (ih (by omega)) (by simp only [upgs]; omega)
    · obtain rfl : i = j + 1 := by omega
      exact Nat.le_refl _
theorem upgs_pos (s j : Nat) : 1 ≤ upgs s j := by cases j <;> simp only [upgs] <;> omega
theorem ups_szg {s : Nat} (k : List Rat) (h : SzL s k) : SzL (upgs s k.length) (Stab.ups k) := by
  induction k using Stab.snoc_ind with
  | h0 => intro q hq; obtain rfl : q = 1 := by simpa [Stab.ups] using hq
          exact Sz.one
  | h1 l r ih =>
    have h1 := ih (fun q hq => h q (List.mem_append_left _ hq))
    have hr := h r (List.mem_append_right _ (List.mem_singleton.2 rfl))
    rw [Stab.ups_snoc, List.length_append, List.length_singleton, ← up_upE r (Stab.ups_length l)]
    intro q hq
    obtain ⟨i, hi, rfl⟩ := List.mem_map.1 hq
    unfold upE
    exact ((h1.getD (upgs_pos _ _) _).add (hr.mul (h1.getD (upgs_pos _ _) _))).mono (by simp only [upgs]; omega)
theorem upOkg {k : List Rat} (h : SzL 2 k) (hl : k.length ≤ 8) : UpOk k := by
  refine ⟨h.mono (by decide), fun j hj => ?_⟩
  have h1 := ups_szg (k.take j) (fun q hq => h q (List.mem_of_mem_take hq))
  refine h1.mono (Nat.le_trans (upgs_mono (j := 8) ?_) (by decide))
  rw [List.length_take]
  omega
theorem moved_szg {qs : List Rat} {r : Rat} {s t : Nat} (h : SzL s qs) (hr : Sz t r) (hl : (tz qs).length ≤ 6) : SzL (s + ((1 + t) * 5 + 1)) (moved qs r) := by
  intro q hq
  obtain ⟨i, hi, rfl⟩ := List.mem_map.1 hq
  have hi' := List.mem_range.1 hi
  refine ((h.tz.at hi').mul ((Sz.one.div hr).pow i)).mono ?_
  have := Nat.mul_le_mul_left (1 + t) (show i ≤ 5 by omega)
  omega
theorem moved_lng (qs : List Rat) (r : Rat) : (moved qs r).length = (tz qs).length := by simp [moved]
set_option maxRecDepth 4000 in
set_option maxHeartbeats 1000000 in
theorem rsame3_zero (w : World) : Does 42 [RH.v ⟨false, none, 0, 0, none, 0, 0⟩, RH.v ⟨false, none, 0, 0, none, 0, 0⟩] w (fun _ : Unit => .bool true) (fun _ _ => True) := by
  unfold Does
  go_enter Tryz.func42, Tryz.ntmps42
  go_wp2_with fail
  refine Calls.mono (isame2_any ⟨false, none, 0, 0⟩ ⟨false, none, 0, 0⟩ [] [] _ (U32.nil _ _ _ (by decide)) (U32.nil _ _ _ (by decide))) ?_
  rintro e w1 ⟨x1, rfl, hE, g1⟩
  have G1 := Lib.hid g1
  clear g1
  obtain ⟨hcw, hfw⟩ := bcellE hE
  have hsw := hE.size
  (try simp only [World.size_alloc] at hsw)
  have hs0 : w.heap.size < w1.heap.size := by omega
  have hs1 : w.heap.size + 1 < w1.heap.size := by omega
  have E1 := Lib.hid ((Ext.al2).trans hE)
  have X1 := Lib.hid hE
  clear hE
  rw [show decide ((IH.neg ⟨false, none, 0, 0⟩ = IH.neg ⟨false, none, 0, 0⟩) ∧ ([] : List Nat) = []) = true from rfl]
  go_wp2_with fail
  refine Calls.mono (same1_any ⟨none, 0, 0⟩ ⟨none, 0, 0⟩ [] [] _ (U32.nil _ _ _ (by decide)) (U32.nil _ _ _ (by decide))) ?_
  rintro e w2 ⟨x2, rfl, hE, g2⟩
  have G2 := Lib.hid g2
  clear g2
  obtain ⟨hcw, hfw⟩ := bcellE hE
  have hsw := hE.size
  (try simp only [World.size_alloc] at hsw)
  have hs0 : w.heap.size < w2.heap.size := by omega
  have hs1 : w.heap.size + 1 < w2.heap.size := by omega
  have E2 := Lib.hid ((E1.out).trans hE)
  have X2 := Lib.hid hE
  clear hE
  rw [show decide (([] : List Nat) = []) = true from rfl]
  go_wp2
  go_ret
  exact ⟨(), rfl, E2.out, trivial⟩
theorem rsame3_bnd {qs : List Rat} {r : Rat} {n : Int} {x y : RH} (w : World) (h : BndP qs r n x w) (k : BndP qs r n y w) : Does 42 [x.v, y.v] w (fun _ : Unit => .bool true) (fun _ _ => True) := by
  by_cases h0 : boundE qs r n = 0
  · have h1 := rsame3_any x y _ _ w (h.2 h0) (k.2 h0)
    rw [decide_eq_true rfl] at h1
    exact h1
  · rw [h.1 h0, k.1 h0]
    exact rsame3_zero w
theorem BndP.ext {qs : List Rat} {r : Rat} {n : Int} {x : RH} {w w' : World} (h : BndP qs r n x w) (he : Ext w w') : BndP qs r n x w' := ⟨h.1, fun h0 => (h.2 h0).ext he⟩
set_option maxRecDepth 8000 in
set_option maxHeartbeats 8000000 in
theorem actslaw18_any (aa ka : Option Addr) (an ac kn kc : Nat) (rs us : List RH) (t : RH) (n : Int) (w : World) (h : RS w ⟨aa, an, ac⟩ rs) (hi : ∀ r ∈ rs, RatIn w r) (k : RS w ⟨ka, kn, kc⟩ us) (ki : ∀ r ∈ us, RatIn w r) (ht : RatIn w t)
    (hn1 : -9223372036854775808 ≤ n) (hn2 : n ≤ 9223372036854775807) :
    Does 5 [.slice aa an ac, .slice ka kn kc, t.v, .int .i64 n] w (fun _ : Unit => .bool true) (fun _ _ => True) := by
  obtain ⟨tneg, ta, tn, tc, tb, tm, td⟩ := t
  have HX := Lib.hid (Ext.refl w)
  have H1 := Lib.hid h
  have H2 := Lib.hid k
  have I1 := Lib.hid hi
  have I2 := Lib.hid ki
  have I3 := Lib.hid ht
  clear h k hi ki ht
  unfold Does
  go_enter Tryz.func5, Tryz.ntmps5
  go_upto_region 1 with fail
  refine nm_alloc ?_
  intro w1 hE hB0 hz
  have hz_w1 := Nat.le_of_eq hz
  have hr_w1 := Nat.le_of_eq hz.symm
  clear hz
  replace HX := Lib.hid (HX.out.trans hE)
  have hs_w1 := hE.size
  clear hE
  have B6 := Lib.hid hB0
  clear hB0
  have c_B6 := blk_cell B6.out
  have f_B6 := blk_frozen B6.out
  have l_B6 := (Array.getElem?_eq_some_iff.1 B6.out).1
  go_wp2_with fail
  refine Calls.mono (smallpoly_any aa an ac rs _ (H1.out.ext HX.out)) ?_
  rintro e w1 ⟨x1, rfl, hE, g1⟩
  have G1 := Lib.hid g1
  clear g1
  replace HX := Lib.hid (HX.out.trans hE)
  replace B6 := Lib.hid (hE.block B6.out)
  have hs_w1 := hE.size
  clear hE
  (try clear c_B6 f_B6 l_B6)
  have c_B6 := blk_cell B6.out
  have f_B6 := blk_frozen B6.out
  have l_B6 := (Array.getElem?_eq_some_iff.1 B6.out).1
  cases x1
  case false =>
    go_wp2_with fail
    refine Calls.mono (awake18_any _) ?_
    rintro e w2 ⟨x2, rfl, hE, -⟩
    replace HX := Lib.hid (HX.out.trans hE)
    replace B6 := Lib.hid (hE.block B6.out)
    have hs_w2 := hE.size
    clear hE
    (try clear c_B6 f_B6 l_B6)
    have c_B6 := blk_cell B6.out
    have f_B6 := blk_frozen B6.out
    have l_B6 := (Array.getElem?_eq_some_iff.1 B6.out).1
    go_wp2
    go_ret
    exact ⟨(), rfl, HX.out, trivial⟩
  obtain ⟨ha8, had⟩ := G1.out.1 rfl
  obtain ⟨ps, hps, hpz⟩ := rats_raw H1.out I1.out had (by decide) (by decide)
  have LA := Lib.hid (hps.ext HX.out)
  have ZA := Lib.hid hpz
  clear G1 had hps hpz H1 I1
  by_cases h6 : 6 < an
  case pos =>
    have h6i : (6 : Int) < an := by omega
    go_wp2_with fail
    refine Calls.mono (awake18_any _) ?_
    rintro e w2 ⟨x2, rfl, hE, -⟩
    replace HX := Lib.hid (HX.out.trans hE)
    replace B6 := Lib.hid (hE.block B6.out)
    replace LA := Lib.hid (LA.out.ext hE)
    have hs_w2 := hE.size
    clear hE
    (try clear c_B6 f_B6 l_B6)
    have c_B6 := blk_cell B6.out
    have f_B6 := blk_frozen B6.out
    have l_B6 := (Array.getElem?_eq_some_iff.1 B6.out).1
    go_wp2
    go_ret
    exact ⟨(), rfl, HX.out, trivial⟩
  have h6i : ¬ (6 : Int) < an := by omega
  go_wp2_with fail
  refine Calls.mono (smallpoly_any ka kn kc us _ (H2.out.ext HX.out)) ?_
  rintro e w3 ⟨x3, rfl, hE, g3⟩
  have G3 := Lib.hid g3
  clear g3
  replace HX := Lib.hid (HX.out.trans hE)
  replace B6 := Lib.hid (hE.block B6.out)
  replace LA := Lib.hid (LA.out.ext hE)
  have hs_w3 := hE.size
  clear hE
  (try clear c_B6 f_B6 l_B6)
  have c_B6 := blk_cell B6.out
  have f_B6 := blk_frozen B6.out
  have l_B6 := (Array.getElem?_eq_some_iff.1 B6.out).1
  cases x3
  case false =>
    go_wp2_with fail
    refine Calls.mono (awake18_any _) ?_
    rintro e w4 ⟨x4, rfl, hE, -⟩
    replace HX := Lib.hid (HX.out.trans hE)
    replace B6 := Lib.hid (hE.block B6.out)
    replace LA := Lib.hid (LA.out.ext hE)
    have hs_w4 := hE.size
    clear hE
    (try clear c_B6 f_B6 l_B6)
    have c_B6 := blk_cell B6.out
    have f_B6 := blk_frozen B6.out
    have l_B6 := (Array.getElem?_eq_some_iff.1 B6.out).1
    go_wp2
    go_ret
    exact ⟨(), rfl, HX.out, trivial⟩
  obtain ⟨hk8, hkd⟩ := G3.out.1 rfl
  obtain ⟨ks, hks, hkz⟩ := rats_raw H2.out I2.out hkd (by decide) (by decide)
  have LK := Lib.hid (hks.ext HX.out)
  have ZK := Lib.hid hkz
  clear G3 hkd hks hkz H2 I2
  go_wp2_with fail
  refine Calls.mono (smallrat_any ⟨tneg, ta, tn, tc, tb, tm, td⟩ _) ?_
  rintro e w5 ⟨x5, rfl, hE, -⟩
  replace HX := Lib.hid (HX.out.trans hE)
  replace B6 := Lib.hid (hE.block B6.out)
  replace LA := Lib.hid (LA.out.ext hE)
  replace LK := Lib.hid (LK.out.ext hE)
  have hs_w5 := hE.size
  clear hE
  (try clear c_B6 f_B6 l_B6)
  have c_B6 := blk_cell B6.out
  have f_B6 := blk_frozen B6.out
  have l_B6 := (Array.getElem?_eq_some_iff.1 B6.out).1
  obtain ⟨s4, hs4⟩ : ∃ s4, s4 = sm4 tn tm := ⟨_, rfl⟩
  rw [show sm4 (RH.n ⟨tneg, ta, tn, tc, tb, tm, td⟩) (RH.m ⟨tneg, ta, tn, tc, tb, tm, td⟩) = s4 from hs4.symm]
  have Hs4 := Lib.hid hs4
  clear hs4
  cases s4
  case false =>
    go_wp2_with fail
    refine Calls.mono (awake18_any _) ?_
    rintro e w6 ⟨x6, rfl, hE, -⟩
    replace HX := Lib.hid (HX.out.trans hE)
    replace B6 := Lib.hid (hE.block B6.out)
    replace LA := Lib.hid (LA.out.ext hE)
    replace LK := Lib.hid (LK.out.ext hE)
    have hs_w6 := hE.size
    clear hE
    (try clear c_B6 f_B6 l_B6)
    have c_B6 := blk_cell B6.out
    have f_B6 := blk_frozen B6.out
    have l_B6 := (Array.getElem?_eq_some_iff.1 B6.out).1
    go_wp2
    go_ret
    exact ⟨(), rfl, HX.out, trivial⟩
  have hs4 : tn ≤ 4 ∧ tm ≤ 4 := of_decide_eq_true Hs4.out.symm
  obtain ⟨r, hr⟩ := I3.out.raw (by show tn ≤ _; omega) (by show tm ≤ _; omega)
  have ZR : Hid (Sz 4 r) := Lib.hid (hr.sz (by decide) hs4.1 hs4.2)
  have LR := Lib.hid (hr.ext HX.out)
  clear hs4 Hs4 I3 hr
  have HLa : Hid ((tz ps).length ≤ 6) := Lib.hid (by have h1 := tz_len_le ps; have h2 := LA.out.len; simp only at h2; omega)
  have HLk : Hid (ks.length ≤ 8) := Lib.hid (by have h2 := LK.out.len; simp only at h2; omega)
  have HOa : Hid (RefOk ((tz ps).length - 1) (norm (tz ps))) := Lib.hid (reflOk (m := 5) (by decide) ZA.out HLa.out (by decide))
  have HOm : Hid (RefOk ((tz (moved ps r)).length - 1) (norm (tz (moved ps r)))) := Lib.hid (reflOk (m := 5) (s := 28) (by decide) ((moved_szg ZA.out ZR.out HLa.out).mono (by decide)) (Nat.le_trans (tz_len_le _) (by rw [moved_lng]; exact HLa.out)) (by decide))
  have HUk := Lib.hid (upOkg ZK.out HLk.out)
  go_wp2_with fail
  refine Calls.mono (reflections_any aa an ac ps _ LA.out (by omega) (ZA.out.mono (by decide)) (fun _ => HOa.out)) ?_
  rintro e w10 ⟨x10, rfl, hE, g10⟩
  have G10 := Lib.hid g10
  clear g10
  replace HX := Lib.hid (HX.out.trans hE)
  replace B6 := Lib.hid (hE.block B6.out)
  replace LA := Lib.hid (LA.out.ext hE)
  replace LK := Lib.hid (LK.out.ext hE)
  replace LR := Lib.hid (LR.out.ext hE)
  have hs_w10 := hE.size
  clear hE
  (try clear c_B6 f_B6 l_B6)
  have c_B6 := blk_cell B6.out
  have f_B6 := blk_frozen B6.out
  have l_B6 := (Array.getElem?_eq_some_iff.1 B6.out).1
  obtain ⟨⟨a1, m1, c1⟩, e1⟩ := x10
  obtain ⟨he1, hl1⟩ := G10.out
  simp only at he1 hl1
  have L1 := Lib.hid hl1.can
  have F1 := Lib.hid he1
  clear G10 hl1 he1
  simp only [RF, SH.v]
  go_wp2_with fail
  refine Calls.mono (reflections18_any aa an ac ps _ LA.out (by omega) (ZA.out.mono (by decide)) (fun _ => HOa.out)) ?_
  rintro e w11 ⟨x11, rfl, hE, g11⟩
  have G11 := Lib.hid g11
  clear g11
  replace HX := Lib.hid (HX.out.trans hE)
  replace B6 := Lib.hid (hE.block B6.out)
  replace LA := Lib.hid (LA.out.ext hE)
  replace LK := Lib.hid (LK.out.ext hE)
  replace LR := Lib.hid (LR.out.ext hE)
  replace L1 := Lib.hid (L1.out.ext hE)
  have hs_w11 := hE.size
  clear hE
  (try clear c_B6 f_B6 l_B6)
  have c_B6 := blk_cell B6.out
  have f_B6 := blk_frozen B6.out
  have l_B6 := (Array.getElem?_eq_some_iff.1 B6.out).1
  obtain ⟨⟨a2, m2, c2⟩, e2⟩ := x11
  obtain ⟨he2, hl2⟩ := G11.out
  simp only at he2 hl2
  have L2 := Lib.hid hl2
  obtain rfl : e2 = e1 := he2.trans F1.out.symm
  clear G11 hl2 he2 F1
  simp only [RF, SH.v]
  go_wp2_with fail
  refine Calls.mono (stepup_any ka kn kc ks _ LK.out (by omega) HUk.out) ?_
  rintro e w12 ⟨x12, rfl, hE, g12⟩
  have G12 := Lib.hid g12
  clear g12
  replace HX := Lib.hid (HX.out.trans hE)
  replace B6 := Lib.hid (hE.block B6.out)
  replace LA := Lib.hid (LA.out.ext hE)
  replace LK := Lib.hid (LK.out.ext hE)
  replace LR := Lib.hid (LR.out.ext hE)
  replace L1 := Lib.hid (L1.out.ext hE)
  replace L2 := Lib.hid (L2.out.ext hE)
  have hs_w12 := hE.size
  clear hE
  (try clear c_B6 f_B6 l_B6)
  have c_B6 := blk_cell B6.out
  have f_B6 := blk_frozen B6.out
  have l_B6 := (Array.getElem?_eq_some_iff.1 B6.out).1
  obtain ⟨⟨a3, m3, c3⟩, e3⟩ := x12
  obtain ⟨he3, hl3⟩ := G12.out
  simp only at he3 hl3
  have L3 := Lib.hid hl3.can
  have F3 := Lib.hid he3
  clear G12 hl3 he3
  simp only [RF, SH.v]
  go_wp2_with fail
  refine Calls.mono (stepup18_any ka kn kc ks _ LK.out HUk.out) ?_
  rintro e w13 ⟨x13, rfl, hE, g13⟩
  have G13 := Lib.hid g13
  clear g13
  replace HX := Lib.hid (HX.out.trans hE)
  replace B6 := Lib.hid (hE.block B6.out)
  replace LA := Lib.hid (LA.out.ext hE)
  replace LK := Lib.hid (LK.out.ext hE)
  replace LR := Lib.hid (LR.out.ext hE)
  replace L1 := Lib.hid (L1.out.ext hE)
  replace L2 := Lib.hid (L2.out.ext hE)
  replace L3 := Lib.hid (L3.out.ext hE)
  have hs_w13 := hE.size
  clear hE
  (try clear c_B6 f_B6 l_B6)
  have c_B6 := blk_cell B6.out
  have f_B6 := blk_frozen B6.out
  have l_B6 := (Array.getElem?_eq_some_iff.1 B6.out).1
  obtain ⟨⟨a4, m4, c4⟩, e4⟩ := x13
  obtain ⟨he4, hl4⟩ := G13.out
  simp only at he4 hl4
  have L4 := Lib.hid hl4
  obtain rfl : e4 = e3 := he4.trans F3.out.symm
  clear G13 hl4 he4 F3
  simp only [RF, SH.v]
  go_wp2_with fail
  refine Calls.mono (samelist_any ⟨a1, m1, c1⟩ ⟨a2, m2, c2⟩ _ _ _ L1.out L2.out) ?_
  rintro e w14 ⟨x14, rfl, hE, -⟩
  replace HX := Lib.hid (HX.out.trans hE)
  replace B6 := Lib.hid (hE.block B6.out)
  replace LA := Lib.hid (LA.out.ext hE)
  replace LK := Lib.hid (LK.out.ext hE)
  replace LR := Lib.hid (LR.out.ext hE)
  replace L1 := Lib.hid (L1.out.ext hE)
  replace L2 := Lib.hid (L2.out.ext hE)
  replace L3 := Lib.hid (L3.out.ext hE)
  replace L4 := Lib.hid (L4.out.ext hE)
  have hs_w14 := hE.size
  clear hE
  (try clear c_B6 f_B6 l_B6)
  have c_B6 := blk_cell B6.out
  have f_B6 := blk_frozen B6.out
  have l_B6 := (Array.getElem?_eq_some_iff.1 B6.out).1
  rw [decide_eq_true rfl]
  clear L1
  clear L2
  go_wp2_with fail
  refine Calls.mono (equal_any ⟨a3, m3, c3⟩ ⟨a4, m4, c4⟩ _ _ _ L3.out L4.out) ?_
  rintro e w15 ⟨x15, rfl, hE, -⟩
  replace HX := Lib.hid (HX.out.trans hE)
  replace B6 := Lib.hid (hE.block B6.out)
  replace LA := Lib.hid (LA.out.ext hE)
  replace LK := Lib.hid (LK.out.ext hE)
  replace LR := Lib.hid (LR.out.ext hE)
  replace L3 := Lib.hid (L3.out.ext hE)
  replace L4 := Lib.hid (L4.out.ext hE)
  have hs_w15 := hE.size
  clear hE
  (try clear c_B6 f_B6 l_B6)
  have c_B6 := blk_cell B6.out
  have f_B6 := blk_frozen B6.out
  have l_B6 := (Array.getElem?_eq_some_iff.1 B6.out).1
  rw [decide_eq_true rfl]
  clear L3
  clear L4
  obtain ⟨sv, hsv⟩ : ∃ sv, sv = stabV ps := ⟨_, rfl⟩
  obtain ⟨iv, hiv⟩ : ∃ iv, iv = insV ps r := ⟨_, rfl⟩
  obtain ⟨sb, se⟩ := sv
  obtain ⟨ib, ie⟩ := iv
  have Hsv := Lib.hid hsv
  have Hiv := Lib.hid hiv
  clear hsv hiv
  go_wp2_with fail
  refine Calls.mono (stable_any aa an ac ps _ LA.out (by omega) (ZA.out.mono (by decide)) (fun _ => HOa.out)) ?_
  rintro e w16 ⟨x16, rfl, hE, -⟩
  replace HX := Lib.hid (HX.out.trans hE)
  replace B6 := Lib.hid (hE.block B6.out)
  replace LA := Lib.hid (LA.out.ext hE)
  replace LK := Lib.hid (LK.out.ext hE)
  replace LR := Lib.hid (LR.out.ext hE)
  have hs_w16 := hE.size
  clear hE
  (try clear c_B6 f_B6 l_B6)
  have c_B6 := blk_cell B6.out
  have f_B6 := blk_frozen B6.out
  have l_B6 := (Array.getElem?_eq_some_iff.1 B6.out).1
  rw [← Hsv.out]
  simp only [BF]
  go_wp2_with fail
  refine Calls.mono (stable18_any aa an ac ps _ LA.out (by omega) (ZA.out.mono (by decide)) (fun _ => HOa.out)) ?_
  rintro e w17 ⟨x17, rfl, hE, -⟩
  replace HX := Lib.hid (HX.out.trans hE)
  replace B6 := Lib.hid (hE.block B6.out)
  replace LA := Lib.hid (LA.out.ext hE)
  replace LK := Lib.hid (LK.out.ext hE)
  replace LR := Lib.hid (LR.out.ext hE)
  have hs_w17 := hE.size
  clear hE
  (try clear c_B6 f_B6 l_B6)
  have c_B6 := blk_cell B6.out
  have f_B6 := blk_frozen B6.out
  have l_B6 := (Array.getElem?_eq_some_iff.1 B6.out).1
  rw [← Hsv.out]
  simp only [BF]
  go_wp2_with fail
  refine Calls.mono (inside_any aa an ac ps ⟨tneg, ta, tn, tc, tb, tm, td⟩ r _ LA.out LR.out (by omega) (ZA.out.mono (by decide)) (ZR.out.mono (by decide)) (fun _ _ _ => HOm.out)) ?_
  rintro e w18 ⟨x18, rfl, hE, -⟩
  replace HX := Lib.hid (HX.out.trans hE)
  replace B6 := Lib.hid (hE.block B6.out)
  replace LA := Lib.hid (LA.out.ext hE)
  replace LK := Lib.hid (LK.out.ext hE)
  replace LR := Lib.hid (LR.out.ext hE)
  have hs_w18 := hE.size
  clear hE
  (try clear c_B6 f_B6 l_B6)
  have c_B6 := blk_cell B6.out
  have f_B6 := blk_frozen B6.out
  have l_B6 := (Array.getElem?_eq_some_iff.1 B6.out).1
  rw [← Hiv.out]
  simp only [BF]
  go_wp2_with fail
  refine Calls.mono (inside18_any aa an ac ps ⟨tneg, ta, tn, tc, tb, tm, td⟩ r _ LA.out LR.out (by omega) (ZA.out.mono (by decide)) (ZR.out.mono (by decide)) (fun _ _ _ => HOm.out)) ?_
  rintro e w19 ⟨x19, rfl, hE, -⟩
  replace HX := Lib.hid (HX.out.trans hE)
  replace B6 := Lib.hid (hE.block B6.out)
  replace LA := Lib.hid (LA.out.ext hE)
  replace LK := Lib.hid (LK.out.ext hE)
  replace LR := Lib.hid (LR.out.ext hE)
  have hs_w19 := hE.size
  clear hE
  (try clear c_B6 f_B6 l_B6)
  have c_B6 := blk_cell B6.out
  have f_B6 := blk_frozen B6.out
  have l_B6 := (Array.getElem?_eq_some_iff.1 B6.out).1
  rw [← Hiv.out]
  simp only [BF]
  go_wp2_with fail
  refine Calls.mono (mod_any n 9 _ hn1 hn2 (by decide) (by decide)) ?_
  rintro e w20 ⟨x20, rfl, hE, -⟩
  replace HX := Lib.hid (HX.out.trans hE)
  replace B6 := Lib.hid (hE.block B6.out)
  replace LA := Lib.hid (LA.out.ext hE)
  replace LK := Lib.hid (LK.out.ext hE)
  replace LR := Lib.hid (LR.out.ext hE)
  have hs_w20 := hE.size
  clear hE
  (try clear c_B6 f_B6 l_B6)
  have c_B6 := blk_cell B6.out
  have f_B6 := blk_frozen B6.out
  have l_B6 := (Array.getElem?_eq_some_iff.1 B6.out).1
  obtain ⟨m, hm⟩ : ∃ m, m = n % 9 := ⟨_, rfl⟩
  rw [← hm]
  clear hm hn1 hn2 Hsv Hiv
  go_upto_region 16 with fail
  refine nm_alloc ?_
  intro y1 hE hB0 hz
  have hz_y1 := Nat.le_of_eq hz
  have hr_y1 := Nat.le_of_eq hz.symm
  clear hz
  replace HX := Lib.hid (HX.out.trans hE)
  replace B6 := Lib.hid (hE.block B6.out)
  replace LA := Lib.hid (LA.out.ext hE)
  replace LK := Lib.hid (LK.out.ext hE)
  replace LR := Lib.hid (LR.out.ext hE)
  have hs_y1 := hE.size
  clear hE
  (try clear c_B6 f_B6 l_B6)
  have c_B6 := blk_cell B6.out
  have f_B6 := blk_frozen B6.out
  have l_B6 := (Array.getElem?_eq_some_iff.1 B6.out).1
  have BS := Lib.hid hB0
  clear hB0
  have c_BS := blk_cell BS.out
  have f_BS := blk_frozen BS.out
  have l_BS := (Array.getElem?_eq_some_iff.1 BS.out).1
  obtain ⟨L, hL⟩ : ∃ L, L = w20.heap.size := ⟨_, rfl⟩
  rw [← hL] at BS ⊢
  clear hL c_BS f_BS l_BS c_B6 f_B6 l_B6
  go_loopg [131] 2 (fun g i wr => ∃ j : Nat, j + g = 2 ∧ i = .int .i64 (j : Nat) ∧ Ext w wr ∧ wr.heap[L]? = some (.cells #[.int .i64 n, .int .i64 m] 3 (0, 0)) ∧ RawL wr ⟨aa, an, ac⟩ ps ∧ RawR wr ⟨tneg, ta, tn, tc, tb, tm, td⟩ r ∧ wr.heap[w.heap.size]? = some (.cells #[.bool tneg, .slice ta tn tc, .slice tb tm td] 30 (0, 0)))
  case atStart => exact ⟨0, by omega, rfl, HX.out, BS.out, LA.out, LR.out, B6.out⟩
  case round =>
    obtain ⟨j, hj, rfl, g1, g2, g3, g4, g5⟩ := hrel
    clear HX BS LA LK LR B6
    have HX := Lib.hid g1
    have BS := Lib.hid g2
    have LA := Lib.hid g3
    have LR := Lib.hid g4
    have B6 := Lib.hid g5
    clear g1 g2 g3 g4 g5
    (try clear f_BS l_BS)
    have f_BS := blk_frozen BS.out
    have l_BS := (Array.getElem?_eq_some_iff.1 BS.out).1
    (try clear c_B6 f_B6 l_B6)
    have c_B6 := blk_cell B6.out
    have f_B6 := blk_frozen B6.out
    have l_B6 := (Array.getElem?_eq_some_iff.1 B6.out).1
    by_cases h0 : gk = 0
    case pos =>
      subst h0
      have hj2 : ¬ (j : Int) < 2 := by omega
      go_wp2_with fail
      refine Calls.mono (awake18_any _) ?_
      rintro e w40 ⟨x40, rfl, hE, -⟩
      replace HX := Lib.hid (HX.out.trans hE)
      replace LA := Lib.hid (LA.out.ext hE)
      replace LR := Lib.hid (LR.out.ext hE)
      replace BS := Lib.hid (hE.block BS.out)
      replace B6 := Lib.hid (hE.block B6.out)
      have hs_w40 := hE.size
      clear hE
      (try clear f_BS l_BS)
      have f_BS := blk_frozen BS.out
      have l_BS := (Array.getElem?_eq_some_iff.1 BS.out).1
      (try clear c_B6 f_B6 l_B6)
      have c_B6 := blk_cell B6.out
      have f_B6 := blk_frozen B6.out
      have l_B6 := (Array.getElem?_eq_some_iff.1 B6.out).1
      go_wp2
      go_ret
      exact ⟨(), rfl, HX.out, trivial⟩
    have hj2 : (j : Int) < 2 := by omega
    obtain ⟨i, hcell⟩ : ∃ k, wr.cell? ⟨L, j, none⟩ = some (.int .i64 k) := by
      have hb := blk_cell BS.out j
      match j, (show j < 2 by omega) with
      | 0, _ => exact ⟨n, hb⟩
      | 1, _ => exact ⟨m, hb⟩
    obtain ⟨be, hbe⟩ : ∃ be, be = boundE ps r i := ⟨_, rfl⟩
    have Hbe := Lib.hid hbe
    clear hbe
    go_upto_region 18 with fail
    clear hcell
    go_wp2_with fail
    refine Calls.mono (bound_any aa an ac ps ⟨tneg, ta, tn, tc, tb, tm, td⟩ r i _ LA.out LR.out (by omega) (ZA.out.mono (by decide)) (ZR.out.mono (by decide)) (fun _ _ _ => HOm.out)) ?_
    rintro e w30 ⟨x30, rfl, hE, g30⟩
    have G30 := Lib.hid g30
    clear g30
    replace HX := Lib.hid (HX.out.trans hE)
    replace LA := Lib.hid (LA.out.ext hE)
    replace LR := Lib.hid (LR.out.ext hE)
    replace BS := Lib.hid (hE.block BS.out)
    replace B6 := Lib.hid (hE.block B6.out)
    have hs_w30 := hE.size
    clear hE
    (try clear f_BS l_BS)
    have f_BS := blk_frozen BS.out
    have l_BS := (Array.getElem?_eq_some_iff.1 BS.out).1
    (try clear c_B6 f_B6 l_B6)
    have c_B6 := blk_cell B6.out
    have f_B6 := blk_frozen B6.out
    have l_B6 := (Array.getElem?_eq_some_iff.1 B6.out).1
    rw [← Hbe.out]
    go_upto_region 19 with fail
    refine nm_alloc ?_
    intro y31 hE hB0 hz
    have hz_y31 := Nat.le_of_eq hz
    have hr_y31 := Nat.le_of_eq hz.symm
    clear hz
    replace HX := Lib.hid (HX.out.trans hE)
    replace LA := Lib.hid (LA.out.ext hE)
    replace LR := Lib.hid (LR.out.ext hE)
    replace BS := Lib.hid (hE.block BS.out)
    replace B6 := Lib.hid (hE.block B6.out)
    replace G30 := Lib.hid (G30.out.ext hE)
    have hs_y31 := hE.size
    clear hE
    (try clear f_BS l_BS)
    have f_BS := blk_frozen BS.out
    have l_BS := (Array.getElem?_eq_some_iff.1 BS.out).1
    (try clear c_B6 f_B6 l_B6)
    have c_B6 := blk_cell B6.out
    have f_B6 := blk_frozen B6.out
    have l_B6 := (Array.getElem?_eq_some_iff.1 B6.out).1
    have B31 := Lib.hid hB0
    clear hB0
    have c_B31 := blk_cell B31.out
    have f_B31 := blk_frozen B31.out
    have l_B31 := (Array.getElem?_eq_some_iff.1 B31.out).1
    go_wp2_with fail
    refine Calls.mono (bound18_any aa an ac ps ⟨tneg, ta, tn, tc, tb, tm, td⟩ r i _ LA.out LR.out (by omega) (ZA.out.mono (by decide)) (ZR.out.mono (by decide)) (fun _ _ _ => HOm.out)) ?_
    rintro e w32 ⟨x32, rfl, hE, g32⟩
    have G32 := Lib.hid g32
    clear g32
    replace HX := Lib.hid (HX.out.trans hE)
    replace LA := Lib.hid (LA.out.ext hE)
    replace LR := Lib.hid (LR.out.ext hE)
    replace BS := Lib.hid (hE.block BS.out)
    replace B6 := Lib.hid (hE.block B6.out)
    replace G30 := Lib.hid (G30.out.ext hE)
    replace B31 := Lib.hid (hE.block B31.out)
    have hs_w32 := hE.size
    clear hE
    (try clear f_BS l_BS)
    have f_BS := blk_frozen BS.out
    have l_BS := (Array.getElem?_eq_some_iff.1 BS.out).1
    (try clear c_B6 f_B6 l_B6)
    have c_B6 := blk_cell B6.out
    have f_B6 := blk_frozen B6.out
    have l_B6 := (Array.getElem?_eq_some_iff.1 B6.out).1
    (try clear c_B31 f_B31 l_B31)
    have c_B31 := blk_cell B31.out
    have f_B31 := blk_frozen B31.out
    have l_B31 := (Array.getElem?_eq_some_iff.1 B31.out).1
    rw [← Hbe.out]
    go_upto_region 20 with fail
    refine nm_alloc ?_
    intro y33 hE hB0 hz
    have hz_y33 := Nat.le_of_eq hz
    have hr_y33 := Nat.le_of_eq hz.symm
    clear hz
    replace HX := Lib.hid (HX.out.trans hE)
    replace LA := Lib.hid (LA.out.ext hE)
    replace LR := Lib.hid (LR.out.ext hE)
    replace BS := Lib.hid (hE.block BS.out)
    replace B6 := Lib.hid (hE.block B6.out)
    replace G30 := Lib.hid (G30.out.ext hE)
    replace B31 := Lib.hid (hE.block B31.out)
    replace G32 := Lib.hid (G32.out.ext hE)
    have hs_y33 := hE.size
    clear hE
    (try clear f_BS l_BS)
    have f_BS := blk_frozen BS.out
    have l_BS := (Array.getElem?_eq_some_iff.1 BS.out).1
    (try clear c_B6 f_B6 l_B6)
    have c_B6 := blk_cell B6.out
    have f_B6 := blk_frozen B6.out
    have l_B6 := (Array.getElem?_eq_some_iff.1 B6.out).1
    (try clear c_B31 f_B31 l_B31)
    have c_B31 := blk_cell B31.out
    have f_B31 := blk_frozen B31.out
    have l_B31 := (Array.getElem?_eq_some_iff.1 B31.out).1
    have B33 := Lib.hid hB0
    clear hB0
    have c_B33 := blk_cell B33.out
    have f_B33 := blk_frozen B33.out
    have l_B33 := (Array.getElem?_eq_some_iff.1 B33.out).1
    go_wp2_with fail
    refine Calls.mono (rsame3_bnd _ G30.out G32.out) ?_
    rintro e w34 ⟨x34, rfl, hE, -⟩
    replace HX := Lib.hid (HX.out.trans hE)
    replace LA := Lib.hid (LA.out.ext hE)
    replace LR := Lib.hid (LR.out.ext hE)
    replace BS := Lib.hid (hE.block BS.out)
    replace B6 := Lib.hid (hE.block B6.out)
    replace G30 := Lib.hid (G30.out.ext hE)
    replace B31 := Lib.hid (hE.block B31.out)
    replace G32 := Lib.hid (G32.out.ext hE)
    replace B33 := Lib.hid (hE.block B33.out)
    have hs_w34 := hE.size
    clear hE
    (try clear f_BS l_BS)
    have f_BS := blk_frozen BS.out
    have l_BS := (Array.getElem?_eq_some_iff.1 BS.out).1
    (try clear c_B6 f_B6 l_B6)
    have c_B6 := blk_cell B6.out
    have f_B6 := blk_frozen B6.out
    have l_B6 := (Array.getElem?_eq_some_iff.1 B6.out).1
    (try clear c_B31 f_B31 l_B31)
    have c_B31 := blk_cell B31.out
    have f_B31 := blk_frozen B31.out
    have l_B31 := (Array.getElem?_eq_some_iff.1 B31.out).1
    (try clear c_B33 f_B33 l_B33)
    have c_B33 := blk_cell B33.out
    have f_B33 := blk_frozen B33.out
    have l_B33 := (Array.getElem?_eq_some_iff.1 B33.out).1
    go_wp2
    go_roundg (gk - 1)
    case measure => omega
    case rel => exact ⟨j + 1, by omega, by go_num, HX.out, BS.out, LA.out, LR.out, B6.out⟩
end Go.Proofs.YtbcamhfoemnmgaaGreat
