/- StabilityProducts returns true. -/
import Derived.Test.YtipnfjpilcoeoaaM11
import Derived.Test.YtipnfjpilcoeoaaM10
set_option linter.unusedVariables false
namespace Go.Proofs.Ytipnfjpilcoeoaa
open Go.RowKit Go.Front Go.Num
attribute [local go_sem] XW.cell XW.frozen
theorem polyQ_len (xs : List Int) (d : Nat) : (polyQ xs d).length ≤ d + 1 := by
  unfold polyQ
  refine Nat.le_trans (tz_len_le _) ?_
  rw [List.length_map, List.length_take]
  omega
theorem polyQ_sz (xs : List Int) (d : Nat) : SzL 1 (polyQ xs d) := SzL.tz (rats_sz _)
set_option maxRecDepth 8000 in
set_option maxHeartbeats 4000000 in
theorem products_any (ao bo : Option Addr) (cap dap : Nat) (xs ys : List Int) (w : World) (h : IntsAt w ao xs) (hr : InR xs) (hl : xs.length ≤ 9223372036854775807) (hc : xs.length ≤ cap) (hcm : cap ≤ 9223372036854775807)
    (k : IntsAt w bo ys) (kr : InR ys) (kl : ys.length ≤ 9223372036854775807) (kc : ys.length ≤ dap) (kcm : dap ≤ 9223372036854775807) :
    Does 4 [.slice ao xs.length cap, .slice bo ys.length dap] w (fun _ : Unit => .bool true) (fun _ _ => True) := by
  have HX := Lib.hid (Ext.refl w)
  obtain ⟨a, ha⟩ : ∃ a, a = polyQ xs 3 := ⟨_, rfl⟩
  obtain ⟨b, hb⟩ : ∃ b, b = polyQ ys 2 := ⟨_, rfl⟩
  have HLa : Hid (a.length ≤ 4) := Lib.hid (by rw [ha]; exact polyQ_len _ _)
  have HLb : Hid (b.length ≤ 3) := Lib.hid (by rw [hb]; exact polyQ_len _ _)
  have HZa : Hid (SzL 1 a) := Lib.hid (by rw [ha]; exact polyQ_sz _ _)
  have HZb : Hid (SzL 1 b) := Lib.hid (by rw [hb]; exact polyQ_sz _ _)
  have HLr : Hid ((mul5V a b).length ≤ 7) := Lib.hid (by have := mul5_len a b; have h1 := HLa.out; have h2 := HLb.out; omega)
  have HZr : Hid (SzL 13 (mul5V a b)) := Lib.hid ((mul5_sz (by decide) HZa.out HZb.out).mono (by have := HLa.out; omega))
  have HOa := Lib.hid (reflOk (m := 3) (by decide) HZa.out (tz_le HLa.out) (by decide))
  have HOb := Lib.hid (reflOk (m := 2) (by decide) HZb.out (tz_le HLb.out) (by decide))
  have HOr := Lib.hid (reflOk (m := 6) (by decide) HZr.out (tz_le HLr.out) (by decide))
  have HC1 := Lib.hid (poly_any ao cap 3 xs w h hr hl (by decide) hc hcm)
  have HC2 : Hid (∀ w1, Ext w w1 → Does 16 [.slice bo ys.length dap, .int .i64 ((2 : Nat) : Int)] w1 SH.v (fun s w' => NewL w1.heap.size w' s (polyQ ys 2))) := Lib.hid (fun w1 hE => poly_any bo dap 2 ys w1 (k.ext hE) kr kl (by decide) kc kcm)
  rw [← ha] at HC1
  rw [← hb] at HC2
  obtain ⟨n, hn⟩ : ∃ n, n = xs.length := ⟨_, rfl⟩
  obtain ⟨m, hm⟩ : ∃ m, m = ys.length := ⟨_, rfl⟩
  rw [← hn] at HC1 hl hc ⊢
  rw [← hm] at HC2 kl kc ⊢
  clear hn hm h hr k kr ha hb
  unfold Does
  rcases prod_plain a b HLa.out HLb.out with ⟨v1, v3⟩ | ⟨x, v1, v2, v3⟩ | ⟨x, y, v1, v2, v3⟩
  · have V1 := Lib.hid v1
    have V3 := Lib.hid v3
    obtain ⟨⟨y, e⟩, hy⟩ : ∃ y, stabV b = y := ⟨_, rfl⟩
    have V2 := Lib.hid hy
    clear v1 v3 hy
    go_enter Try.func4, Try.ntmps4
    go_wp2_with fail
    refine Calls.mono (HC1.out) ?_
    rintro e w1 ⟨x1, rfl, hE, g1⟩
    have G1 := Lib.hid g1
    clear g1
    replace HX := Lib.hid (HX.out.trans hE)
    have hs_w1 := hE.size
    clear hE
    obtain ⟨a1, m1, c1⟩ := x1
    simp only [SH.v]
    have L1 := Lib.hid G1.out.can
    have hm1 : m1 ≤ 4 := by have h1 := L1.out.len; have h2 := HLa.out; simp only at h1; omega
    clear G1
    go_wp2_with fail
    refine Calls.mono (HC2.out w1 HX.out) ?_
    rintro e w2 ⟨x2, rfl, hE, g2⟩
    have G2 := Lib.hid g2
    clear g2
    replace HX := Lib.hid (HX.out.trans hE)
    replace L1 := Lib.hid (L1.out.ext hE)
    have hs_w2 := hE.size
    clear hE
    obtain ⟨a2, m2, c2⟩ := x2
    simp only [SH.v]
    have L2 := Lib.hid G2.out.can
    have hm2 : m2 ≤ 3 := by have h1 := L2.out.len; have h2 := HLb.out; simp only at h1; omega
    clear G2
    go_wp2_with fail
    refine Calls.mono (stable_any a1 m1 c1 a _ (L1.out.raw HZa.out (by decide)) (by omega) (HZa.out.mono (by decide)) (fun _ => HOa.out)) ?_
    rintro e w3 ⟨x3, rfl, hE, -⟩
    replace HX := Lib.hid (HX.out.trans hE)
    replace L1 := Lib.hid (L1.out.ext hE)
    replace L2 := Lib.hid (L2.out.ext hE)
    have hs_w3 := hE.size
    clear hE
    rw [V1.out]
    simp only [BF]
    go_wp2_with fail
    refine Calls.mono (stable_any a2 m2 c2 b _ (L2.out.raw HZb.out (by decide)) (by omega) (HZb.out.mono (by decide)) (fun _ => HOb.out)) ?_
    rintro e w4 ⟨x4, rfl, hE, -⟩
    replace HX := Lib.hid (HX.out.trans hE)
    replace L1 := Lib.hid (L1.out.ext hE)
    replace L2 := Lib.hid (L2.out.ext hE)
    have hs_w4 := hE.size
    clear hE
    rw [V2.out]
    simp only [BF]
    go_wp2_with fail
    refine Calls.mono (mul5_any a1 a2 m1 c1 m2 c2 a b 1 _ (L1.out.raw HZa.out (by decide)) (L2.out.raw HZb.out (by decide)) (by omega) (by omega) HZa.out HZb.out (by decide)) ?_
    rintro e w5 ⟨x5, rfl, hE, g5⟩
    have G5 := Lib.hid g5
    clear g5
    replace HX := Lib.hid (HX.out.trans hE)
    replace L1 := Lib.hid (L1.out.ext hE)
    replace L2 := Lib.hid (L2.out.ext hE)
    have hs_w5 := hE.size
    clear hE
    obtain ⟨a5, m5, c5⟩ := x5
    simp only [SH.v]
    have L5 := Lib.hid G5.out.can
    have hm5 : m5 ≤ 7 := by have h1 := L5.out.len; have h2 := HLr.out; simp only at h1; omega
    clear G5
    go_wp2_with fail
    refine Calls.mono (stable_any a5 m5 c5 (mul5V a b) _ (L5.out.raw HZr.out (by decide)) (by omega) (HZr.out.mono (by decide)) (fun _ => HOr.out)) ?_
    rintro e w6 ⟨x6, rfl, hE, -⟩
    replace HX := Lib.hid (HX.out.trans hE)
    replace L1 := Lib.hid (L1.out.ext hE)
    replace L2 := Lib.hid (L2.out.ext hE)
    replace L5 := Lib.hid (L5.out.ext hE)
    have hs_w6 := hE.size
    clear hE
    rw [V3.out]
    simp only [BF]
    go_wp2_with fail
    refine Calls.mono (awake18_any _) ?_
    rintro e w7 ⟨x7, rfl, hE, -⟩
    replace HX := Lib.hid (HX.out.trans hE)
    replace L1 := Lib.hid (L1.out.ext hE)
    replace L2 := Lib.hid (L2.out.ext hE)
    replace L5 := Lib.hid (L5.out.ext hE)
    have hs_w7 := hE.size
    clear hE
    go_wp2
    go_ret
    exact ⟨(), rfl, HX.out, trivial⟩
  · have V1 := Lib.hid v1
    have V2 := Lib.hid v2
    have V3 := Lib.hid v3
    clear v1 v2 v3
    go_enter Try.func4, Try.ntmps4
    go_wp2_with fail
    refine Calls.mono (HC1.out) ?_
    rintro e w1 ⟨x1, rfl, hE, g1⟩
    have G1 := Lib.hid g1
    clear g1
    replace HX := Lib.hid (HX.out.trans hE)
    have hs_w1 := hE.size
    clear hE
    obtain ⟨a1, m1, c1⟩ := x1
    simp only [SH.v]
    have L1 := Lib.hid G1.out.can
    have hm1 : m1 ≤ 4 := by have h1 := L1.out.len; have h2 := HLa.out; simp only at h1; omega
    clear G1
    go_wp2_with fail
    refine Calls.mono (HC2.out w1 HX.out) ?_
    rintro e w2 ⟨x2, rfl, hE, g2⟩
    have G2 := Lib.hid g2
    clear g2
    replace HX := Lib.hid (HX.out.trans hE)
    replace L1 := Lib.hid (L1.out.ext hE)
    have hs_w2 := hE.size
    clear hE
    obtain ⟨a2, m2, c2⟩ := x2
    simp only [SH.v]
    have L2 := Lib.hid G2.out.can
    have hm2 : m2 ≤ 3 := by have h1 := L2.out.len; have h2 := HLb.out; simp only at h1; omega
    clear G2
    go_wp2_with fail
    refine Calls.mono (stable_any a1 m1 c1 a _ (L1.out.raw HZa.out (by decide)) (by omega) (HZa.out.mono (by decide)) (fun _ => HOa.out)) ?_
    rintro e w3 ⟨x3, rfl, hE, -⟩
    replace HX := Lib.hid (HX.out.trans hE)
    replace L1 := Lib.hid (L1.out.ext hE)
    replace L2 := Lib.hid (L2.out.ext hE)
    have hs_w3 := hE.size
    clear hE
    rw [V1.out]
    simp only [BF]
    go_wp2_with fail
    refine Calls.mono (stable_any a2 m2 c2 b _ (L2.out.raw HZb.out (by decide)) (by omega) (HZb.out.mono (by decide)) (fun _ => HOb.out)) ?_
    rintro e w4 ⟨x4, rfl, hE, -⟩
    replace HX := Lib.hid (HX.out.trans hE)
    replace L1 := Lib.hid (L1.out.ext hE)
    replace L2 := Lib.hid (L2.out.ext hE)
    have hs_w4 := hE.size
    clear hE
    rw [V2.out]
    simp only [BF]
    go_wp2_with fail
    refine Calls.mono (mul5_any a1 a2 m1 c1 m2 c2 a b 1 _ (L1.out.raw HZa.out (by decide)) (L2.out.raw HZb.out (by decide)) (by omega) (by omega) HZa.out HZb.out (by decide)) ?_
    rintro e w5 ⟨x5, rfl, hE, g5⟩
    have G5 := Lib.hid g5
    clear g5
    replace HX := Lib.hid (HX.out.trans hE)
    replace L1 := Lib.hid (L1.out.ext hE)
    replace L2 := Lib.hid (L2.out.ext hE)
    have hs_w5 := hE.size
    clear hE
    obtain ⟨a5, m5, c5⟩ := x5
    simp only [SH.v]
    have L5 := Lib.hid G5.out.can
    have hm5 : m5 ≤ 7 := by have h1 := L5.out.len; have h2 := HLr.out; simp only at h1; omega
    clear G5
    go_wp2_with fail
    refine Calls.mono (stable_any a5 m5 c5 (mul5V a b) _ (L5.out.raw HZr.out (by decide)) (by omega) (HZr.out.mono (by decide)) (fun _ => HOr.out)) ?_
    rintro e w6 ⟨x6, rfl, hE, -⟩
    replace HX := Lib.hid (HX.out.trans hE)
    replace L1 := Lib.hid (L1.out.ext hE)
    replace L2 := Lib.hid (L2.out.ext hE)
    replace L5 := Lib.hid (L5.out.ext hE)
    have hs_w6 := hE.size
    clear hE
    rw [V3.out]
    simp only [BF]
    go_wp2_with fail
    refine Calls.mono (awake18_any _) ?_
    rintro e w7 ⟨x7, rfl, hE, -⟩
    replace HX := Lib.hid (HX.out.trans hE)
    replace L1 := Lib.hid (L1.out.ext hE)
    replace L2 := Lib.hid (L2.out.ext hE)
    replace L5 := Lib.hid (L5.out.ext hE)
    have hs_w7 := hE.size
    clear hE
    go_wp2
    go_ret
    exact ⟨(), rfl, HX.out, trivial⟩
  · have V1 := Lib.hid v1
    have V2 := Lib.hid v2
    have V3 := Lib.hid v3
    clear v1 v2 v3
    go_enter Try.func4, Try.ntmps4
    go_wp2_with fail
    refine Calls.mono (HC1.out) ?_
    rintro e w1 ⟨x1, rfl, hE, g1⟩
    have G1 := Lib.hid g1
    clear g1
    replace HX := Lib.hid (HX.out.trans hE)
    have hs_w1 := hE.size
    clear hE
    obtain ⟨a1, m1, c1⟩ := x1
    simp only [SH.v]
    have L1 := Lib.hid G1.out.can
    have hm1 : m1 ≤ 4 := by have h1 := L1.out.len; have h2 := HLa.out; simp only at h1; omega
    clear G1
    go_wp2_with fail
    refine Calls.mono (HC2.out w1 HX.out) ?_
    rintro e w2 ⟨x2, rfl, hE, g2⟩
    have G2 := Lib.hid g2
    clear g2
    replace HX := Lib.hid (HX.out.trans hE)
    replace L1 := Lib.hid (L1.out.ext hE)
    have hs_w2 := hE.size
    clear hE
    obtain ⟨a2, m2, c2⟩ := x2
    simp only [SH.v]
    have L2 := Lib.hid G2.out.can
    have hm2 : m2 ≤ 3 := by have h1 := L2.out.len; have h2 := HLb.out; simp only at h1; omega
    clear G2
    go_wp2_with fail
    refine Calls.mono (stable_any a1 m1 c1 a _ (L1.out.raw HZa.out (by decide)) (by omega) (HZa.out.mono (by decide)) (fun _ => HOa.out)) ?_
    rintro e w3 ⟨x3, rfl, hE, -⟩
    replace HX := Lib.hid (HX.out.trans hE)
    replace L1 := Lib.hid (L1.out.ext hE)
    replace L2 := Lib.hid (L2.out.ext hE)
    have hs_w3 := hE.size
    clear hE
    rw [V1.out]
    simp only [BF]
    go_wp2_with fail
    refine Calls.mono (stable_any a2 m2 c2 b _ (L2.out.raw HZb.out (by decide)) (by omega) (HZb.out.mono (by decide)) (fun _ => HOb.out)) ?_
    rintro e w4 ⟨x4, rfl, hE, -⟩
    replace HX := Lib.hid (HX.out.trans hE)
    replace L1 := Lib.hid (L1.out.ext hE)
    replace L2 := Lib.hid (L2.out.ext hE)
    have hs_w4 := hE.size
    clear hE
    rw [V2.out]
    simp only [BF]
    go_wp2_with fail
    refine Calls.mono (mul5_any a1 a2 m1 c1 m2 c2 a b 1 _ (L1.out.raw HZa.out (by decide)) (L2.out.raw HZb.out (by decide)) (by omega) (by omega) HZa.out HZb.out (by decide)) ?_
    rintro e w5 ⟨x5, rfl, hE, g5⟩
    have G5 := Lib.hid g5
    clear g5
    replace HX := Lib.hid (HX.out.trans hE)
    replace L1 := Lib.hid (L1.out.ext hE)
    replace L2 := Lib.hid (L2.out.ext hE)
    have hs_w5 := hE.size
    clear hE
    obtain ⟨a5, m5, c5⟩ := x5
    simp only [SH.v]
    have L5 := Lib.hid G5.out.can
    have hm5 : m5 ≤ 7 := by have h1 := L5.out.len; have h2 := HLr.out; simp only at h1; omega
    clear G5
    go_wp2_with fail
    refine Calls.mono (stable_any a5 m5 c5 (mul5V a b) _ (L5.out.raw HZr.out (by decide)) (by omega) (HZr.out.mono (by decide)) (fun _ => HOr.out)) ?_
    rintro e w6 ⟨x6, rfl, hE, -⟩
    replace HX := Lib.hid (HX.out.trans hE)
    replace L1 := Lib.hid (L1.out.ext hE)
    replace L2 := Lib.hid (L2.out.ext hE)
    replace L5 := Lib.hid (L5.out.ext hE)
    have hs_w6 := hE.size
    clear hE
    rw [V3.out]
    simp only [BF]
    go_wp2_with fail
    refine Calls.mono (awake18_any _) ?_
    rintro e w7 ⟨x7, rfl, hE, -⟩
    replace HX := Lib.hid (HX.out.trans hE)
    replace L1 := Lib.hid (L1.out.ext hE)
    replace L2 := Lib.hid (L2.out.ext hE)
    replace L5 := Lib.hid (L5.out.ext hE)
    have hs_w7 := hE.size
    clear hE
    cases x <;> cases y
    all_goals
      go_wp2
      go_ret
      exact ⟨(), rfl, HX.out, trivial⟩
end Go.Proofs.Ytipnfjpilcoeoaa
