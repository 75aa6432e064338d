/- Amplitude of the reference 08. -/
import Derived.Test.YtbcamhfoemnmgaaGreatR8a
import Derived.Test.YtbcamhfoemnmgaaGreatM17
import Derived.Test.YtbcamhfoemnmgaaGreatM13
set_option linter.unusedVariables false
namespace Go.Proofs.YtbcamhfoemnmgaaGreat
open Go.RowKit Go.Front Go.Num
attribute [local go_sem] XW.cell XW.frozen
set_option maxRecDepth 8000 in
set_option maxHeartbeats 4000000 in
theorem amplitude8_any (ao : Option Addr) (M cap s : Nat) (hs' : List Rat) (w : World) (h : RawL w ⟨ao, M, cap⟩ hs') (hM : M ≤ 23) (hz : SzL s hs') (hs1 : 1 ≤ s) (hs : s ≤ 30000) :
    Does 44 [.slice ao M cap] w RF (fun x w' => x.2 = (ampV hs').1 ∧ CanL w' x.1 (ampV hs').2) := by
  have H := Lib.hid h
  have HX := Lib.hid (Ext.refl w)
  have hle := h.le
  have hmx := h.max
  have Hlen := Lib.hid h.len
  simp only at hle hmx Hlen
  have HZ := Lib.hid hz
  clear h hz
  unfold Does
  rcases Nat.mod_two_eq_zero_or_one M with hm | hm
  · have hv : ampV hs' = (1, []) := by unfold ampV; rw [Hlen.out, if_pos hm]
    have Hv := Lib.hid hv
    have hmI : (M : Int).tmod 2 = 0 := by have h2 : (M : Int).tmod 2 = ((M % 2 : Nat) : Int) := rfl; omega
    have hmJ : (M : Int) % 2 = 0 := by omega
    clear hv
    go_enter Tryz.func44, Tryz.ntmps44
    go_wp2
    exact bodyPost_ret (v := RF (⟨none, 0, 0⟩, 1)) (by simp [results, Tryz.results44, go_sem, RF]) rfl ⟨(⟨none, 0, 0⟩, 1), rfl, HX.out, by rw [Hv.out], by rw [Hv.out]; exact (NewL.nil 0 _).can⟩
  obtain ⟨n, hM1, hM2⟩ : ∃ n, M ≤ 2 * n + 1 ∧ 2 * n + 1 ≤ M := ⟨M / 2, by omega⟩
  have HV : Hid (ampV hs' = if AmpEq hs' n n then (0, fbV (ampC hs' n n)) else (10, [])) := Lib.hid (by unfold ampV; rw [Hlen.out, if_neg (by omega), show M / 2 = n by omega])
  have hmI : (M : Int).tmod 2 = 1 := by have h2 : (M : Int).tmod 2 = ((M % 2 : Nat) : Int) := rfl; omega
  have hmJ : (M : Int) % 2 = 1 := by omega
  have hdI : (M : Int).tdiv 2 = n := by have h2 : (M : Int).tdiv 2 = ((M / 2 : Nat) : Int) := rfl; omega
  have hdJ : (M : Int) / 2 = n := by omega
  clear hm
  go_enter Tryz.func44, Tryz.ntmps44
  obtain ⟨b, off, r, hao, hbl, ⟨hc1, hc2, hc3⟩, hP⟩ := (H.out.ext HX.out).cells' (k := n) (by omega)
  obtain ⟨rneg, ra, rn, rc, rb, rm, rd⟩ := r
  simp only at hc1 hc2 hc3
  have RP := Lib.hid hP
  clear hP
  subst hao
  go_upto_region 7 with fail
  refine nm_alloc ?_
  intro y1 hE hB0 hz
  have hz_y1 := Nat.le_of_eq hz
  have hr_y1 := Nat.le_of_eq hz.symm
  clear hz
  replace HX := Lib.hid (HX.out.trans hE)
  replace RP := Lib.hid (RP.out.ext hE)
  have hs_y1 := hE.size
  clear hE
  have B1 := Lib.hid hB0
  clear hB0
  have c_B1 := blk_cell B1.out
  have f_B1 := blk_frozen B1.out
  have l_B1 := (Array.getElem?_eq_some_iff.1 B1.out).1
  have HO : Hid (OwnW y1 (w.heap.size ≤ ·) (.slice (some ⟨w.heap.size, 0, none⟩) 1 1) (ampC hs' n 0)) := Lib.hid ⟨[⟨rneg, ra, rn, rc, rb, rm, rd⟩], Or.inr ⟨w.heap.size, 1, #[], rfl, Nat.le_refl _, rbk_one B1.out rfl, Nat.le_refl _, by decide, rfl, rfl⟩, (Vals.nil _ _).snoc RP.out⟩
  (try clear c_B1 f_B1 l_B1); clear B1
  clear RP
  clear hc1 hc2 hc3 hbl
  go_wp2
  go_loopg [5, 6] n (fun g u z wr => ∃ (j : Nat) (x : SH), u = x.v ∧ j + g = n ∧ z = .int .i64 ((j : Int) + 1) ∧ Ext w wr ∧ AmpEq hs' n j ∧ OwnW wr (w.heap.size ≤ ·) x.v (ampC hs' n j))
  case atStart => exact ⟨0, ⟨some ⟨w.heap.size, 0, none⟩, 1, 1⟩, rfl, by omega, rfl, HX.out, fun k hk => by omega, HO.out⟩
  case round =>
    obtain ⟨j, ⟨xa, xn, xc⟩, rfl, hj, rfl, g1, g2, g3⟩ := hrel
    clear HX HO
    have HX := Lib.hid g1
    have HEq := Lib.hid g2
    have HO := Lib.hid g3
    clear g1 g2 g3
    simp only [SH.v]
    have hszw := HX.out.size
    by_cases h0 : gk = 0
    case pos =>
      subst h0
      obtain rfl : j = n := by omega
      have hxn := HO.out.raw.len (s := ⟨xa, xn, xc⟩)
      unfold ampC at hxn
      rw [List.length_cons, List.length_map, List.length_range] at hxn
      simp only at hxn
      have HZc := Lib.hid (ampC_sz (n := j) (j := j) HZ.out hs1)
      go_wp2_with fail
      refine Calls.mono (sum8_any xa xn xc (2 * s + 1) (ampC hs' j j) _ (HO.out.raw (s := ⟨xa, xn, xc⟩)) (by omega) HZc.out (by omega) (by omega)) ?_
      rintro e w20 ⟨x20, rfl, hE, g20⟩
      have G20 := Lib.hid g20
      clear g20
      replace HX := Lib.hid (HX.out.trans hE)
      replace HO := Lib.hid (HO.out.ext hE)
      have hs_w20 := hE.size
      clear hE
      have hl := G20.out
      have HV2 : Hid (ampV hs' = (0, fbV (ampC hs' j j))) := Lib.hid (by rw [HV.out, if_pos HEq.out])
      go_wp2
      exact bodyPost_ret (v := RF (x20, 0)) (by simp [results, Tryz.results44, go_sem, RF]) rfl ⟨(x20, 0), rfl, HX.out, by rw [HV2.out], by rw [HV2.out]; exact hl⟩
    have hjn : j < n := by omega
    obtain ⟨b', off', r1, hao1, hbl1, ⟨a1, a2, a3⟩, hP1⟩ := (H.out.ext HX.out).cells' (k := n - (j + 1)) (by omega)
    obtain ⟨b'', off'', r2, hao2, hbl2, ⟨a4, a5, a6⟩, hP2⟩ := (H.out.ext HX.out).cells' (k := n + (j + 1)) (by omega)
    obtain ⟨rfl, rfl⟩ : b = b' ∧ off = off' := by simpa using hao1
    obtain ⟨rfl, rfl⟩ : b = b'' ∧ off = off'' := by simpa using hao2
    obtain ⟨rn1, ra1, rl1, rc1, rb1, rm1, rd1⟩ := r1
    obtain ⟨rn2, ra2, rl2, rc2, rb2, rm2, rd2⟩ := r2
    simp only at a1 a2 a3 a4 a5 a6
    obtain ⟨i1, hi1⟩ : ∃ i, i = n - (j + 1) := ⟨_, rfl⟩
    obtain ⟨i2, hi2⟩ : ∃ i, i = n + (j + 1) := ⟨_, rfl⟩
    have hI1 : (n : Int) - ((j : Int) + 1) = i1 := by omega
    have hI2 : (n : Int) + ((j : Int) + 1) = i2 := by omega
    have hb1 : i1 < M := by omega
    have hb2 : i2 < M := by omega
    have Hi1 := Lib.hid hi1
    have Hi2 := Lib.hid hi2
    rw [← hi1] at a1 a2 a3 hP1
    rw [← hi2] at a4 a5 a6 hP2
    have RP1 := Lib.hid hP1
    have RP2 := Lib.hid hP2
    have ZP2 := Lib.hid (HZ.out.getD hs1 i2)
    clear hP1 hP2 hi1 hi2 hao1 hao2 hbl2
    have hbl := hbl1
    go_upto_region 10 with fail
    obtain ⟨c, hc⟩ : ∃ c, c = cmpR (hs'.getD i2 0) (hs'.getD i1 0) := ⟨_, rfl⟩
    have Hc := Lib.hid hc
    clear hc
    refine wp_region_front 13 (fun opIx => match opIx with
      | 12 => .spec Unit () (fun _ => .int .i64 c) (fun _ _ => True)
      | _ => .quiet) (fun _ => []) (by kernel_rfl) (by kernel_rfl) (fun w0 he0 hz0 hc0 hf0 => ?_)
    replace he0 := Lib.hid he0
    simp only [List.take_succ_cons, List.take_zero]
    repeat (refine wpF_quiet rfl rfl rfl (fun K hK => ?_); go_big_quiet_op; refine hK _ ?_; clear hK K)
    refine wpF_spec rfl rfl (fun w1 hw1 hG => ?_) (fun x12 => ?_)
    · have hW := he0.out.trans hw1
      refine spec_call [RH.v ⟨rn2, ra2, rl2, rc2, rb2, rm2, rd2⟩, RH.v ⟨rn1, ra1, rl1, rc1, rb1, rm1, rd1⟩] rfl rfl Tryz.func54 (by kernel_rfl) (by kernel_rfl) ?_
      exact (by rw [Hc.out]; exact rcmp3_any _ _ _ _ _ (RP2.out.ext hW) (RP1.out.ext hW))
    simp only [Act.put, List.setIfInBounds_toArray, List.set_cons_succ, List.set_cons_zero]
    repeat (refine wpF_quiet rfl rfl rfl (fun K hK => ?_); go_big_quiet_op; refine hK _ ?_; clear hK K)
    refine wpF_nil ?_
    intro w10 hI
    have hE := he0.out.trans hI.ext
    clear hI he0 hz0 hc0 hf0
    replace HX := Lib.hid (HX.out.trans hE)
    replace HO := Lib.hid (HO.out.ext hE)
    replace RP1 := Lib.hid (RP1.out.ext hE)
    replace RP2 := Lib.hid (RP2.out.ext hE)
    have hs_w10 := hE.size
    clear hE
    simp only [List.drop_succ_cons, List.drop_zero]
    by_cases hcz : c = 0
    case neg =>
      have hcb : (c == 0) = false := by simpa using hcz
      have HV2 : Hid (ampV hs' = (10, [])) := Lib.hid (by
        rw [HV.out, if_neg]
        intro h
        have h1 := h j hjn
        rw [← Hi1.out, ← Hi2.out] at h1
        exact hcz (by rw [Hc.out]; exact cmpR_eq.2 h1.symm))
      go_wp2
      exact bodyPost_ret (v := RF (⟨none, 0, 0⟩, 10)) (by simp [results, Tryz.results44, go_sem, RF]) rfl ⟨(⟨none, 0, 0⟩, 10), rfl, HX.out, by rw [HV2.out], by rw [HV2.out]; exact (NewL.nil 0 _).can⟩
    subst hcz
    have HEq2 : Hid (AmpEq hs' n (j + 1)) := Lib.hid (by
      intro k hk
      rcases Nat.lt_or_ge k j with h | h
      · exact HEq.out k h
      · obtain rfl : k = j := by omega
        rw [← Hi1.out, ← Hi2.out]
        exact (cmpR_eq.1 Hc.out.symm).symm)
    obtain ⟨b3, off3, r3, hao3, hbl3, ⟨a1, a2, a3⟩, hP3⟩ := (H.out.ext HX.out).cells' (k := i2) hb2
    obtain ⟨rfl, rfl⟩ : b = b3 ∧ off = off3 := by simpa using hao3
    obtain ⟨rn3, ra3, rl3, rc3, rb3, rm3, rd3⟩ := r3
    simp only at a1 a2 a3
    have RP3 := Lib.hid hP3
    clear hP3 hao3 hbl hbl1 a4 a5 a6
    clear RP1
    clear RP2
    have hxn := HO.out.raw.len (s := ⟨xa, xn, xc⟩)
    have hxc := HO.out.raw.le (s := ⟨xa, xn, xc⟩)
    unfold ampC at hxn
    rw [List.length_cons, List.length_map, List.length_range] at hxn
    simp only at hxn hxc
    have HNx : Hid (ampC hs' n (j + 1) = ampC hs' n j ++ [hs'.getD i2 0 * ((2 : Int) : Rat)]) := Lib.hid (by rw [ampC_next, ← Hi2.out, show hs'.getD i2 0 * ((2 : Int) : Rat) = hs'.getD i2 0 + hs'.getD i2 0 by show _ * (2 : Rat) = _; grind])
    have ZT2 : Hid (Sz 1 ((2 : Int) : Rat)) := Lib.hid (Sz.int (by decide))
    have HLn : Hid ((ampC hs' n j).length ≤ 1073741824) := Lib.hid (by unfold ampC; rw [List.length_cons, List.length_map, List.length_range]; omega)
    go_upto_region 12 with fail
    refine wp_region_front 10 (fun opIx => match opIx with
      | 7 => .spec RH default RH.v (fun s w' => CanR w' s (((2 : Int) : Rat)))
      | 8 => .spec RH default RH.v (fun s w' => CanR w' s (hs'.getD i2 0 * ((2 : Int) : Rat)))
      | 9 => .spec (Nat × RH) ((0, default)) (fun p => .slice (some ⟨p.1, 0, none⟩) 1 1) (fun p w' => BuiltR w' p (hs'.getD i2 0 * ((2 : Int) : Rat)))
      | _ => .quiet) (fun | 8 => [7] | 9 => [8] | _ => []) (by kernel_rfl) (by kernel_rfl) (fun w0 he0 hz0 hc0 hf0 => ?_)
    replace he0 := Lib.hid he0
    simp only [List.take_succ_cons, List.take_zero]
    repeat (refine wpF_quiet rfl rfl rfl (fun K hK => ?_); go_big_quiet_op; refine hK _ ?_; clear hK K)
    refine wpF_spec rfl rfl (fun w1 hw1 hG => ?_) (fun x7 => ?_)
    · have hW := he0.out.trans hw1
      refine spec_call [.int .i64 2] rfl rfl Tryz.func8 (by kernel_rfl) (by kernel_rfl) ?_
      exact rof3_any 2 _ (by decide) (by decide)
    simp only [Act.put, List.setIfInBounds_toArray, List.set_cons_succ, List.set_cons_zero]
    repeat (refine wpF_quiet rfl rfl rfl (fun K hK => ?_); go_big_quiet_op; refine hK _ ?_; clear hK K)
    refine wpF_spec rfl rfl (fun w1 hw1 hG => ?_) (fun x8 => ?_)
    · have hW := he0.out.trans hw1
      obtain ⟨wa7, hwa7, g7⟩ : Since _ _ := hG 7 (by decide)
      replace g7 := g7.ext hwa7
      refine spec_call [RH.v ⟨rn3, ra3, rl3, rc3, rb3, rm3, rd3⟩, x7.v] rfl rfl Tryz.func11 (by kernel_rfl) (by kernel_rfl) ?_
      exact rmul3_any _ x7 _ _ _ (RP3.out.ext hW) (g7.raw ZT2.out (by decide))
    simp only [Act.put, List.setIfInBounds_toArray, List.set_cons_succ, List.set_cons_zero]
    repeat (refine wpF_quiet rfl rfl rfl (fun K hK => ?_); go_big_quiet_op; refine hK _ ?_; clear hK K)
    refine wpF_spec rfl rfl (fun w1 hw1 hG => ?_) (fun x9 => ?_)
    · have hW := he0.out.trans hw1
      obtain ⟨wa8, hwa8, g8⟩ : Since _ _ := hG 8 (by decide)
      replace g8 := g8.ext hwa8
      exact spec_build x8 _ g8 rfl (by simp [execOp, go_sem])
    simp only [Act.put, List.setIfInBounds_toArray, List.set_cons_succ, List.set_cons_zero]
    repeat (refine wpF_quiet rfl rfl rfl (fun K hK => ?_); go_big_quiet_op; refine hK _ ?_; clear hK K)
    refine wpF_nil ?_
    intro w12 hI
    have hE := he0.out.trans hI.ext
    obtain ⟨wa7, hwa7, g7⟩ : Since _ _ := hI.facts 7
    have G7 := Lib.hid (g7.ext hwa7)
    clear g7 hwa7
    obtain ⟨wa8, hwa8, g8⟩ : Since _ _ := hI.facts 8
    have G8 := Lib.hid (g8.ext hwa8)
    clear g8 hwa8
    obtain ⟨wa9, hwa9, g9⟩ : Since _ _ := hI.facts 9
    have G9 := Lib.hid (g9.ext hwa9)
    clear g9 hwa9
    clear hI he0 hz0 hc0 hf0
    replace HX := Lib.hid (HX.out.trans hE)
    replace HO := Lib.hid (HO.out.ext hE)
    have hs_w12 := hE.size
    clear hE
    simp only [List.drop_succ_cons, List.drop_zero]
    have RN := Lib.hid (G9.out.2.raw (ZP2.out.mul ZT2.out) (by omega))
    go_wp2_with (at_builtin; refine wpList_append_w rfl (.tmp 43) (.tmp 52) 32 Tryz.underlying32 rfl (w.heap.size ≤ ·) _ _ x9.2 _ x9.1 rfl HO.out rfl G9.out.1 RN.out HLn.out (fun k hk => by omega) ?_; intro s' y3 q1 q2 q3)
    have HX3 := Lib.hid (Ext.mods HX.out q2 (fun k h => h))
    have HO3 : Hid (OwnW y3 (w.heap.size ≤ ·) s'.v (ampC hs' n (j + 1))) := Lib.hid (by rw [HNx.out]; exact q1)
    clear q1 q2 q3
    go_wp2
    go_roundg (gk - 1)
    case measure => omega
    case rel => exact ⟨j + 1, s', rfl, by omega, by go_num, HX3.out, HEq2.out, HO3.out⟩
end Go.Proofs.YtbcamhfoemnmgaaGreat
