/- StepUp, Stable, Inside of the reference 18. -/
import Derived.Test.YtbcamhfoemnmgaaGreatR18a
import Derived.Test.YtbcamhfoemnmgaaGreatM11
set_option linter.unusedVariables false
namespace Go.Proofs.YtbcamhfoemnmgaaGreat
open Go.RowKit Go.Front Go.Num
attribute [local go_sem] XW.cell XW.frozen
/-- The element i of a step up. -/
def upE (c : List Rat) (r : Rat) (m i : Nat) : Rat := c.getD i 0 + r * c.getD (m - i) 0
theorem up_upE {c : List Rat} {j : Nat} (r : Rat) (hc : c.length = j + 1) : (List.range (j + 2)).map (upE c r (j + 1)) = Stab.up c r := by
  rw [← up_range r hc]
  apply List.map_congr_left
  intro i _
  unfold upE
  rw [Stab.snoc0_getD, Stab.snoc0_getD]
set_option maxRecDepth 8000 in
set_option maxHeartbeats 4000000 in
theorem stepup18_any (ao : Option Addr) (n cap : Nat) (ks : List Rat) (w : World) (h : RawL w ⟨ao, n, cap⟩ ks) (hok : UpOk ks) :
    Does 36 [.slice ao n cap] w RF (fun x w' => x.2 = (upV ks).1 ∧ CanL w' x.1 (upV ks).2) := by
  have H := Lib.hid h
  have HX := Lib.hid (Ext.refl w)
  have Hlen := Lib.hid h.len
  have hle := h.le
  have hmx := h.max
  simp only at hle hmx Hlen
  have HZ := Lib.hid hok.1
  have HU : Hid (∀ j, j ≤ n → SzL 8388608 (Stab.ups (ks.take j))) := Lib.hid (fun j hj => hok.2 j (by rw [Hlen.out]; exact hj))
  clear h hok
  unfold Does
  by_cases h48 : 48 < n
  case pos =>
    have h48i : (48 : Int) < n := by omega
    have HV : Hid (upV ks = (12, [])) := Lib.hid (by unfold upV; rw [if_pos (by rw [Hlen.out]; exact h48)])
    go_enter Tryz.func36, Tryz.ntmps36
    go_wp2
    exact bodyPost_ret (v := RF (⟨none, 0, 0⟩, 12)) (by simp [results, Tryz.results36, go_sem, RF]) rfl ⟨(⟨none, 0, 0⟩, 12), rfl, HX.out, by rw [HV.out], by rw [HV.out]; exact (NewL.nil 0 _).can⟩
  have h48i : ¬ (48 : Int) < n := by omega
  have HV : Hid (upV ks = if ∀ r ∈ ks, -1 < r ∧ r < 1 then (0, tz (Stab.ups ks)) else (14, [])) := Lib.hid (by unfold upV; rw [if_neg (by rw [Hlen.out]; exact h48)])
  go_enter Tryz.func36, Tryz.ntmps36
  go_wp2_with fail
  refine Calls.mono (rof3_any 1 _ (by decide) (by decide)) ?_
  rintro e w1 ⟨x1, rfl, hE, g1⟩
  have G1 := Lib.hid g1
  clear g1
  replace HX := Lib.hid (HX.out.trans hE)
  have hs_w1 := hE.size
  clear hE
  go_upto_region 4 with fail
  refine nm_alloc ?_
  intro w2 hE hB0 hz
  have hz_w2 := Nat.le_of_eq hz
  have hr_w2 := Nat.le_of_eq hz.symm
  clear hz
  replace HX := Lib.hid (HX.out.trans hE)
  replace G1 := Lib.hid (G1.out.ext hE)
  have hs_w2 := hE.size
  clear hE
  have B2 := Lib.hid hB0
  clear hB0
  have c_B2 := blk_cell B2.out
  have f_B2 := blk_frozen B2.out
  have l_B2 := (Array.getElem?_eq_some_iff.1 B2.out).1
  have LA : Hid (CanL w2 ⟨some ⟨w1.heap.size, 0, none⟩, 1, 1⟩ (Stab.ups (ks.take 0))) := Lib.hid (canL_1 B2.out G1.out)
  (try clear c_B2 f_B2 l_B2); clear B2
  clear G1
  go_wp2
  go_loopg [4, 16] n (fun g u z wr => ∃ (j : Nat) (x : SH), u = x.v ∧ j + g = n ∧ z = .int .i64 (j : Nat) ∧ Ext w wr ∧ CanL wr x (Stab.ups (ks.take j)) ∧ ∀ r ∈ ks.take j, -1 < r ∧ r < 1)
  case atStart => exact ⟨0, ⟨some ⟨w1.heap.size, 0, none⟩, 1, 1⟩, rfl, by omega, rfl, HX.out, LA.out, fun r hr => by simp at hr⟩
  case round =>
    obtain ⟨j, ⟨sa, sn, sc⟩, rfl, hj, rfl, g1, g2, g3⟩ := hrel
    clear HX LA
    have HX := Lib.hid g1
    have LA := Lib.hid g2
    have HS := Lib.hid g3
    have hsn := g2.len
    rw [Stab.ups_length, List.length_take, Hlen.out, Nat.min_eq_left (by omega)] at hsn
    simp only at hsn
    subst hsn
    have ZA := Lib.hid (HU.out j (by omega))
    clear g1 g2 g3
    simp only [SH.v]
    by_cases h0 : gk = 0
    case pos =>
      subst h0
      obtain rfl : j = n := by omega
      have HT : Hid (ks.take j = ks) := Lib.hid (List.take_of_length_le (by rw [Hlen.out]; exact Nat.le_refl _))
      have HV2 : Hid (upV ks = (0, tz (Stab.ups (ks.take j)))) := Lib.hid (by
        rw [HV.out, HT.out, if_pos]
        have := HS.out
        rwa [HT.out] at this)
      have hjn : ¬ (j : Int) < j := by omega
      go_wp2_with fail
      refine Calls.mono (trim5_any sa (j + 1) sc _ _ (LA.out.raw ZA.out (by decide)) (by omega)) ?_
      rintro e w20 ⟨x20, rfl, hE, g20⟩
      have G20 := Lib.hid g20
      clear g20
      replace HX := Lib.hid (HX.out.trans hE)
      replace LA := Lib.hid (LA.out.ext hE)
      have hs_w20 := hE.size
      clear hE
      go_wp2
      exact bodyPost_ret (v := RF (x20, 0)) (by simp [results, Tryz.results36, go_sem, RF]) rfl ⟨(x20, 0), rfl, HX.out, by rw [HV2.out], by rw [HV2.out]; exact G20.out.can⟩
    have hjn : (j : Int) < n := by omega
    obtain ⟨r, hr⟩ : ∃ r, r = ks.getD j 0 := ⟨_, rfl⟩
    have hmem : ks.getD j 0 ∈ ks := by
      rw [show ks.getD j 0 = ks[j]'(by rw [Hlen.out]; omega) by simp [show j < ks.length by rw [Hlen.out]; omega]]
      exact List.getElem_mem _
    have ZR : Hid (Sz 8388608 r) := Lib.hid (by rw [hr]; exact HZ.out _ hmem)
    obtain ⟨b, off, q, hao, hbl, ⟨hc1, hc2, hc3⟩, hP⟩ := (H.out.ext HX.out).cells' (k := j) (by omega)
    rw [← hr] at hP
    obtain ⟨rneg, ra, rn, rc, rb, rm, rd⟩ := q
    simp only at hc1 hc2 hc3
    have RP := Lib.hid hP
    clear hP
    subst hao
    go_upto_region 7 with fail
    refine nm_alloc ?_
    intro y1 hE hB0 hz
    have hz_y1 := Nat.le_of_eq hz
    have hr_y1 := Nat.le_of_eq hz.symm
    clear hz
    replace HX := Lib.hid (HX.out.trans hE)
    replace LA := Lib.hid (LA.out.ext hE)
    replace RP := Lib.hid (RP.out.ext hE)
    have hs_y1 := hE.size
    clear hE
    have B6 := Lib.hid hB0
    clear hB0
    have c_B6 := blk_cell B6.out
    have f_B6 := blk_frozen B6.out
    have l_B6 := (Array.getElem?_eq_some_iff.1 B6.out).1
    clear hc1 hc2 hc3 hbl
    go_wp2_with fail
    refine Calls.mono (small18_any ⟨rneg, ra, rn, rc, rb, rm, rd⟩ r _ RP.out) ?_
    rintro e w2 ⟨x2, rfl, hE, -⟩
    replace HX := Lib.hid (HX.out.trans hE)
    replace LA := Lib.hid (LA.out.ext hE)
    replace RP := Lib.hid (RP.out.ext hE)
    replace B6 := Lib.hid (hE.block B6.out)
    have hs_w2 := hE.size
    clear hE
    (try clear c_B6 f_B6 l_B6)
    have c_B6 := blk_cell B6.out
    have f_B6 := blk_frozen B6.out
    have l_B6 := (Array.getElem?_eq_some_iff.1 B6.out).1
    by_cases hsm : -1 < r ∧ r < 1
    case neg =>
      have HV2 : Hid (upV ks = (14, [])) := Lib.hid (by rw [HV.out, if_neg (fun h => hsm (by rw [hr]; exact h _ hmem))])
      rw [decide_eq_false hsm]
      go_wp2
      exact bodyPost_ret (v := RF (⟨none, 0, 0⟩, 14)) (by simp [results, Tryz.results36, go_sem, RF]) rfl ⟨(⟨none, 0, 0⟩, 14), rfl, HX.out, by rw [HV2.out], by rw [HV2.out]; exact (NewL.nil 0 _).can⟩
    rw [decide_eq_true hsm]
    have HS2 : Hid (∀ r ∈ ks.take (j + 1), -1 < r ∧ r < 1) := Lib.hid (by
      rw [← take_snoc (by rw [Hlen.out]; omega)]
      intro x hx
      rcases List.mem_append.1 hx with h1 | h1
      · exact HS.out x h1
      · obtain rfl : x = ks.getD j 0 := by simpa using h1
        rw [← hr]; exact hsm)
    obtain ⟨c, hc⟩ : ∃ c, c = Stab.ups (ks.take j) := ⟨_, rfl⟩
    have HC : Hid ((List.range (j + 2)).map (upE c r (j + 1)) = Stab.ups (ks.take (j + 1))) := Lib.hid (by
      rw [ups_take (by rw [Hlen.out]; omega), ← hc, ← hr]
      exact up_upE r (by rw [hc, Stab.ups_length, List.length_take, Hlen.out]; omega))
    rw [← hc] at LA ZA
    clear hsm hc hmem hr HS
    have HWy : Hid (w.heap.size ≤ w2.heap.size) := Lib.hid HX.out.size
    go_wp2
    go_loopg [7, 8] (j + 2) (fun g u z wr2 => ∃ (i : Nat) (x : SH), u = x.v ∧ i + g = j + 2 ∧ z = .int .i64 (i : Nat) ∧ Ext w2 wr2 ∧ OwnQ wr2 (w2.heap.size ≤ ·) x.v ((List.range i).map (upE c r (j + 1))))
    case atStart => exact ⟨0, ⟨none, 0, 0⟩, rfl, by omega, rfl, Ext.refl _, OwnQ.nil _ _⟩
    case round =>
      obtain ⟨i, ⟨xa, xn, xc⟩, rfl, hi, rfl, g1, g2⟩ := hrel
      have HE := Lib.hid g1
      have HO := Lib.hid g2
      clear g1 g2
      simp only [SH.v]
      replace LA := Lib.hid (LA.out.ext HE.out)
      replace RP := Lib.hid (RP.out.ext HE.out)
      replace HX := Lib.hid (HX.out.trans HE.out)
      replace B6 := Lib.hid (HE.out.block B6.out)
      have hszr := HE.out.size
      clear c_B6 f_B6 l_B6
      (try clear c_B6 f_B6 l_B6)
      have c_B6 := blk_cell B6.out
      have f_B6 := blk_frozen B6.out
      have l_B6 := (Array.getElem?_eq_some_iff.1 B6.out).1
      by_cases h1 : gk = 0
      case pos =>
        subst h1
        obtain rfl : i = j + 2 := by omega
        have hig : ¬ ((j : Int) + 2 ≤ (j : Int) + 1) := by omega
        have hig' : ¬ (((j + 2 : Nat) : Int) ≤ (j : Int) + 1) := by omega
        have LN : Hid (CanL wr ⟨xa, xn, xc⟩ (Stab.ups (ks.take (j + 1)))) := Lib.hid (by rw [← HC.out]; exact OwnQ.can (s := ⟨xa, xn, xc⟩) HO.out)
        go_wp2
        go_roundg (n - (j + 1))
        case measure => omega
        case rel => exact ⟨j + 1, ⟨xa, xn, xc⟩, rfl, by omega, by go_num, HX.out, LN.out, HS2.out⟩
      obtain ⟨i2, hi2⟩ : ∃ i2, i2 = j + 1 - i := ⟨_, rfl⟩
      have hI2 : (j : Int) + 1 - (i : Int) = (i2 : Nat) := by omega
      have hi2b : i2 ≤ 100 := by omega
      have hig : (i : Int) ≤ (j : Int) + 1 := by omega
      have ZI := Lib.hid (ZA.out.getD (by decide) i)
      have ZJ := Lib.hid (ZA.out.getD (by decide) i2)
      have HNx : Hid ((List.range (i + 1)).map (upE c r (j + 1)) = (List.range i).map (upE c r (j + 1)) ++ [c.getD i 0 + r * c.getD i2 0]) := Lib.hid (by rw [range_snoc', hi2]; rfl)
      have HLn : Hid (((List.range i).map (upE c r (j + 1))).length ≤ 1073741824) := Lib.hid (by rw [List.length_map, List.length_range]; omega)
      clear hi2
      go_upto_region 13 with fail
      refine wp_region_front 14 (fun opIx => match opIx with
        | 3 => .spec RH default RH.v (fun s w' => CanR w' s (c.getD i 0))
        | 10 => .spec RH default RH.v (fun s w' => CanR w' s (c.getD i2 0))
        | 11 => .spec RH default RH.v (fun s w' => CanR w' s (r * c.getD i2 0))
        | 12 => .spec RH default RH.v (fun s w' => CanR w' s (c.getD i 0 + r * c.getD i2 0))
        | 13 => .spec (Nat × RH) ((0, default)) (fun p => .slice (some ⟨p.1, 0, none⟩) 1 1) (fun p w' => BuiltR w' p (c.getD i 0 + r * c.getD i2 0))
        | _ => .quiet) (fun | 11 => [10] | 12 => [3, 11] | 13 => [12] | _ => []) (by kernel_rfl) (by kernel_rfl) (fun w0 he0 hz0 hc0 hf0 => ?_)
      replace he0 := Lib.hid he0
      simp only [List.take_succ_cons, List.take_zero]
      repeat (refine wpF_quiet rfl rfl rfl (fun K hK => ?_); go_big_quiet_op; refine hK _ ?_; clear hK K)
      refine wpF_spec rfl rfl (fun w1 hw1 hG => ?_) (fun x30 => ?_)
      · have hW := he0.out.trans hw1
        refine spec_call [.slice sa (j + 1) sc, .int .i64 (i : Nat)] rfl rfl Tryz.func69 (by kernel_rfl) (by kernel_rfl) ?_
        exact at5_any sa (j + 1) sc c i _ ((LA.out.ext hW).raw ZA.out (by decide)) (by omega)
      simp only [Act.put, List.setIfInBounds_toArray, List.set_cons_succ, List.set_cons_zero]
      repeat (refine wpF_quiet rfl rfl rfl (fun K hK => ?_); go_big_quiet_op; refine hK _ ?_; clear hK K)
      refine wpF_spec rfl rfl (fun w1 hw1 hG => ?_) (fun x31 => ?_)
      · have hW := he0.out.trans hw1
        refine spec_call [.slice sa (j + 1) sc, .int .i64 (i2 : Nat)] rfl rfl Tryz.func69 (by kernel_rfl) (by kernel_rfl) ?_
        exact at5_any sa (j + 1) sc c i2 _ ((LA.out.ext hW).raw ZA.out (by decide)) (by omega)
      simp only [Act.put, List.setIfInBounds_toArray, List.set_cons_succ, List.set_cons_zero]
      repeat (refine wpF_quiet rfl rfl rfl (fun K hK => ?_); go_big_quiet_op; refine hK _ ?_; clear hK K)
      refine wpF_spec rfl rfl (fun w1 hw1 hG => ?_) (fun x32 => ?_)
      · have hW := he0.out.trans hw1
        obtain ⟨wa31, hwa31, g31⟩ : Since _ _ := hG 10 (by decide)
        replace g31 := g31.ext hwa31
        refine spec_call [RH.v ⟨rneg, ra, rn, rc, rb, rm, rd⟩, x31.v] rfl rfl Tryz.func11 (by kernel_rfl) (by kernel_rfl) ?_
        exact rmul3_any _ x31 _ _ _ (RP.out.ext hW) (g31.raw ZJ.out (by decide))
      simp only [Act.put, List.setIfInBounds_toArray, List.set_cons_succ, List.set_cons_zero]
      repeat (refine wpF_quiet rfl rfl rfl (fun K hK => ?_); go_big_quiet_op; refine hK _ ?_; clear hK K)
      refine wpF_spec rfl rfl (fun w1 hw1 hG => ?_) (fun x33 => ?_)
      · have hW := he0.out.trans hw1
        obtain ⟨wa30, hwa30, g30⟩ : Since _ _ := hG 3 (by decide)
        replace g30 := g30.ext hwa30
        obtain ⟨wa32, hwa32, g32⟩ : Since _ _ := hG 11 (by decide)
        replace g32 := g32.ext hwa32
        refine spec_call [x30.v, x32.v] rfl rfl Tryz.func53 (by kernel_rfl) (by kernel_rfl) ?_
        exact radd3_any x30 x32 _ _ _ (g30.raw ZI.out (by decide)) (g32.raw (ZR.out.mul ZJ.out) (by decide))
      simp only [Act.put, List.setIfInBounds_toArray, List.set_cons_succ, List.set_cons_zero]
      repeat (refine wpF_quiet rfl rfl rfl (fun K hK => ?_); go_big_quiet_op; refine hK _ ?_; clear hK K)
      refine wpF_spec rfl rfl (fun w1 hw1 hG => ?_) (fun x35 => ?_)
      · have hW := he0.out.trans hw1
        obtain ⟨wa33, hwa33, g33⟩ : Since _ _ := hG 12 (by decide)
        replace g33 := g33.ext hwa33
        exact spec_build x33 _ g33 rfl (by simp [execOp, go_sem])
      simp only [Act.put, List.setIfInBounds_toArray, List.set_cons_succ, List.set_cons_zero]
      repeat (refine wpF_quiet rfl rfl rfl (fun K hK => ?_); go_big_quiet_op; refine hK _ ?_; clear hK K)
      refine wpF_nil ?_
      intro w16 hI
      have hE := he0.out.trans hI.ext
      obtain ⟨wa30, hwa30, g30⟩ : Since _ _ := hI.facts 3
      have G30 := Lib.hid (g30.ext hwa30)
      clear g30 hwa30
      obtain ⟨wa31, hwa31, g31⟩ : Since _ _ := hI.facts 10
      have G31 := Lib.hid (g31.ext hwa31)
      clear g31 hwa31
      obtain ⟨wa32, hwa32, g32⟩ : Since _ _ := hI.facts 11
      have G32 := Lib.hid (g32.ext hwa32)
      clear g32 hwa32
      obtain ⟨wa33, hwa33, g33⟩ : Since _ _ := hI.facts 12
      have G33 := Lib.hid (g33.ext hwa33)
      clear g33 hwa33
      obtain ⟨wa35, hwa35, g35⟩ : Since _ _ := hI.facts 13
      have G35 := Lib.hid (g35.ext hwa35)
      clear g35 hwa35
      clear hI he0 hz0 hc0 hf0
      replace HE := Lib.hid (HE.out.trans hE)
      replace HX := Lib.hid (HX.out.trans hE)
      replace HO := Lib.hid (HO.out.ext hE)
      replace LA := Lib.hid (LA.out.ext hE)
      replace RP := Lib.hid (RP.out.ext hE)
      replace B6 := Lib.hid (hE.block B6.out)
      have hs_w16 := hE.size
      clear hE
      (try clear c_B6 f_B6 l_B6)
      have c_B6 := blk_cell B6.out
      have f_B6 := blk_frozen B6.out
      have l_B6 := (Array.getElem?_eq_some_iff.1 B6.out).1
      simp only [List.drop_succ_cons, List.drop_zero]
      go_wp2_with (at_builtin; refine wpList_append_q rfl (.tmp 30) (.tmp 43) 33 Tryz.underlying33 rfl (w2.heap.size ≤ ·) _ _ x35.2 _ x35.1 rfl HO.out rfl G35.out.1 G35.out.2 HLn.out (fun k hk => by omega) ?_; intro s' y17 q1 q2 q3)
      have HE3 := Lib.hid (Ext.mods HE.out q2 (fun k h => h))
      have HO3 : Hid (OwnQ y17 (w2.heap.size ≤ ·) s'.v ((List.range (i + 1)).map (upE c r (j + 1)))) := Lib.hid (by rw [HNx.out]; exact q1)
      clear q1 q2 q3
      go_wp2
      go_roundg (gk - 1)
      case measure => omega
      case rel => exact ⟨i + 1, s', rfl, by omega, by go_num, HE3.out, HO3.out⟩
set_option maxRecDepth 4000 in
set_option maxHeartbeats 1000000 in
theorem stable18_any (ao : Option Addr) (n cap : Nat) (qs : List Rat) (w : World) (h : RawL w ⟨ao, n, cap⟩ qs) (hn : n ≤ 1073741823) (hz : SzL 2097152 qs) (hok : wrongE qs = 0 → RefOk ((tz qs).length - 1) (norm (tz qs))) :
    Does 37 [.slice ao n cap] w (fun _ : Unit => BF (stabV qs)) (fun _ _ => True) := by
  have H := Lib.hid h
  have HX := Lib.hid (Ext.refl w)
  have HZ := Lib.hid hz
  have HO := Lib.hid hok
  clear h hz hok
  have HV0 : Hid (wrongE qs = 0 → stabV qs = (decide ((reflV qs).1 = 0), 0)) := Lib.hid stabV_ok
  have HV1 : Hid (wrongE qs ≠ 0 → stabV qs = (false, wrongE qs)) := Lib.hid (fun h => by
    have h1 : (reflV qs).1 = wrongE qs := by unfold reflV; rw [if_pos h]
    have h2 : wrongE qs ≠ 14 := by unfold wrongE; split; · decide
                                   · split <;> decide
    unfold stabV
    rw [h1, if_neg h2, decide_eq_false h])
  unfold Does
  go_enter Tryz.func37, Tryz.ntmps37
  go_wp2_with fail
  refine Calls.mono (check18_any ao n cap qs _ H.out (by omega) (HZ.out.mono (by decide))) ?_
  rintro e w1 ⟨x1, rfl, hE, -⟩
  replace HX := Lib.hid (HX.out.trans hE)
  have hs_w1 := hE.size
  clear hE
  obtain ⟨e, he⟩ : ∃ e, e = wrongE qs := ⟨_, rfl⟩
  rw [← he]
  have He := Lib.hid he
  clear he
  by_cases h0 : e = 0
  case neg =>
    have hb : (e == 0) = false := by simpa using h0
    have HV : Hid (stabV qs = (false, e)) := Lib.hid (by rw [He.out]; exact HV1.out (by rw [← He.out]; exact h0))
    go_wp2
    exact bodyPost_ret (v := BF (false, e)) (by simp [results, Tryz.results37, go_sem, BF]) rfl ⟨(), by rw [HV.out], HX.out, trivial⟩
  subst h0
  have HV : Hid (stabV qs = (decide ((reflV qs).1 = 0), 0)) := Lib.hid (HV0.out He.out.symm)
  go_wp2_with fail
  refine Calls.mono (reflections18_any ao n cap qs _ (H.out.ext HX.out) hn HZ.out HO.out) ?_
  rintro e w2 ⟨x2, rfl, hE, g2⟩
  have G2 := Lib.hid g2
  clear g2
  replace HX := Lib.hid (HX.out.trans hE)
  have hs_w2 := hE.size
  clear hE
  obtain ⟨⟨a2, n2, c2⟩, e2⟩ := x2
  obtain ⟨ge, -⟩ := G2.out
  simp only at ge
  rw [← ge] at HV
  clear ge G2
  simp only [RF, SH.v]
  go_wp2
  exact bodyPost_ret (v := BF (decide (e2 = 0), 0)) (by simp [results, Tryz.results37, go_sem, BF, Bool.beq_eq_decide_eq]) rfl ⟨(), by rw [HV.out], HX.out, trivial⟩
end Go.Proofs.YtbcamhfoemnmgaaGreat
