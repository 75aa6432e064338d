/- check, small, Reflections of the reference 18. -/
import Derived.Test.YtbcamhfoemnmgaaGreatR5b
import Derived.Test.YtbcamhfoemnmgaaGreatM17
import Derived.Test.YtbcamhfoemnmgaaGreatM11
import Derived.Test.YtbcamhfoemnmgaaGreatOff
import Derived.Test.YtbcamhfoemnmgaaGreatM10
set_option linter.unusedVariables false
namespace Go.Proofs.YtbcamhfoemnmgaaGreat
open Go.RowKit Go.Front Go.Num
attribute [local go_sem] XW.cell XW.frozen
theorem getD_nil0 {qs : List Rat} (h : qs.length = 0) : qs.getD 0 0 = 0 := by
  rw [List.length_eq_zero_iff.1 h]; rfl
theorem wrongE_alt (qs : List Rat) : wrongE qs = if 49 < (tz qs).length then 12 else if qs.getD 0 0 = 0 then 3 else 0 := by
  unfold wrongE
  by_cases h : qs.getD 0 0 = 0
  · rw [if_pos h, if_pos (Or.inr h)]
  · rw [if_neg h, if_neg (show ¬ (qs.length = 0 ∨ qs.getD 0 0 = 0) from fun h1 => h1.elim (fun h2 => h (getD_nil0 h2)) h)]
set_option maxRecDepth 4000 in
set_option maxHeartbeats 1000000 in
theorem check18_any (ao : Option Addr) (n cap : Nat) (qs : List Rat) (w : World) (h : RawL w ⟨ao, n, cap⟩ qs) (hn : n ≤ 1073741824) (hz : SzL 134217728 qs) :
    Does 81 [.slice ao n cap] w (fun _ : Unit => .int .i64 (wrongE qs)) (fun _ _ => True) := by
  have H := Lib.hid h
  have HX := Lib.hid (Ext.refl w)
  have Z0 := Lib.hid (hz.getD (by decide) 0)
  clear h hz
  obtain ⟨m, hm⟩ : ∃ m, m = (tz qs).length := ⟨_, rfl⟩
  have HW : Hid (wrongE qs = if 49 < m then 12 else if qs.getD 0 0 = 0 then 3 else 0) := Lib.hid (by rw [hm]; exact wrongE_alt qs)
  have HD : Hid (∀ w1, Ext w w1 → Does 82 [.slice ao n cap] w1 (fun _ : Unit => .int .i64 ((m : Int) - 1)) (fun _ _ => True)) := Lib.hid (fun w1 he => by rw [hm]; exact degree5_any ao n cap qs w1 (H.out.ext he) hn)
  clear hm
  unfold Does
  go_enter Tryz.func81, Tryz.ntmps81
  go_wp2_with fail
  refine Calls.mono (HD.out _ HX.out) ?_
  rintro e w1 ⟨x1, rfl, hE, -⟩
  replace HX := Lib.hid (HX.out.trans hE)
  have hs_w1 := hE.size
  clear hE
  by_cases h1 : 49 < m
  case pos =>
    have h1i : (48 : Int) < (m : Int) - 1 := by omega
    rw [if_pos h1] at HW
    go_wp2
    go_ret
    exact ⟨(), ret_int (by rw [HW.out]), HX.out, trivial⟩
  have h1i : ¬ (48 : Int) < (m : Int) - 1 := by omega
  rw [if_neg h1] at HW
  go_wp2_with fail
  refine Calls.mono (at5_any ao n cap qs 0 _ (H.out.ext HX.out) (by decide)) ?_
  rintro e w2 ⟨x2, rfl, hE, g2⟩
  have G2 := Lib.hid g2
  clear g2
  replace HX := Lib.hid (HX.out.trans hE)
  have hs_w2 := hE.size
  clear hE
  go_wp2_with fail
  refine Calls.mono (rsign3_any x2 _ _ (G2.out.raw Z0.out (by decide))) ?_
  rintro e w3 ⟨x3, rfl, hE, -⟩
  replace HX := Lib.hid (HX.out.trans hE)
  replace G2 := Lib.hid (G2.out.ext hE)
  have hs_w3 := hE.size
  clear hE
  have HZ := Lib.hid (cmpR_self0 (qs.getD 0 0))
  obtain ⟨c, hc⟩ : ∃ c, c = cmpR (qs.getD 0 0) 0 := ⟨_, rfl⟩
  rw [← hc] at HZ ⊢
  clear hc
  clear G2
  by_cases hz : c = 0
  · subst hz
    rw [if_pos (HZ.out.1 rfl)] at HW
    clear HZ
    go_wp2
    go_ret
    exact ⟨(), ret_int (by rw [HW.out]), HX.out, trivial⟩
  · have hzb : (c == 0) = false := by simpa using hz
    rw [if_neg (fun h => hz (HZ.out.2 h))] at HW
    clear hz HZ
    go_wp2
    go_ret
    exact ⟨(), ret_int (by rw [HW.out]), HX.out, trivial⟩
theorem abs_lt1 (q : Rat) : q.abs < ((1 : Int) : Rat) ↔ -1 < q ∧ q < 1 := by
  rw [show ((1 : Int) : Rat) = 1 from rfl]
  unfold Rat.abs
  split <;> constructor <;> intros <;> grind
set_option maxRecDepth 4000 in
set_option maxHeartbeats 1000000 in
theorem small18_any (s : RH) (q : Rat) (w : World) (h : RawR w s q) : Does 83 [s.v] w (fun _ : Unit => .bool (decide (-1 < q ∧ q < 1))) (fun _ _ => True) := by
  obtain ⟨neg, ao, n, c, bo, m, d⟩ := s
  have HR := Lib.hid h
  have HS := Lib.hid h.szk
  have HC : Hid (decide (q.abs < ((1 : Int) : Rat)) = decide (-1 < q ∧ q < 1)) := Lib.hid (decide_eq_decide.2 (abs_lt1 q))
  have HX := Lib.hid (Ext.refl w)
  have Z1 : Hid (Sz 1 ((1 : Int) : Rat)) := Lib.hid (Sz.int (by decide))
  clear h
  unfold Does
  go_enter Tryz.func83, Tryz.ntmps83
  go_upto_region 1 with fail
  refine nm_alloc ?_
  intro w1 hE hB0 hz
  have hz_w1 := Nat.le_of_eq hz
  have hr_w1 := Nat.le_of_eq hz.symm
  clear hz
  replace HX := Lib.hid (HX.out.trans hE)
  replace HR := Lib.hid (HR.out.ext hE)
  have hs_w1 := hE.size
  clear hE
  have B1 := Lib.hid hB0
  clear hB0
  have c_B1 := blk_cell B1.out
  have f_B1 := blk_frozen B1.out
  have l_B1 := (Array.getElem?_eq_some_iff.1 B1.out).1
  go_wp2_with fail
  refine Calls.mono (rabs3_any ⟨neg, ao, n, c, bo, m, d⟩ q _ HR.out) ?_
  rintro e w2 ⟨x2, rfl, hE, g2⟩
  have G2 := Lib.hid g2
  clear g2
  replace HX := Lib.hid (HX.out.trans hE)
  replace HR := Lib.hid (HR.out.ext hE)
  replace B1 := Lib.hid (hE.block B1.out)
  have hs_w2 := hE.size
  clear hE
  (try clear c_B1 f_B1 l_B1)
  have c_B1 := blk_cell B1.out
  have f_B1 := blk_frozen B1.out
  have l_B1 := (Array.getElem?_eq_some_iff.1 B1.out).1
  go_wp2_with fail
  refine Calls.mono (rof3_any 1 _ (by decide) (by decide)) ?_
  rintro e w3 ⟨x3, rfl, hE, g3⟩
  have G3 := Lib.hid g3
  clear g3
  replace HX := Lib.hid (HX.out.trans hE)
  replace HR := Lib.hid (HR.out.ext hE)
  replace B1 := Lib.hid (hE.block B1.out)
  replace G2 := Lib.hid (G2.out.ext hE)
  have hs_w3 := hE.size
  clear hE
  (try clear c_B1 f_B1 l_B1)
  have c_B1 := blk_cell B1.out
  have f_B1 := blk_frozen B1.out
  have l_B1 := (Array.getElem?_eq_some_iff.1 B1.out).1
  go_wp2_with fail
  refine Calls.mono (rless3_any x2 x3 _ _ _ (G2.out.raw HS.out.abs (by decide)) (G3.out.raw Z1.out (by decide))) ?_
  rintro e w4 ⟨x4, rfl, hE, -⟩
  replace HX := Lib.hid (HX.out.trans hE)
  replace HR := Lib.hid (HR.out.ext hE)
  replace B1 := Lib.hid (hE.block B1.out)
  replace G2 := Lib.hid (G2.out.ext hE)
  replace G3 := Lib.hid (G3.out.ext hE)
  have hs_w4 := hE.size
  clear hE
  (try clear c_B1 f_B1 l_B1)
  have c_B1 := blk_cell B1.out
  have f_B1 := blk_frozen B1.out
  have l_B1 := (Array.getElem?_eq_some_iff.1 B1.out).1
  rw [HC.out]
  go_wp2
  go_ret
  exact ⟨(), ret_bool (Bool.decide_and _ _).symm, HX.out, trivial⟩
theorem tz_map_ne {c : Rat} (hc : c ≠ 0) (l : List Rat) : tz (l.map (· * c)) = (tz l).map (· * c) := by
  induction l using Stab.snoc_ind with
  | h0 => rfl
  | h1 l r ih =>
    by_cases hr : r = 0
    · subst hr
      rw [List.map_append, List.map_cons, List.map_nil, Rat.zero_mul, tz_snoc0, tz_snoc0, ih]
    · have h2 : r * c ≠ 0 := fun h => by
        rcases Rat.mul_eq_zero.1 h with h3 | h3
        · exact hr h3
        · exact hc h3
      rw [List.map_append, List.map_cons, List.map_nil, tz_snoc _ h2, tz_snoc _ hr, List.map_append, List.map_cons, List.map_nil]
theorem scale5_norm {qs : List Rat} (h : wrongE qs = 0) : scale5V qs (((1 : Int) : Rat) / qs.getD 0 0) = norm (tz qs) := by
  obtain ⟨h1, h2, h3⟩ := wrong_ok h
  rw [tz_getD'] at h3
  have hc : ((1 : Int) : Rat) / qs.getD 0 0 ≠ 0 := by
    rw [Rat.div_def]
    intro h4
    rcases Rat.mul_eq_zero.1 h4 with h5 | h5
    · exact absurd h5 (by decide)
    · exact h3 (by rw [← Rat.inv_inv (a := qs.getD 0 0), h5, Rat.inv_zero])
  have e : norm (tz qs) = (tz qs).map (· * (((1 : Int) : Rat) / qs.getD 0 0)) := by
    unfold norm
    rw [tz_getD']
    apply List.map_congr_left
    intro x _
    rw [Rat.div_def, Rat.div_def, show ((1 : Int) : Rat) = 1 from rfl, Rat.one_mul]
  unfold scale5V
  rw [e]
  exact tz_map_ne hc qs
/-- The element i of a step down. -/
def dnE (c : List Rat) (r : Rat) (m i : Nat) : Rat := (c.getD i 0 - r * c.getD (m - i) 0) / (((1 : Int) : Rat) - r * r)
theorem down_dn (c : List Rat) (r : Rat) (m : Nat) : Stab.down c r m = (List.range m).map (dnE c r m) := rfl
/-- The block of the coefficients: those from g on are there. -/
def Kept (w : World) (L M g : Nat) (tl : List Rat) : Prop := ∃ ks, RBk w L ks #[] ∧ ks.length = M ∧ TCan w ks g tl
theorem Kept.ext {w w' : World} {L M g : Nat} {tl : List Rat} (h : Kept w L M g tl) (he : Ext w w') : Kept w' L M g tl := let ⟨ks, h1, h2, h3⟩ := h; ⟨ks, h1.ext he, h2, h3.ext he⟩
theorem Kept.put {w1 w2 : World} {L M g b : Nat} {tl : List Rat} {T : TypeId} {cs : Array Value} (h : Kept w1 L M g tl) (T2 : PutB w1 b T cs w2) (hb : b ≠ L) : Kept w2 L M g tl :=
  let ⟨ks, h1, h2, h3⟩ := h; ⟨ks, T2.rest L _ (Ne.symm hb) h1, h2, h3.keep T2.keep⟩
theorem Kept.lt {w : World} {L M g : Nat} {tl : List Rat} (h : Kept w L M g tl) : L < w.heap.size := let ⟨_, h1, _⟩ := h; h1.lt
theorem Kept.frozen {w : World} {L M g : Nat} {tl : List Rat} (h : Kept w L M g tl) (i : Nat) : w.frozen? ⟨L, i, none⟩ = false := let ⟨_, h1, _⟩ := h; h1.frozen i
theorem Kept.cells {w : World} {L M g : Nat} {tl : List Rat} (h : Kept w L M g tl) {k : Nat} (hk : k < M) : ∃ r, RAt w L (k * 3) r := by
  obtain ⟨rs, h1, h2, h3⟩ := h
  exact ⟨_, h1.at (by rw [h2]; exact hk)⟩
theorem Kept.can {w : World} {L M : Nat} {tl : List Rat} (h : Kept w L M 0 tl) (hl : tl.length = M) (hM : M ≤ 9223372036854775807) : CanL w ⟨some ⟨L, 0, none⟩, M, M⟩ tl := by
  obtain ⟨ks, h1, h2, h3⟩ := h
  exact ⟨ks, h1.rs h2 (Nat.le_refl _) hM, by rw [h2, hl], fun i hi => by have := h3 i hi; rwa [Nat.zero_add] at this⟩
theorem nm_kept {w1 : World} {L M g : Nat} {tl : List Rat} {q : Rat} {F : World → Prop} {x : RH} (h : Kept w1 L M (g + 1) tl) (hk : g < M) (hx : CanR w1 x q)
    (H : ∀ w2, (∃ cs, PutB w1 L 30 cs w2) → Kept w2 L M g (q :: tl) → F w2) :
    F (((w1.setCell ⟨L, g * 3, none⟩ (.bool x.neg)).setCell ⟨L, g * 3 + 1, none⟩ (.slice x.a x.n x.c)).setCell ⟨L, g * 3 + 2, none⟩ (.slice x.b x.m x.d)) := by
  obtain ⟨ks, h1, h2, h3⟩ := h
  refine nm_rat h1 rfl (by rw [h2]; exact hk) fun w2 T => H w2 ⟨_, T⟩ ⟨ks.set g x, T.bx, by rw [List.length_set]; exact h2, (h3.keep T.keep).cons (hx.keep T.keep) (by rw [h2]; exact hk)⟩
def reflR : Option (List Rat) → Int × List Rat
  | some k => (0, k)
  | none => (14, [])
def ReflS (M : Nat) (c0 c : List Rat) (g : Nat) (tl : List Rat) : Prop := c.length = g + 1 ∧ RefOk g c ∧ tl.length + g = M ∧ Stab.refl M c0 = (Stab.refl g c).map (· ++ tl)
theorem ReflS.next {M g : Nat} {c0 c tl : List Rat} (h : ReflS M c0 c (g + 1) tl) (hr : -1 < c.getD (g + 1) 0 ∧ c.getD (g + 1) 0 < 1) : ReflS M c0 (Stab.down c (c.getD (g + 1) 0) (g + 1)) g (c.getD (g + 1) 0 :: tl) := by
  obtain ⟨h1, h2, h3, h4⟩ := h
  refine ⟨Stab.down_length _ _ _, h2.2, by rw [List.length_cons]; omega, ?_⟩
  rw [h4]
  show (if -1 < c.getD (g + 1) 0 ∧ c.getD (g + 1) 0 < 1 then (Stab.refl g (Stab.down c (c.getD (g + 1) 0) (g + 1))).map (· ++ [c.getD (g + 1) 0]) else none).map (· ++ tl) = _
  rw [if_pos hr]
  cases Stab.refl g (Stab.down c (c.getD (g + 1) 0) (g + 1)) with
  | none => rfl
  | some k => simp
theorem ReflS.stop {M g : Nat} {c0 c tl : List Rat} (h : ReflS M c0 c (g + 1) tl) (hr : ¬ (-1 < c.getD (g + 1) 0 ∧ c.getD (g + 1) 0 < 1)) : Stab.refl M c0 = none := by
  obtain ⟨h1, h2, h3, h4⟩ := h
  rw [h4]
  show (if -1 < c.getD (g + 1) 0 ∧ c.getD (g + 1) 0 < 1 then (Stab.refl g (Stab.down c (c.getD (g + 1) 0) (g + 1))).map (· ++ [c.getD (g + 1) 0]) else none).map (· ++ tl) = _
  rw [if_neg hr]
  rfl
set_option maxRecDepth 8000 in
set_option maxHeartbeats 4000000 in
theorem reflections18_any (ao : Option Addr) (n cap : Nat) (qs : List Rat) (w : World) (h : RawL w ⟨ao, n, cap⟩ qs) (hn : n ≤ 1073741823) (hz : SzL 2097152 qs) (hok : wrongE qs = 0 → RefOk ((tz qs).length - 1) (norm (tz qs))) :
    Does 34 [.slice ao n cap] w RF (fun x w' => x.2 = (reflV qs).1 ∧ CanL w' x.1 (reflV qs).2) := by
  obtain ⟨i0, hi0, hz0, hz1, hz2⟩ := info_parts infoR
  have H := Lib.hid h
  have HX := Lib.hid (Ext.refl w)
  have Hlen := Lib.hid h.len
  simp only at Hlen
  have HZ := Lib.hid hz
  have HO := Lib.hid hok
  have hle := h.le
  have hmx := h.max
  simp only at hle hmx
  clear h hz hok
  unfold Does
  go_enter Tryz.func34, Tryz.ntmps34
  go_wp2_with fail
  refine Calls.mono (check18_any ao n cap qs _ H.out (by omega) (HZ.out.mono (by decide))) ?_
  rintro e w1 ⟨x1, rfl, hE, -⟩
  replace HX := Lib.hid (HX.out.trans hE)
  have hs_w1 := hE.size
  clear hE
  obtain ⟨e, he⟩ : ∃ e, e = wrongE qs := ⟨_, rfl⟩
  rw [← he]
  have He := Lib.hid he
  clear he
  by_cases h0 : e = 0
  case neg =>
    have hb : (e == 0) = false := by simpa using h0
    have hv : reflV qs = (e, []) := by unfold reflV; rw [if_pos (by rw [← He.out]; exact h0), ← He.out]
    have HV := Lib.hid hv
    clear hv
    go_wp2
    exact bodyPost_ret (v := RF (⟨none, 0, 0⟩, e)) (by simp [results, Tryz.results34, go_sem, RF]) rfl ⟨(⟨none, 0, 0⟩, e), rfl, HX.out, by rw [HV.out], by rw [HV.out]; exact (NewL.nil 0 _).can⟩
  subst h0
  have hW : wrongE qs = 0 := He.out.symm
  obtain ⟨hw1, hw2, hw3⟩ := wrong_ok hW
  obtain ⟨M, hM⟩ : ∃ M, (tz qs).length = M + 1 := ⟨(tz qs).length - 1, by omega⟩
  obtain ⟨c0, hc0⟩ : ∃ c0, c0 = norm (tz qs) := ⟨_, rfl⟩
  have hM49 : M ≤ 48 := by omega
  have hn0 : 0 < n := by have := tz_len_le qs; rw [Hlen.out] at this; omega
  have HV : Hid (reflV qs = reflR (Stab.refl M c0)) := Lib.hid (by
    unfold reflV
    rw [if_neg (by rw [hW]; simp), hM, Nat.add_sub_cancel, ← hc0]
    cases Stab.refl M c0 <;> rfl)
  have HSc : Hid (scale5V qs (((1 : Int) : Rat) / qs.getD 0 0) = c0) := Lib.hid (by rw [scale5_norm hW, hc0])
  have Hcl : Hid (c0.length = M + 1) := Lib.hid (by rw [hc0, norm_length, hM])
  have HRf : Hid (RefOk M c0) := Lib.hid (by have := HO.out hW; rw [hM, Nat.add_sub_cancel, ← hc0] at this; exact this)
  have Htz : Hid (tz c0 = c0) := Lib.hid (by rw [← HSc.out]; exact tz_idem _)
  have Zc : Hid (SzL 8388608 c0) := Lib.hid (by rw [← HSc.out]; exact (scale5_sz HZ.out ((Sz.int (by decide) : Sz 1 ((1 : Int) : Rat)).div (HZ.out.getD (by decide) 0))).mono (by decide))
  clear hW hw1 hw2 hw3 hM hc0 HO
  obtain ⟨b, off, r0, hao, hbl, ⟨hc1, hc2, hc3⟩, hP⟩ := (H.out.ext HX.out).cells' (k := 0) hn0
  obtain ⟨rneg, ra, rn, rc, rb, rm, rd⟩ := r0
  simp only [Nat.zero_mul, Nat.add_zero] at hc1 hc2 hc3
  have RP := Lib.hid hP
  clear hP
  subst hao
  have Z0 := Lib.hid (HZ.out.getD (by decide) 0)
  have Z1 : Hid (Sz 1 ((1 : Int) : Rat)) := Lib.hid (Sz.int (by decide))
  go_upto_region 4 with fail
  refine wp_region_front 7 (fun opIx => match opIx with
    | 1 => .spec RH default RH.v (fun s w' => CanR w' s (((1 : Int) : Rat)))
    | 5 => .spec RH default RH.v (fun s w' => CanR w' s (((1 : Int) : Rat) / qs.getD 0 0))
    | 6 => .spec (SH) (default) (SH.v) (fun x w' => CanL w' x c0)
    | _ => .quiet) (fun | 5 => [1] | 6 => [5] | _ => []) (by kernel_rfl) (by kernel_rfl) (fun w0 he0 hz0 hc0 hf0 => ?_)
  replace he0 := Lib.hid he0
  simp only [List.take_succ_cons, List.take_zero]
  repeat (refine wpF_quiet rfl rfl rfl (fun K hK => ?_); go_big_quiet_op; refine hK _ ?_; clear hK K)
  refine wpF_spec rfl rfl (fun w1 hw1 hG => ?_) (fun x1 => ?_)
  · have hW := he0.out.trans hw1
    refine spec_call [.int .i64 1] rfl rfl Tryz.func8 (by kernel_rfl) (by kernel_rfl) ?_
    exact rof3_any 1 _ (by decide) (by decide)
  simp only [Act.put, List.setIfInBounds_toArray, List.set_cons_succ, List.set_cons_zero]
  repeat (refine wpF_quiet rfl rfl rfl (fun K hK => ?_); go_big_quiet_op; refine hK _ ?_; clear hK K)
  refine wpF_spec rfl rfl (fun w1 hw1 hG => ?_) (fun x5 => ?_)
  · have hW := he0.out.trans hw1
    obtain ⟨wa1, hwa1, g1⟩ : Since _ _ := hG 1 (by decide)
    replace g1 := g1.ext hwa1
    refine spec_call [x1.v, RH.v ⟨rneg, ra, rn, rc, rb, rm, rd⟩] rfl rfl Tryz.func72 (by kernel_rfl) (by kernel_rfl) ?_
    exact rover3_any x1 _ _ _ _ (g1.raw Z1.out (by decide)) (RP.out.ext hW)
  simp only [Act.put, List.setIfInBounds_toArray, List.set_cons_succ, List.set_cons_zero]
  repeat (refine wpF_quiet rfl rfl rfl (fun K hK => ?_); go_big_quiet_op; refine hK _ ?_; clear hK K)
  refine wpF_spec rfl rfl (fun w1 hw1 hG => ?_) (fun x6 => ?_)
  · have hW := he0.out.trans hw1
    obtain ⟨wa5, hwa5, g5⟩ : Since _ _ := hG 5 (by decide)
    replace g5 := g5.ext hwa5
    refine spec_call [.slice (some ⟨b, off, none⟩) n cap, x5.v] rfl rfl Tryz.func74 (by kernel_rfl) (by kernel_rfl) ?_
    exact (scale5_any (some ⟨b, off, none⟩) n cap qs x5 _ _ (H.out.ext (HX.out.trans hW)) (g5.raw (Z1.out.div Z0.out) (by decide)) hn (HZ.out.mono (by decide)) ((Z1.out.div Z0.out).mono (by decide))).wk (fun _ _ _ h => by rw [← HSc.out]; exact h.can)
  simp only [Act.put, List.setIfInBounds_toArray, List.set_cons_succ, List.set_cons_zero]
  repeat (refine wpF_quiet rfl rfl rfl (fun K hK => ?_); go_big_quiet_op; refine hK _ ?_; clear hK K)
  refine wpF_nil ?_
  intro w4 hI
  have hE := he0.out.trans hI.ext
  obtain ⟨wa1, hwa1, g1⟩ : Since _ _ := hI.facts 1
  have G1 := Lib.hid (g1.ext hwa1)
  clear g1 hwa1
  obtain ⟨wa5, hwa5, g5⟩ : Since _ _ := hI.facts 5
  have G5 := Lib.hid (g5.ext hwa5)
  clear g5 hwa5
  obtain ⟨wa6, hwa6, g6⟩ : Since _ _ := hI.facts 6
  have G6 := Lib.hid (g6.ext hwa6)
  clear g6 hwa6
  clear hI he0 hz0 hc0 hf0
  replace HX := Lib.hid (HX.out.trans hE)
  replace RP := Lib.hid (RP.out.ext hE)
  have hs_w4 := hE.size
  clear hE
  simp only [List.drop_succ_cons, List.drop_zero]
  clear G1
  clear G5
  clear RP
  clear hc1 hc2 hc3 hbl Z0
  obtain ⟨pa, pn, pc⟩ := x6
  have hpn := G6.out.len
  rw [Hcl.out] at hpn
  simp only at hpn
  subst hpn
  have LC := Lib.hid G6.out
  clear G6
  simp only [SH.v]
  have HD : Hid (∀ w1, CanL w1 ⟨pa, M + 1, pc⟩ c0 → Does 82 [.slice pa (M + 1) pc] w1 (fun _ : Unit => .int .i64 (M : Nat)) (fun _ _ => True)) := Lib.hid (fun w1 he => by
    have h1 := degree5_any pa (M + 1) pc c0 w1 (he.raw Zc.out (by decide)) (by omega)
    rw [Htz.out, Hcl.out, show (((M + 1 : Nat) : Int) - 1) = (M : Nat) by omega] at h1
    exact h1)
  go_wp2_with fail
  refine Calls.mono (HD.out _ LC.out) ?_
  rintro e w7 ⟨x7, rfl, hE, -⟩
  replace HX := Lib.hid (HX.out.trans hE)
  replace LC := Lib.hid (LC.out.ext hE)
  have hs_w7 := hE.size
  clear hE
  go_upto_region 6 with (refine wpList_make rfl (.tmp 24) (.tmp 24) 32 rfl 30 i0 (RH.v default) 3 Tryz.underlying32 hi0 hz0 hz1 _ _ M rfl rfl (by omega) (by omega) (by rw [hz2]; omega) (by omega) ?_; intro w8 hnew hE)
  have KB : Hid (Kept w8 w7.heap.size M M []) := Lib.hid ⟨_, RBk.make rfl hnew, List.length_replicate, fun j hj => by simp at hj⟩
  clear hnew HD
  have LO : Hid (Off w7.heap.size w7.heap.size w7 ⟨pa, M + 1, pc⟩ c0) := Lib.hid (LC.out.lin.off (Or.inr (Nat.le_refl _)))
  clear LC
  replace HX := Lib.hid (HX.out.trans hE)
  replace LO := Lib.hid (LO.out.ext hE)
  have hs_w8 := hE.size
  clear hE
  obtain ⟨L, hL⟩ : ∃ L, L = w7.heap.size := ⟨_, rfl⟩
  have hLw : w.heap.size ≤ L := by omega
  rw [← hL] at KB LO ⊢
  clear hL
  have HS0 : Hid (ReflS M c0 c0 M []) := Lib.hid ⟨Hcl.out, HRf.out, by simp, by cases Stab.refl M c0 <;> simp⟩
  go_wp2
  go_loopg [0, 6] M (fun g u z wr => ∃ (s : SH) (c tl : List Rat) (oc : Nat), u = s.v ∧ z = .int .i64 (g : Nat) ∧ Ext w wr ∧ Off L oc wr s c ∧ Kept wr L M g tl ∧ ReflS M c0 c g tl)
  case atStart => exact ⟨⟨pa, M + 1, pc⟩, c0, [], _, rfl, rfl, HX.out, LO.out, KB.out, HS0.out⟩
  case round =>
    obtain ⟨⟨sa, sn, sc⟩, c, tl, oc, rfl, rfl, g1, g2, g3, g4⟩ := hrel
    clear HX LO KB HS0
    have HX := Lib.hid g1
    have LA := Lib.hid g2.sharp
    have KB := Lib.hid g3
    have HS := Lib.hid g4
    have hsn := g2.can.len
    rw [g4.1] at hsn
    simp only at hsn
    subst hsn
    clear g1 g2 g3 g4
    simp only [SH.v]
    have hLr := KB.out.lt
    by_cases h0 : gk = 0
    case pos =>
      subst h0
      obtain ⟨hs1, hs2, hs3, hs4⟩ := HS.out
      have HV2 : Hid (reflV qs = (0, tl)) := Lib.hid (by rw [HV.out, hs4]; show (0, [] ++ tl) = _; rw [List.nil_append])
      have RO := Lib.hid (KB.out.can (by omega) (by omega))
      clear hs1 hs2 hs3 hs4
      go_wp2
      exact bodyPost_ret (v := RF (⟨some ⟨L, 0, none⟩, M, M⟩, 0)) (by simp [results, Tryz.results34, go_sem, RF]) rfl ⟨(⟨some ⟨L, 0, none⟩, M, M⟩, 0), rfl, HX.out, by rw [HV2.out], by rw [HV2.out]; exact RO.out⟩
    obtain ⟨g0, rfl⟩ : ∃ g0, gk = g0 + 1 := ⟨gk - 1, by omega⟩
    have hgM : g0 < M := by have := HS.out.2.2.1; omega
    have ZA := Lib.hid HS.out.2.1.1
    obtain ⟨r, hr⟩ : ∃ r, r = c.getD (g0 + 1) 0 := ⟨_, rfl⟩
    have ZR : Hid (Sz 8388608 r) := Lib.hid (by rw [hr]; exact ZA.out.getD (by decide) _)
    have Hr := Lib.hid hr
    clear hr
    have Hat : Hid (∀ w1, Ext wr w1 → Does 69 [.slice sa (g0 + 1 + 1) sc, .int .i64 ((g0 : Int) + 1)] w1 RH.v (fun x w' => CanR w' x r)) := Lib.hid (fun w1 he => by rw [Hr.out, show (g0 : Int) + 1 = ((g0 + 1 : Nat) : Int) by omega]; exact at5_any sa (g0 + 1 + 1) sc c (g0 + 1) w1 ((LA.out.can.ext he).raw ZA.out (by decide)) (by omega))
    go_wp2_with fail
    refine Calls.mono (Hat.out _ (Ext.refl _)) ?_
    rintro e w10 ⟨x10, rfl, hE, g10⟩
    have G10 := Lib.hid g10
    clear g10
    replace HX := Lib.hid (HX.out.trans hE)
    replace LA := Lib.hid (LA.out.ext hE)
    replace KB := Lib.hid (KB.out.ext hE)
    have hs_w10 := hE.size
    clear hE
    clear Hat
    go_upto_region 10 with fail
    refine nm_alloc ?_
    intro y11 hE hB0 hz
    have hz_y11 := Nat.le_of_eq hz
    have hr_y11 := Nat.le_of_eq hz.symm
    clear hz
    replace HX := Lib.hid (HX.out.trans hE)
    replace LA := Lib.hid (LA.out.ext hE)
    replace KB := Lib.hid (KB.out.ext hE)
    replace G10 := Lib.hid (G10.out.ext hE)
    have hs_y11 := hE.size
    clear hE
    have B7 := Lib.hid hB0
    clear hB0
    have c_B7 := blk_cell B7.out
    have f_B7 := blk_frozen B7.out
    have l_B7 := (Array.getElem?_eq_some_iff.1 B7.out).1
    obtain ⟨b7, hb7⟩ : ∃ b7, b7 = w10.heap.size := ⟨_, rfl⟩
    have hb7L : L < b7 := by omega
    have hb7w : w.heap.size ≤ b7 := by omega
    rw [← hb7] at B7 ⊢
    clear hb7 c_B7 f_B7 l_B7
    (try clear c_B7 f_B7 l_B7)
    have c_B7 := blk_cell B7.out
    have f_B7 := blk_frozen B7.out
    have l_B7 := (Array.getElem?_eq_some_iff.1 B7.out).1
    go_wp2_with fail
    refine Calls.mono (small18_any x10 r _ (G10.out.raw ZR.out (by decide))) ?_
    rintro e w12 ⟨x12, rfl, hE, -⟩
    replace HX := Lib.hid (HX.out.trans hE)
    replace LA := Lib.hid (LA.out.ext hE)
    replace KB := Lib.hid (KB.out.ext hE)
    replace G10 := Lib.hid (G10.out.ext hE)
    replace B7 := Lib.hid (hE.block B7.out)
    have hs_w12 := hE.size
    clear hE
    (try clear c_B7 f_B7 l_B7)
    have c_B7 := blk_cell B7.out
    have f_B7 := blk_frozen B7.out
    have l_B7 := (Array.getElem?_eq_some_iff.1 B7.out).1
    by_cases hsm : -1 < r ∧ r < 1
    case neg =>
      have HV2 : Hid (reflV qs = (14, [])) := Lib.hid (by rw [HV.out, HS.out.stop (by rw [← Hr.out]; exact hsm)]; rfl)
      rw [decide_eq_false hsm]
      go_wp2
      exact bodyPost_ret (v := RF (⟨none, 0, 0⟩, 14)) (by simp [results, Tryz.results34, go_sem, RF]) rfl ⟨(⟨none, 0, 0⟩, 14), rfl, HX.out, by rw [HV2.out], by rw [HV2.out]; exact (NewL.nil 0 _).can⟩
    rw [decide_eq_true hsm]
    have HN : Hid (ReflS M c0 (Stab.down c r (g0 + 1)) g0 (r :: tl)) := Lib.hid (by have := HS.out.next (by rw [← Hr.out]; exact hsm); rw [← Hr.out] at this; exact this)
    clear hsm
    have hgi : (g0 : Int) + 1 - 1 = g0 := by omega
    have hgMi : (g0 : Int) < M := by omega
    have hfr : ∀ x, w12.frozen? ⟨L, x, none⟩ = false := KB.out.frozen
    have hLl := KB.out.lt
    obtain ⟨ro, e1, e2, e3⟩ := KB.out.cells (k := g0) hgM
    go_upto_region 13 with fail
    refine nm_kept (g := g0) (x := x10) KB.out hgM G10.out ?_
    intro y13 hT hK
    obtain ⟨cs', T⟩ := hT
    have KBn := Lib.hid hK
    clear hK e1 e2 e3 hfr hLl hgi hgMi
    clear KB
    replace HX := Lib.hid (T.ext HX.out (by omega))
    replace LA := Lib.hid (LA.out.put T (by omega))
    replace G10 := Lib.hid (G10.out.keep T.keep)
    replace B7 := Lib.hid (T.rest _ _ (by omega) B7.out)
    have hs_y13 := Nat.le_of_eq T.size
    have hr_y13 := Nat.le_of_eq T.size.symm
    clear T
    (try clear c_B7 f_B7 l_B7)
    have c_B7 := blk_cell B7.out
    have f_B7 := blk_frozen B7.out
    have l_B7 := (Array.getElem?_eq_some_iff.1 B7.out).1
    have KB := Lib.hid KBn.out
    clear KBn
    have hb7y := l_B7
    refine wp_region_front 6 (fun opIx => match opIx with
      | 0 => .spec RH default RH.v (fun s w' => CanR w' s (((1 : Int) : Rat)))
      | 3 => .spec RH default RH.v (fun s w' => CanR w' s (r * r))
      | 4 => .spec RH default RH.v (fun s w' => CanR w' s (((1 : Int) : Rat) - r * r))
      | 5 => .alloc 30 #[.bool false, .slice none 0 0, .slice none 0 0]
      | _ => .quiet) (fun | 4 => [0, 3] | _ => []) (by kernel_rfl) (by kernel_rfl) (fun w0 he0 hz0 hc0 hf0 => ?_)
    replace he0 := Lib.hid he0
    simp only [List.take_succ_cons, List.take_zero]
    repeat (refine wpF_quiet rfl rfl rfl (fun K hK => ?_); go_big_quiet_op; refine hK _ ?_; clear hK K)
    refine wpF_spec rfl rfl (fun w1 hw1 hG => ?_) (fun x20 => ?_)
    · have hW := he0.out.trans hw1
      refine spec_call [.int .i64 1] rfl rfl Tryz.func8 (by kernel_rfl) (by kernel_rfl) ?_
      exact rof3_any 1 _ (by decide) (by decide)
    simp only [Act.put, List.setIfInBounds_toArray, List.set_cons_succ, List.set_cons_zero]
    repeat (refine wpF_quiet rfl rfl rfl (fun K hK => ?_); go_big_quiet_op; refine hK _ ?_; clear hK K)
    refine wpF_spec rfl rfl (fun w1 hw1 hG => ?_) (fun x21 => ?_)
    · have hW := he0.out.trans hw1
      refine spec_call [x10.v, x10.v] rfl rfl Tryz.func11 (by kernel_rfl) (by kernel_rfl) ?_
      exact rmul3_any x10 x10 _ _ _ ((G10.out.ext hW).raw ZR.out (by decide)) ((G10.out.ext hW).raw ZR.out (by decide))
    simp only [Act.put, List.setIfInBounds_toArray, List.set_cons_succ, List.set_cons_zero]
    repeat (refine wpF_quiet rfl rfl rfl (fun K hK => ?_); go_big_quiet_op; refine hK _ ?_; clear hK K)
    refine wpF_spec rfl rfl (fun w1 hw1 hG => ?_) (fun x22 => ?_)
    · have hW := he0.out.trans hw1
      obtain ⟨wa20, hwa20, g20⟩ : Since _ _ := hG 0 (by decide)
      replace g20 := g20.ext hwa20
      obtain ⟨wa21, hwa21, g21⟩ : Since _ _ := hG 3 (by decide)
      replace g21 := g21.ext hwa21
      refine spec_call [x20.v, x21.v] rfl rfl Tryz.func84 (by kernel_rfl) (by kernel_rfl) ?_
      exact rsub3_any x20 x21 _ _ _ (g20.raw Z1.out (by decide)) (g21.raw (ZR.out.mul ZR.out) (by decide))
    simp only [Act.put, List.setIfInBounds_toArray, List.set_cons_succ, List.set_cons_zero]
    repeat (refine wpF_quiet rfl rfl rfl (fun K hK => ?_); go_big_quiet_op; refine hK _ ?_; clear hK K)
    refine wpF_alloc rfl rfl (fun w => by simp [execOp, go_sem, ptr]) (fun b8 hb8 hl8 => ?_)
    simp only [Act.put, List.setIfInBounds_toArray, List.set_cons_succ, List.set_cons_zero]
    repeat (refine wpF_quiet rfl rfl rfl (fun K hK => ?_); go_big_quiet_op; refine hK _ ?_; clear hK K)
    refine wpF_nil ?_
    intro w14 hI
    have hE := he0.out.trans hI.ext
    obtain ⟨wa20, hwa20, g20⟩ : Since _ _ := hI.facts 0
    have G20 := Lib.hid (g20.ext hwa20)
    clear g20 hwa20
    obtain ⟨wa21, hwa21, g21⟩ : Since _ _ := hI.facts 3
    have G21 := Lib.hid (g21.ext hwa21)
    clear g21 hwa21
    obtain ⟨wa22, hwa22, g22⟩ : Since _ _ := hI.facts 4
    have G22 := Lib.hid (g22.ext hwa22)
    clear g22 hwa22
    have A8 : Hid (w14.heap[b8]? = some (.cells #[.bool false, .slice none 0 0, .slice none 0 0] 30 (0, 0))) := hI.facts 5
    rw [hz0] at hl8
    clear hI he0 hz0 hc0 hf0
    replace HX := Lib.hid (HX.out.trans hE)
    replace LA := Lib.hid (LA.out.ext hE)
    replace G10 := Lib.hid (G10.out.ext hE)
    replace B7 := Lib.hid (hE.block B7.out)
    replace KB := Lib.hid (KB.out.ext hE)
    have hs_w14 := hE.size
    clear hE
    (try clear c_B7 f_B7 l_B7)
    have c_B7 := blk_cell B7.out
    have f_B7 := blk_frozen B7.out
    have l_B7 := (Array.getElem?_eq_some_iff.1 B7.out).1
    have c_A8 := blk_cell A8.out
    have f_A8 := blk_frozen A8.out
    have l_A8 := (Array.getElem?_eq_some_iff.1 A8.out).1
    simp only [List.drop_succ_cons, List.drop_zero, ptr]
    go_upto_region 14 with fail
    refine nm_set3 A8.out rfl ?_
    intro y15 T
    replace HX := Lib.hid (T.ext HX.out (by omega))
    replace LA := Lib.hid (LA.out.put T (by omega))
    replace G10 := Lib.hid (G10.out.keep T.keep)
    replace B7 := Lib.hid (T.rest _ _ (by omega) B7.out)
    replace KB := Lib.hid (KB.out.put T (by omega))
    replace G20 := Lib.hid (G20.out.keep T.keep)
    replace G21 := Lib.hid (G21.out.keep T.keep)
    replace G22 := Lib.hid (G22.out.keep T.keep)
    replace A8 := Lib.hid (T.bx)
    have hs_y15 := Nat.le_of_eq T.size
    have hr_y15 := Nat.le_of_eq T.size.symm
    clear T
    (try clear c_B7 f_B7 l_B7)
    have c_B7 := blk_cell B7.out
    have f_B7 := blk_frozen B7.out
    have l_B7 := (Array.getElem?_eq_some_iff.1 B7.out).1
    (try clear c_A8 f_A8 l_A8)
    have c_A8 := blk_cell A8.out
    have f_A8 := blk_frozen A8.out
    have l_A8 := (Array.getElem?_eq_some_iff.1 A8.out).1
    have hLy := KB.out.lt
    have ZD : Hid (Sz 16777218 (((1 : Int) : Rat) - r * r)) := Lib.hid ((Z1.out.sub (ZR.out.mul ZR.out)).mono (by decide))
    have HLy : Hid (w.heap.size ≤ y15.heap.size) := Lib.hid HX.out.size
    clear G20
    clear G21
    go_wp2
    go_loopg [9, 10] (g0 + 1) (fun g u z wr2 => ∃ (i : Nat) (x : SH), u = x.v ∧ i + g = g0 + 1 ∧ z = .int .i64 (i : Nat) ∧ Ext y15 wr2 ∧ OwnQ wr2 (y15.heap.size ≤ ·) x.v ((List.range i).map (dnE c r (g0 + 1))))
    case atStart => exact ⟨0, ⟨none, 0, 0⟩, rfl, by omega, rfl, Ext.refl _, OwnQ.nil _ _⟩
    case round =>
      obtain ⟨i, ⟨xa, xn, xc⟩, rfl, hi, rfl, g1, g2⟩ := hrel
      have HE := Lib.hid g1
      have HO := Lib.hid g2
      clear g1 g2
      simp only [SH.v]
      replace LA := Lib.hid (LA.out.ext HE.out)
      replace KB := Lib.hid (KB.out.ext HE.out)
      replace G10 := Lib.hid (G10.out.ext HE.out)
      replace G22 := Lib.hid (G22.out.ext HE.out)
      replace HX := Lib.hid (HX.out.trans HE.out)
      replace B7 := Lib.hid (HE.out.block B7.out)
      replace A8 := Lib.hid (HE.out.block A8.out)
      have hszr := HE.out.size
      clear c_B7 f_B7 l_B7 c_A8 f_A8 l_A8
      (try clear c_B7 f_B7 l_B7)
      have c_B7 := blk_cell B7.out
      have f_B7 := blk_frozen B7.out
      have l_B7 := (Array.getElem?_eq_some_iff.1 B7.out).1
      (try clear c_A8 f_A8 l_A8)
      have c_A8 := blk_cell A8.out
      have f_A8 := blk_frozen A8.out
      have l_A8 := (Array.getElem?_eq_some_iff.1 A8.out).1
      by_cases h1 : gk = 0
      case pos =>
        subst h1
        obtain rfl : i = g0 + 1 := by omega
        have LN : Hid (Off L wr.heap.size wr ⟨xa, xn, xc⟩ (Stab.down c r (g0 + 1))) := Lib.hid (by rw [down_dn]; exact (OwnQ.lin (s := ⟨xa, xn, xc⟩) HO.out).off hLy)
        go_wp2
        go_roundg g0
        case measure => omega
        case rel => exact ⟨⟨xa, xn, xc⟩, _, r :: tl, _, rfl, by go_num, HX.out, LN.out, KB.out, HN.out⟩
      obtain ⟨i2, hi2⟩ : ∃ i2, i2 = g0 + 1 - i := ⟨_, rfl⟩
      have hI2 : (g0 : Int) + 1 - (i : Int) = (i2 : Nat) := by omega
      have hi2b : i2 ≤ 100 := by omega
      have hig : (i : Int) < (g0 : Int) + 1 := by omega
      have ZI := Lib.hid (ZA.out.getD (by decide) i)
      have ZJ := Lib.hid (ZA.out.getD (by decide) i2)
      have HNx : Hid ((List.range (i + 1)).map (dnE c r (g0 + 1)) = (List.range i).map (dnE c r (g0 + 1)) ++ [(c.getD i 0 - r * c.getD i2 0) / (((1 : Int) : Rat) - r * r)]) := Lib.hid (by rw [range_snoc', hi2]; rfl)
      have HLn : Hid (((List.range i).map (dnE c r (g0 + 1))).length ≤ 1073741824) := Lib.hid (by rw [List.length_map, List.length_range]; omega)
      clear hi2
      go_upto_region 18 with fail
      refine wp_region_front 15 (fun opIx => match opIx with
        | 3 => .spec RH default RH.v (fun s w' => CanR w' s (c.getD i 0))
        | 9 => .spec RH default RH.v (fun s w' => CanR w' s (c.getD i2 0))
        | 10 => .spec RH default RH.v (fun s w' => CanR w' s (r * c.getD i2 0))
        | 11 => .spec RH default RH.v (fun s w' => CanR w' s (c.getD i 0 - r * c.getD i2 0))
        | 13 => .spec RH default RH.v (fun s w' => CanR w' s ((c.getD i 0 - r * c.getD i2 0) / (((1 : Int) : Rat) - r * r)))
        | 14 => .spec (Nat × RH) ((0, default)) (fun p => .slice (some ⟨p.1, 0, none⟩) 1 1) (fun p w' => BuiltR w' p ((c.getD i 0 - r * c.getD i2 0) / (((1 : Int) : Rat) - r * r)))
        | _ => .quiet) (fun | 10 => [9] | 11 => [3, 10] | 13 => [11] | 14 => [13] | _ => []) (by kernel_rfl) (by kernel_rfl) (fun w0 he0 hz0 hc0 hf0 => ?_)
      replace he0 := Lib.hid he0
      simp only [List.take_succ_cons, List.take_zero]
      repeat (refine wpF_quiet rfl rfl rfl (fun K hK => ?_); go_big_quiet_op; refine hK _ ?_; clear hK K)
      refine wpF_spec rfl rfl (fun w1 hw1 hG => ?_) (fun x30 => ?_)
      · have hW := he0.out.trans hw1
        refine spec_call [.slice sa (g0 + 1 + 1) sc, .int .i64 (i : Nat)] rfl rfl Tryz.func69 (by kernel_rfl) (by kernel_rfl) ?_
        exact at5_any sa (g0 + 1 + 1) sc c i _ ((LA.out.ext hW).can.raw ZA.out (by decide)) (by omega)
      simp only [Act.put, List.setIfInBounds_toArray, List.set_cons_succ, List.set_cons_zero]
      repeat (refine wpF_quiet rfl rfl rfl (fun K hK => ?_); go_big_quiet_op; refine hK _ ?_; clear hK K)
      refine wpF_spec rfl rfl (fun w1 hw1 hG => ?_) (fun x31 => ?_)
      · have hW := he0.out.trans hw1
        refine spec_call [.slice sa (g0 + 1 + 1) sc, .int .i64 (i2 : Nat)] rfl rfl Tryz.func69 (by kernel_rfl) (by kernel_rfl) ?_
        exact at5_any sa (g0 + 1 + 1) sc c i2 _ ((LA.out.ext hW).can.raw ZA.out (by decide)) (by omega)
      simp only [Act.put, List.setIfInBounds_toArray, List.set_cons_succ, List.set_cons_zero]
      repeat (refine wpF_quiet rfl rfl rfl (fun K hK => ?_); go_big_quiet_op; refine hK _ ?_; clear hK K)
      refine wpF_spec rfl rfl (fun w1 hw1 hG => ?_) (fun x32 => ?_)
      · have hW := he0.out.trans hw1
        obtain ⟨wa31, hwa31, g31⟩ : Since _ _ := hG 9 (by decide)
        replace g31 := g31.ext hwa31
        refine spec_call [x10.v, x31.v] rfl rfl Tryz.func11 (by kernel_rfl) (by kernel_rfl) ?_
        exact rmul3_any x10 x31 _ _ _ ((G10.out.ext hW).raw ZR.out (by decide)) (g31.raw ZJ.out (by decide))
      simp only [Act.put, List.setIfInBounds_toArray, List.set_cons_succ, List.set_cons_zero]
      repeat (refine wpF_quiet rfl rfl rfl (fun K hK => ?_); go_big_quiet_op; refine hK _ ?_; clear hK K)
      refine wpF_spec rfl rfl (fun w1 hw1 hG => ?_) (fun x33 => ?_)
      · have hW := he0.out.trans hw1
        obtain ⟨wa30, hwa30, g30⟩ : Since _ _ := hG 3 (by decide)
        replace g30 := g30.ext hwa30
        obtain ⟨wa32, hwa32, g32⟩ : Since _ _ := hG 10 (by decide)
        replace g32 := g32.ext hwa32
        refine spec_call [x30.v, x32.v] rfl rfl Tryz.func84 (by kernel_rfl) (by kernel_rfl) ?_
        exact rsub3_any x30 x32 _ _ _ (g30.raw ZI.out (by decide)) (g32.raw (ZR.out.mul ZJ.out) (by decide))
      simp only [Act.put, List.setIfInBounds_toArray, List.set_cons_succ, List.set_cons_zero]
      repeat (refine wpF_quiet rfl rfl rfl (fun K hK => ?_); go_big_quiet_op; refine hK _ ?_; clear hK K)
      refine wpF_spec rfl rfl (fun w1 hw1 hG => ?_) (fun x34 => ?_)
      · have hW := he0.out.trans hw1
        obtain ⟨wa33, hwa33, g33⟩ : Since _ _ := hG 11 (by decide)
        replace g33 := g33.ext hwa33
        refine spec_call [x33.v, x22.v] rfl rfl Tryz.func72 (by kernel_rfl) (by kernel_rfl) ?_
        exact rover3_any x33 x22 _ _ _ (g33.raw (ZI.out.sub (ZR.out.mul ZJ.out)) (by decide)) ((G22.out.ext hW).raw ZD.out (by decide))
      simp only [Act.put, List.setIfInBounds_toArray, List.set_cons_succ, List.set_cons_zero]
      repeat (refine wpF_quiet rfl rfl rfl (fun K hK => ?_); go_big_quiet_op; refine hK _ ?_; clear hK K)
      refine wpF_spec rfl rfl (fun w1 hw1 hG => ?_) (fun x35 => ?_)
      · have hW := he0.out.trans hw1
        obtain ⟨wa34, hwa34, g34⟩ : Since _ _ := hG 13 (by decide)
        replace g34 := g34.ext hwa34
        exact spec_build x34 _ g34 rfl (by simp [execOp, go_sem])
      simp only [Act.put, List.setIfInBounds_toArray, List.set_cons_succ, List.set_cons_zero]
      repeat (refine wpF_quiet rfl rfl rfl (fun K hK => ?_); go_big_quiet_op; refine hK _ ?_; clear hK K)
      refine wpF_nil ?_
      intro w16 hI
      have hE := he0.out.trans hI.ext
      obtain ⟨wa30, hwa30, g30⟩ : Since _ _ := hI.facts 3
      have G30 := Lib.hid (g30.ext hwa30)
      clear g30 hwa30
      obtain ⟨wa31, hwa31, g31⟩ : Since _ _ := hI.facts 9
      have G31 := Lib.hid (g31.ext hwa31)
      clear g31 hwa31
      obtain ⟨wa32, hwa32, g32⟩ : Since _ _ := hI.facts 10
      have G32 := Lib.hid (g32.ext hwa32)
      clear g32 hwa32
      obtain ⟨wa33, hwa33, g33⟩ : Since _ _ := hI.facts 11
      have G33 := Lib.hid (g33.ext hwa33)
      clear g33 hwa33
      obtain ⟨wa34, hwa34, g34⟩ : Since _ _ := hI.facts 13
      have G34 := Lib.hid (g34.ext hwa34)
      clear g34 hwa34
      obtain ⟨wa35, hwa35, g35⟩ : Since _ _ := hI.facts 14
      have G35 := Lib.hid (g35.ext hwa35)
      clear g35 hwa35
      clear hI he0 hz0 hc0 hf0
      replace HE := Lib.hid (HE.out.trans hE)
      replace HX := Lib.hid (HX.out.trans hE)
      replace HO := Lib.hid (HO.out.ext hE)
      replace LA := Lib.hid (LA.out.ext hE)
      replace KB := Lib.hid (KB.out.ext hE)
      replace G10 := Lib.hid (G10.out.ext hE)
      replace G22 := Lib.hid (G22.out.ext hE)
      replace B7 := Lib.hid (hE.block B7.out)
      replace A8 := Lib.hid (hE.block A8.out)
      have hs_w16 := hE.size
      clear hE
      (try clear c_B7 f_B7 l_B7)
      have c_B7 := blk_cell B7.out
      have f_B7 := blk_frozen B7.out
      have l_B7 := (Array.getElem?_eq_some_iff.1 B7.out).1
      (try clear c_A8 f_A8 l_A8)
      have c_A8 := blk_cell A8.out
      have f_A8 := blk_frozen A8.out
      have l_A8 := (Array.getElem?_eq_some_iff.1 A8.out).1
      simp only [List.drop_succ_cons, List.drop_zero]
      go_wp2_with (at_builtin; refine wpList_append_q rfl (.tmp 53) (.tmp 67) 33 Tryz.underlying33 rfl (y15.heap.size ≤ ·) _ _ x35.2 _ x35.1 rfl HO.out rfl G35.out.1 G35.out.2 HLn.out (fun k hk => by omega) ?_; intro s' y17 q1 q2 q3)
      have HE3 := Lib.hid (Ext.mods HE.out q2 (fun k h => h))
      have HO3 : Hid (OwnQ y17 (y15.heap.size ≤ ·) s'.v ((List.range (i + 1)).map (dnE c r (g0 + 1)))) := Lib.hid (by rw [HNx.out]; exact q1)
      clear q1 q2 q3
      go_wp2
      go_roundg (gk - 1)
      case measure => omega
      case rel => exact ⟨i + 1, s', rfl, by omega, by go_num, HE3.out, HO3.out⟩
end Go.Proofs.YtbcamhfoemnmgaaGreat
