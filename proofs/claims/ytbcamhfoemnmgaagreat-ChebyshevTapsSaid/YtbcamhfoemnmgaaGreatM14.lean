/- Tb, Bsz -/
import Derived.Test.YtbcamhfoemnmgaaGreatM13
import Derived.Test.YtbcamhfoemnmgaaGreatM11
set_option linter.unusedVariables false
/- ToBasis of package chebyshev. -/
namespace Go.Proofs.YtbcamhfoemnmgaaGreat
open Go.RowKit Go.Front Go.Num
attribute [local go_sem] XW.cell XW.frozen
/-- A list that lies apart from the blocks R and C. -/
def Apart (R C : Nat) (w : World) (s : SH) (qs : List Rat) : Prop := ∃ lo hi, LIn w s qs lo hi ∧ (R < lo ∨ hi ≤ R) ∧ (C < lo ∨ hi ≤ C)
theorem Apart.ext {R C : Nat} {w w' : World} {s : SH} {qs : List Rat} (h : Apart R C w s qs) (he : Ext w w') : Apart R C w' s qs := let ⟨lo, hi, h1, h2⟩ := h; ⟨lo, hi, h1.ext he, h2⟩
theorem Apart.can {R C : Nat} {w : World} {s : SH} {qs : List Rat} (h : Apart R C w s qs) : CanL w s qs := let ⟨_, _, h1, _⟩ := h; h1.can
theorem Apart.put {R C b : Nat} {w1 w2 : World} {s : SH} {qs : List Rat} {T : TypeId} {cs : Array Value} (h : Apart R C w1 s qs) (T2 : PutB w1 b T cs w2) (hb : b = R ∨ b = C) : Apart R C w2 s qs := by
  obtain ⟨lo, hi, h1, h2, h3⟩ := h
  exact ⟨lo, hi, h1.put T2 (by rcases hb with rfl | rfl; · exact h2
                               · exact h3), h2, h3⟩
theorem NewL.apart {R C B : Nat} {w : World} {s : SH} {qs : List Rat} (h : NewL B w s qs) (hR : R < B) (hC : C < B) : Apart R C w s qs := ⟨_, _, h, Or.inl hR, Or.inl hC⟩
theorem CanL.apart {R C : Nat} {w : World} {s : SH} {qs : List Rat} (h : CanL w s qs) (hR : w.heap.size ≤ R) (hC : w.heap.size ≤ C) : Apart R C w s qs := ⟨_, _, h.lin, Or.inr hR, Or.inr hC⟩
/-- The rest after k places of a step. -/
def tbO (r : List Rat) (m k i : Nat) : Rat := if i < k then r.getD i 0 - r.getD m 0 / Tf m m * Tf m i else r.getD i 0
theorem tbO_end {os r : List Rat} {m : Nat} (h : ∀ i, i < m + 1 → os.getD i 0 = tbO r m (m + 1) i) : ∀ i, i < m → os.getD i 0 = (tbStep r m).getD i 0 := by
  intro i hi
  rw [h i (by omega)]
  unfold tbO tbStep
  rw [if_pos (by omega), range_getD, if_pos hi]
theorem tbStep_sz {r : List Rat} {m t : Nat} (h : SzL t r) (ht : 1 ≤ t) (hm : m ≤ 60) : SzL (2 * t + 9) (tbStep r m) := by
  intro q hq
  obtain ⟨i, -, rfl⟩ := List.mem_map.1 hq
  exact ((h.getD ht i).sub (((h.getD ht m).div (Tf_sz hm)).mul (Tf_sz hm))).mono (by omega)
theorem tbO_sz {r : List Rat} {m t k i : Nat} (h : SzL t r) (ht : 1 ≤ t) (hm : m ≤ 60) : Sz (2 * t + 9) (tbO r m k i) := by
  unfold tbO
  split
  · exact ((h.getD ht i).sub (((h.getD ht m).div (Tf_sz hm)).mul (Tf_sz hm))).mono (by omega)
  · exact (h.getD ht i).mono (by omega)
theorem tbO_set {os r : List Rat} {N m k : Nat} (hl : os.length = N) (hk : k < m + 1) (hmN : m < N) (h : ∀ i, i < m + 1 → os.getD i 0 = tbO r m k i) : ∀ i, i < m + 1 → (os.set k (tbO r m (k + 1) k)).getD i 0 = tbO r m (k + 1) i := by
  intro i hi
  by_cases he : i = k
  · subst he
    rw [show (os.set i (tbO r m (i + 1) i)).getD i 0 = tbO r m (i + 1) i by simp [show i < os.length by omega]]
  · rw [show (os.set k (tbO r m (k + 1) k)).getD i 0 = os.getD i 0 by rw [List.getD_eq_getElem?_getD, List.getElem?_set_ne (Ne.symm he), ← List.getD_eq_getElem?_getD], h i hi]
    unfold tbO
    by_cases h1 : i < k
    · rw [if_pos h1, if_pos (by omega)]
    · rw [if_neg h1, if_neg (by omega)]
theorem drop_set {ds : List Rat} {N m : Nat} {x : Rat} (hl : ds.length = N) (hm : m < N) : (ds.set m x).drop m = x :: ds.drop (m + 1) := by
  rw [List.drop_eq_getElem_cons (by simp; omega), List.drop_set_of_lt (by omega)]
  simp
theorem tb_scale_back {N : Nat} {p : List Rat} {S : Rat} (hS : S ≠ 0) : (tbV N (p.map (· * S))).map (· / S) = tbV N p := by
  rw [tbV_mul, List.map_map]
  conv => rhs; rw [← List.map_id (tbV N p)]
  apply List.map_congr_left
  intro x _
  simp only [Function.comp, id]
  rw [Rat.div_def, Rat.mul_assoc, Rat.mul_inv_cancel _ hS, Rat.mul_one]
theorem tb_size {N s : Nat} (r : List Rat) (t g : Nat) (hg : g ≤ N) (h : t + 9 ≤ (s + 9) * 2 ^ (N - g)) (hN : N ≤ 12) (hs : s ≤ 1000) : t ≤ 4132864 := by
  have h1 : 2 ^ (N - g) ≤ 2 ^ 12 := Nat.pow_le_pow_right (by decide) (by omega)
  have h2 := Nat.mul_le_mul (show s + 9 ≤ 1009 by omega) h1
  omega
theorem tb_grow {N s t g : Nat} (hg : g + 1 ≤ N) (h : t + 9 ≤ (s + 9) * 2 ^ (N - (g + 1))) : 2 * t + 9 + 9 ≤ (s + 9) * 2 ^ (N - g) := by
  rw [show N - g = N - (g + 1) + 1 by omega, Nat.pow_succ, ← Nat.mul_assoc]
  omega
set_option maxRecDepth 8000 in
set_option maxHeartbeats 4000000 in
theorem tobasis_new (ao : Option Addr) (n cap s : Nat) (ps : List Rat) (w : World) (h : RawL w ⟨ao, n, cap⟩ ps) (hn : n ≤ 12) (hz : SzL s ps) (hs1 : 1 ≤ s) (hs : s ≤ 76) :
    Does 30 [.slice ao n cap] w SH.v (fun x w' => NewL w.heap.size w' x (tbV (tz ps).length (tz ps))) := by
  obtain ⟨i0, hi0, hz0, hz1, hz2⟩ := info_parts infoR
  have H := Lib.hid h
  have HX := Lib.hid (Ext.refl w)
  have Hn := Lib.hid h.len
  simp only at Hn
  have HZ := Lib.hid hz.tz
  clear h hz
  unfold Does
  go_enter Tryz.func30, Tryz.ntmps30
  go_wp2_with fail
  refine Calls.mono (ptrim_any ao n cap ps _ H.out (by omega)) ?_
  rintro e w1 ⟨x1, rfl, hE, g1⟩
  have G1 := Lib.hid g1
  clear g1
  replace HX := Lib.hid (HX.out.trans hE)
  have hs_w1 := hE.size
  clear hE
  obtain ⟨pa, N, pc⟩ := x1
  simp only [SH.v]
  have hP := G1.out.len
  have hPn := tz_len_le ps
  rw [Hn.out] at hPn
  simp only at hP
  rw [hP] at hPn
  have HV : Hid (tbV (tz ps).length (tz ps) = tbV N (tz ps)) := Lib.hid (by rw [hP])
  have HPl := Lib.hid hP
  have HPt := Lib.hid (tz_idem ps)
  clear hP
  obtain ⟨p, hp⟩ : ∃ p, p = tz ps := ⟨_, rfl⟩
  have hpe := Lib.hid hp
  rw [← hp] at G1 HZ HPl HPt
  have HVo : Hid (tbV p.length p = tbV N p) := Lib.hid (by rw [HPl.out])
  clear HV
  clear hp
  by_cases hN0 : N = 0
  case pos =>
    subst hN0
    go_wp2
    go_ret
    exact ⟨⟨none, 0, 0⟩, rfl, HX.out, by rw [← hpe.out, HVo.out]; exact NewL.nil _ _⟩
  obtain ⟨m, rfl⟩ : ∃ m, N = m + 1 := ⟨N - 1, by omega⟩
  have LP := Lib.hid (G1.out.can.raw HZ.out (by omega))
  have hp1 := LP.out.le
  have hp2 := LP.out.max
  simp only at hp1 hp2
  have hm1 : ((m + 1 : Nat) : Int) - 1 = m := by omega
  have hmb : (((m + 1 : Nat) : Int) == 0) = false := by rw [beq_eq_false_iff_ne]; omega
  go_wp2_with fail
  refine Calls.mono (pair_any m _ (by omega)) ?_
  rintro e w2 ⟨x2, rfl, hE, g2⟩
  have G2 := Lib.hid g2
  clear g2
  replace HX := Lib.hid (HX.out.trans hE)
  replace G1 := Lib.hid (G1.out.ext hE)
  have hs_w2 := hE.size
  clear hE
  obtain ⟨⟨ha, hn', hc⟩, ⟨la, ln, lc⟩⟩ := x2
  simp only [PF, SH.v]
  have LPl : Hid (LIn w2 ⟨pa, m + 1, pc⟩ p 0 w2.heap.size) := Lib.hid G1.out.can.lin
  have LH := Lib.hid G2.out.1.can
  have LL := Lib.hid G2.out.2.can
  clear G2
  have hhn := LH.out.len
  rw [chA_len] at hhn
  simp only at hhn
  subst hhn
  have hh1 := LH.out.le
  have hh2 := LH.out.max
  simp only at hh1 hh2
  obtain ⟨b', off', r', hao', hat, hT⟩ := LH.out.at (k := m) (by omega)
  have hbl' := RAt.lt hat
  obtain ⟨hd1, hd2, hd3⟩ := hat
  obtain ⟨tneg, ta, tn, tc, tb, tm, td⟩ := r'
  simp only at hd1 hd2 hd3
  subst hao'
  have HRT : Hid (RawR w2 ⟨tneg, ta, tn, tc, tb, tm, td⟩ (Tf m m)) := Lib.hid (hT.raw (Tf_sz (k := m) (i := m) (by omega)) (by decide))
  have E2 := Lib.hid (Ext.refl w2)
  clear hT
  have hcg : cg s (m + 1) ≤ 12 * s + 1 := by unfold cg; have := Nat.mul_le_mul_right s (show m + 1 ≤ 12 by omega); omega
  have ZS0 : Hid (Sz (12 * s + 1) (comV p)) := Lib.hid (by
    have h0 := com_sz HZ.out (m + 1) (by rw [HPl.out]; exact Nat.le_refl _)
    rw [List.take_of_length_le (by rw [HPl.out]; exact Nat.le_refl _)] at h0
    exact h0.mono hcg)
  obtain ⟨S0, hS0⟩ : ∃ S0, S0 = comV p := ⟨_, rfl⟩
  have SN0 : Hid (S0 ≠ 0) := Lib.hid (by rw [hS0]; exact com_ne p)
  have HS0 := Lib.hid hS0
  rw [← hS0] at ZS0
  clear hS0
  have E1 := LP
  clear E1 LP
  clear G1
  go_upto_region 5 with fail
  refine wp_region_front 10 (fun opIx => match opIx with
    | 1 => .spec RH default RH.v (fun s w' => CanR w' s (S0))
    | 8 => .spec RH default RH.v (fun s w' => CanR w' s (S0 * Tf m m))
    | 9 => .alloc 30 #[.bool false, .slice none 0 0, .slice none 0 0]
    | _ => .quiet) (fun | 8 => [1] | _ => []) (by kernel_rfl) (by kernel_rfl) (fun w0 he0 hz0 hc0 hf0 => ?_)
  replace he0 := Lib.hid he0
  simp only [List.take_succ_cons, List.take_zero]
  repeat (refine wpF_quiet rfl rfl rfl (fun K hK => ?_); go_big_quiet_op; refine hK _ ?_; clear hK K)
  refine wpF_spec rfl rfl (fun w1 hw1 hG => ?_) (fun x1 => ?_)
  · have hW := he0.out.trans hw1
    refine spec_call [.slice pa (m + 1) pc] rfl rfl Tryz.func60 (by kernel_rfl) (by kernel_rfl) ?_
    exact (by rw [HS0.out]; exact common_any pa (m + 1) pc p s _ ((LPl.out.ext hW).can.raw HZ.out (by omega)) (by omega) HZ.out (by omega) (by omega))
  simp only [Act.put, List.setIfInBounds_toArray, List.set_cons_succ, List.set_cons_zero]
  repeat (refine wpF_quiet rfl rfl rfl (fun K hK => ?_); go_big_quiet_op; refine hK _ ?_; clear hK K)
  refine wpF_spec rfl rfl (fun w1 hw1 hG => ?_) (fun x8 => ?_)
  · have hW := he0.out.trans hw1
    obtain ⟨wa1, hwa1, g1⟩ : Since _ _ := hG 1 (by decide)
    replace g1 := g1.ext hwa1
    refine spec_call [x1.v, RH.v ⟨tneg, ta, tn, tc, tb, tm, td⟩] rfl rfl Tryz.func62 (by kernel_rfl) (by kernel_rfl) ?_
    exact rmul_any x1 ⟨tneg, ta, tn, tc, tb, tm, td⟩ _ _ _ (g1.raw ZS0.out (by omega)) (HRT.out.ext hW)
  simp only [Act.put, List.setIfInBounds_toArray, List.set_cons_succ, List.set_cons_zero]
  repeat (refine wpF_quiet rfl rfl rfl (fun K hK => ?_); go_big_quiet_op; refine hK _ ?_; clear hK K)
  refine wpF_alloc rfl rfl (fun w => by simp [execOp, go_sem, ptr]) (fun b9 hb9 hl9 => ?_)
  simp only [Act.put, List.setIfInBounds_toArray, List.set_cons_succ, List.set_cons_zero]
  repeat (refine wpF_quiet rfl rfl rfl (fun K hK => ?_); go_big_quiet_op; refine hK _ ?_; clear hK K)
  refine wpF_nil ?_
  intro w5 hI
  have hE := he0.out.trans hI.ext
  obtain ⟨wa1, hwa1, g1⟩ : Since _ _ := hI.facts 1
  have G1 := Lib.hid (g1.ext hwa1)
  clear g1 hwa1
  obtain ⟨wa8, hwa8, g8⟩ : Since _ _ := hI.facts 8
  have G8 := Lib.hid (g8.ext hwa8)
  clear g8 hwa8
  have A9 : Hid (w5.heap[b9]? = some (.cells #[.bool false, .slice none 0 0, .slice none 0 0] 30 (0, 0))) := hI.facts 9
  rw [hz0] at hl9
  clear hI he0 hz0 hc0 hf0
  replace HX := Lib.hid (HX.out.trans hE)
  replace LPl := Lib.hid (LPl.out.ext hE)
  replace HRT := Lib.hid (HRT.out.ext hE)
  replace E2 := Lib.hid (E2.out.trans hE)
  have hs_w5 := hE.size
  clear hE
  have c_A9 := blk_cell A9.out
  have f_A9 := blk_frozen A9.out
  have l_A9 := (Array.getElem?_eq_some_iff.1 A9.out).1
  simp only [List.drop_succ_cons, List.drop_zero, ptr]
  go_upto_region 6 with fail
  refine nm_set3 A9.out rfl ?_
  intro y5 T
  replace HX := Lib.hid (T.ext HX.out (by omega))
  replace LPl := Lib.hid (LPl.out.put T (by omega))
  replace HRT := Lib.hid (HRT.out.keep T.keep)
  replace E2 := Lib.hid (T.ext E2.out (by omega))
  replace G1 := Lib.hid (G1.out.keep T.keep)
  replace G8 := Lib.hid (G8.out.keep T.keep)
  replace A9 := Lib.hid (T.bx)
  have hs_y5 := Nat.le_of_eq T.size
  have hr_y5 := Nat.le_of_eq T.size.symm
  clear T
  (try clear c_A9 f_A9 l_A9)
  have c_A9 := blk_cell A9.out
  have f_A9 := blk_frozen A9.out
  have l_A9 := (Array.getElem?_eq_some_iff.1 A9.out).1
  have hb9y := l_A9
  have ZS : Hid (Sz (12 * s + 5) (S0 * Tf m m)) := Lib.hid ((ZS0.out.mul (Tf_sz (k := m) (i := m) (by omega))).mono (by omega))
  have SN : Hid (S0 * Tf m m ≠ 0) := Lib.hid (fun h => by
    rcases Rat.mul_eq_zero.1 h with h2 | h2
    · exact SN0.out h2
    · exact Tf_ne m h2)
  obtain ⟨S, hS⟩ : ∃ S, S = S0 * Tf m m := ⟨_, rfl⟩
  rw [← hS] at G8 ZS SN
  clear hS SN0 HS0 ZS0 hcg
  have RS0 := Lib.hid (G8.out.raw ZS.out (by omega))
  obtain ⟨sn, sa, sl, sc, sb, sm, sd⟩ := x8
  clear G1
  clear G8
  clear HRT
  go_wp2_with fail
  refine Calls.mono (pscale_blk pa (m + 1) pc p ⟨sn, sa, sl, sc, sb, sm, sd⟩ S _ (LPl.out.can.raw HZ.out (by omega)) RS0.out (by omega) (HZ.out.mono (by omega)) (ZS.out.mono (by omega))) ?_
  rintro e w6 ⟨x6, rfl, hE, g6⟩
  have G6 := Lib.hid g6
  clear g6
  replace HX := Lib.hid (HX.out.trans hE)
  replace LPl := Lib.hid (LPl.out.ext hE)
  replace E2 := Lib.hid (E2.out.trans hE)
  replace A9 := Lib.hid (hE.block A9.out)
  replace RS0 := Lib.hid (RS0.out.ext hE)
  have hs_w6 := hE.size
  clear hE
  (try clear c_A9 f_A9 l_A9)
  have c_A9 := blk_cell A9.out
  have f_A9 := blk_frozen A9.out
  have l_A9 := (Array.getElem?_eq_some_iff.1 A9.out).1
  obtain ⟨ra, rn, rc⟩ := x6
  obtain ⟨q1, q2, R, q3, q4, q5⟩ := G6.out
  rw [tz_scale HPt.out SN.out] at q1
  have q6 := q1.len
  rw [List.length_map, HPl.out] at q6
  simp only at q2 q3 q6
  subst q2 q3 q6
  have HOR := Lib.hid q5
  clear q1 q5 G6
  simp only [SH.v]
  have hRl := HOR.out.lt
  go_upto_region 8 with (refine wpList_make rfl (.tmp 36) (.tmp 36) 32 rfl 30 i0 (RH.v default) 3 Tryz.underlying32 hi0 hz0 hz1 _ _ (m + 1) rfl rfl (by omega) (by omega) (by rw [hz2]; omega) (by omega) ?_; intro w7 hnew hE)
  have HOC0 := Lib.hid (OutB.start (RBk.make rfl hnew))
  clear hnew
  replace HX := Lib.hid (HX.out.trans hE)
  replace LPl := Lib.hid (LPl.out.ext hE)
  replace E2 := Lib.hid (E2.out.trans hE)
  replace A9 := Lib.hid (hE.block A9.out)
  replace RS0 := Lib.hid (RS0.out.ext hE)
  replace HOR := Lib.hid (HOR.out.ext hE)
  have hs_w7 := hE.size
  clear hE
  (try clear c_A9 f_A9 l_A9)
  have c_A9 := blk_cell A9.out
  have f_A9 := blk_frozen A9.out
  have l_A9 := (Array.getElem?_eq_some_iff.1 A9.out).1
  obtain ⟨C, hC⟩ : ∃ C, C = w6.heap.size := ⟨_, rfl⟩
  have hCw : w.heap.size ≤ C := by omega
  have hRw : w.heap.size ≤ R := by omega
  have hRC : R < C := by omega
  have h9R : b9 < R := by omega
  rw [← hC] at HOC0 ⊢
  have HOC : Hid (OutB w7 C (List.replicate (m + 1) 0) 16777216) := Lib.hid (let ⟨rs, h1, h2, h3⟩ := HOC0.out; ⟨rs, h1, h2, h3.mono (by decide)⟩)
  have AH : Hid (Apart R C w7 ⟨some ⟨b', off', none⟩, m + 1, hc⟩ (chP m).1) := Lib.hid ((LH.out.apart (by omega) (by omega)).ext E2.out)
  have AL : Hid (Apart R C w7 ⟨la, ln, lc⟩ (chP m).2) := Lib.hid ((LL.out.apart (by omega) (by omega)).ext E2.out)
  have ZR0 : Hid (SzL (13 * s + 5) (p.map (· * S))) := Lib.hid ((HZ.out.scale ZS.out).mono (by omega))
  have HRl : Hid ((p.map (· * S)).length = m + 1) := Lib.hid (by rw [List.length_map]; exact HPl.out)
  have HGo : Hid ((tbV (m + 1) (p.map (· * S))).map (· / S) = tbV (m + 1) p) := Lib.hid (tb_scale_back SN.out)
  obtain ⟨r0, hr0⟩ : ∃ r0, r0 = p.map (· * S) := ⟨_, rfl⟩
  rw [← hr0] at HOR ZR0 HRl HGo
  have HOD : Hid (OutB w7 C (List.replicate (m + 1) 0) 16777216) := HOC
  have A9' := A9
  clear LPl
  clear E2
  clear hC HOC0 HOC LH LL hr0 hRl hd1 hd2 hd3 hbl'
  go_wp2
  go_loopg [3, 4, 5, 8] (m + 1) (fun g u x y z wr => ∃ (cap : Nat) (hs ls : SH) (os ds r : List Rat) (t : Nat) (zi : Int),
    u = .slice (some ⟨R, 0, none⟩) g cap ∧ x = hs.v ∧ y = ls.v ∧ z = .int .i64 zi ∧ zi = (g : Int) - 1 ∧ g ≤ cap ∧ cap ≤ m + 1 ∧ Ext w wr ∧ RawR wr ⟨sn, sa, sl, sc, sb, sm, sd⟩ S ∧ wr.heap[b9]? = some (.cells #[.bool sn, .slice sa sl sc, .slice sb sm sd] 30 (0, 0)) ∧ OutB wr R os 16777216 ∧ os.length = m + 1 ∧ OutB wr C ds 16777216 ∧ ds.length = m + 1 ∧
    (∀ i, i < g → os.getD i 0 = r.getD i 0) ∧ tbV (m + 1) r0 = tbV g r ++ ds.drop g ∧ SzL t r ∧ 1 ≤ t ∧ t + 9 ≤ (13 * s + 5 + 9) * 2 ^ (m + 1 - g) ∧ ∀ k, g = k + 1 → Apart R C wr hs (chP k).1 ∧ Apart R C wr ls (chP k).2)
  case atStart => exact ⟨m + 1, ⟨some ⟨b', off', none⟩, m + 1, hc⟩, ⟨la, ln, lc⟩, r0, List.replicate (m + 1) 0, r0, 13 * s + 5, (m : Int), rfl, rfl, rfl, rfl, by omega, Nat.le_refl _, Nat.le_refl _, HX.out, RS0.out, A9.out, HOR.out, HRl.out, HOD.out, by simp, fun i hi => rfl, by rw [List.drop_of_length_le (by simp), List.append_nil], ZR0.out, by omega, by rw [Nat.sub_self, Nat.pow_zero]; omega, fun k hk => by
    have hkm : m = k := by omega
    subst hkm
    exact ⟨AH.out, AL.out⟩⟩
  case round =>
    obtain ⟨cap, ⟨ha, hn3, hc⟩, ⟨la, ln, lc⟩, os, ds, r, t, zi, rfl, rfl, rfl, rfl, hzi, hgc, hcm, g1, g2, g3, g4, g5, g6, g7, g8, g9, g10, g11, g12, g13⟩ := hrel
    clear HX RS0 A9 A9' HOR HOD AH AL ZR0 HRl
    have HX := Lib.hid g1
    have RS0 := Lib.hid g2
    have B9 := Lib.hid g3
    have HOR := Lib.hid g4
    have HOl := Lib.hid g5
    have HOC := Lib.hid g6
    have HDl := Lib.hid g7
    have HOv := Lib.hid g8
    have HTb := Lib.hid g9
    have ZR := Lib.hid g10
    have Ht1 := Lib.hid g11
    have Ht2 := Lib.hid g12
    have HA := Lib.hid g13
    clear g1 g2 g3 g4 g5 g6 g7 g8 g9 g10 g11 g12 g13
    simp only [SH.v]
    have hszw := HX.out.size
    (try clear c_B9 f_B9 l_B9)
    have c_B9 := blk_cell B9.out
    have f_B9 := blk_frozen B9.out
    have l_B9 := (Array.getElem?_eq_some_iff.1 B9.out).1
    by_cases h0 : gk = 0
    case pos =>
      subst h0
      obtain rfl : zi = -1 := by omega
      clear hzi
      have HE : Hid (ds.map (· / S) = tbV (m + 1) p) := Lib.hid (by
        have h1 := HTb.out
        rw [List.drop_zero] at h1
        have h2 : ds = tbV (m + 1) r0 := h1.symm
        rw [h2]
        exact HGo.out)
      have RO := Lib.hid (HOC.out.raw HDl.out (by omega))
      go_wp2_with fail
      refine Calls.mono (divided_any (some ⟨C, 0, none⟩) (m + 1) (m + 1) ds ⟨sn, sa, sl, sc, sb, sm, sd⟩ S _ RO.out RS0.out SN.out (by omega)) ?_
      rintro e w50 ⟨x50, rfl, hE, g50⟩
      have G50 := Lib.hid g50
      clear g50
      replace HX := Lib.hid (HX.out.trans hE)
      replace RS0 := Lib.hid (RS0.out.ext hE)
      replace HOR := Lib.hid (HOR.out.ext hE)
      replace HOC := Lib.hid (HOC.out.ext hE)
      replace B9 := Lib.hid (hE.block B9.out)
      have hs_w50 := hE.size
      clear hE
      (try clear c_B9 f_B9 l_B9)
      have c_B9 := blk_cell B9.out
      have f_B9 := blk_frozen B9.out
      have l_B9 := (Array.getElem?_eq_some_iff.1 B9.out).1
      rw [HE.out] at G50
      go_wp2
      go_ret
      exact ⟨x50, rfl, HX.out, by rw [← hpe.out, HVo.out]; exact G50.out.mono hszw⟩
    obtain ⟨k, rfl⟩ : ∃ k, gk = k + 1 := ⟨gk - 1, by omega⟩
    obtain rfl : zi = (k : Int) := by omega
    clear hzi
    have AH := Lib.hid (HA.out k rfl).1
    have AL := Lib.hid (HA.out k rfl).2
    clear HA
    have htb : t ≤ 4132864 := tb_size r t (k + 1) (by omega) Ht2.out (by omega) (by omega)
    have hhn := AH.out.can.len
    rw [chA_len] at hhn
    simp only at hhn
    subst hhn
    have hln := AL.out.can.len
    have hcl := (chP_len k).2
    simp only at hln
    rw [hln] at hcl
    have hh1 := AH.out.can.le
    have hh2 := AH.out.can.max
    simp only at hh1 hh2
    obtain ⟨b', off', r', hao', hat, hT⟩ := AH.out.can.at (k := k) (by omega)
    have hbl' := RAt.lt hat
    obtain ⟨hd1, hd2, hd3⟩ := hat
    obtain ⟨tneg, ta, tn, tc, tb, tm, td⟩ := r'
    simp only at hd1 hd2 hd3
    subst hao'
    have HRT : Hid (RawR wr ⟨tneg, ta, tn, tc, tb, tm, td⟩ (Tf k k)) := Lib.hid (hT.raw (Tf_sz (k := k) (i := k) (by omega)) (by decide))
    clear hT
    obtain ⟨ro, ⟨e1, e2, e3⟩, hro⟩ := HOR.out.cells (k := k) (by rw [HOl.out]; omega)
    rw [HOv.out k (by omega)] at hro
    obtain ⟨on, oa, ol, oc, ob, om, od⟩ := ro
    simp only at e1 e2 e3
    have HRO := Lib.hid hro
    have hRl := HOR.out.lt
    have hCl := HOC.out.lt
    have hkm : (k : Int) < (m : Int) + 1 := by omega
    clear hro
    go_upto_region 11 with fail
    refine wp_region_edges [(15, 13)] _ (by simp only [addEs, addE, List.push_toArray, List.cons_append, List.nil_append]; exact rfl) (by intro c a d v w h; cases d <;> exact h) 15 (fun opIx => match opIx with
      | 10 => .spec (RH) (default) (fun s => .tuple #[s.v, .int .i64 0]) (fun x w' => CanR w' x (r.getD k 0 / Tf k k))
      | _ => .quiet) (fun _ => []) (by kernel_rfl) (by kernel_rfl) (by kernel_rfl) (fun w0 he0 hz0 hc0 hf0 => ?_)
    replace he0 := Lib.hid he0
    simp only [List.take_succ_cons, List.take_zero]
    repeat (refine wpF_quiet rfl rfl rfl (fun K hK => ?_); go_big_quiet_op; refine hK _ ?_; clear hK K)
    refine wpF_spec rfl rfl (fun w1 hw1 hG => ?_) (fun x10 => ?_)
    · have hW := he0.out.trans hw1
      refine spec_call [RH.v ⟨on, oa, ol, oc, ob, om, od⟩, RH.v ⟨tneg, ta, tn, tc, tb, tm, td⟩] rfl rfl Tryz.func70 (by kernel_rfl) (by kernel_rfl) ?_
      exact rdiv_any _ _ _ _ _ (HRO.out.ext hW) (HRT.out.ext hW) (Tf_ne k)
    simp only [Act.put, List.setIfInBounds_toArray, List.set_cons_succ, List.set_cons_zero]
    repeat (refine wpF_quiet rfl rfl rfl (fun K hK => ?_); go_big_quiet_op; refine hK _ ?_; clear hK K)
    refine wpF_nil ?_
    intro w11 hI
    have hE := he0.out.trans hI.ext
    obtain ⟨wa10, hwa10, g10⟩ : Since _ _ := hI.facts 10
    have G10 := Lib.hid (g10.ext hwa10)
    clear g10 hwa10
    clear hI he0 hz0 hc0 hf0
    replace HX := Lib.hid (HX.out.trans hE)
    replace RS0 := Lib.hid (RS0.out.ext hE)
    replace HOR := Lib.hid (HOR.out.ext hE)
    replace HOC := Lib.hid (HOC.out.ext hE)
    replace B9 := Lib.hid (hE.block B9.out)
    replace AH := Lib.hid (AH.out.ext hE)
    replace AL := Lib.hid (AL.out.ext hE)
    have hs_w11 := hE.size
    clear hE
    (try clear c_B9 f_B9 l_B9)
    have c_B9 := blk_cell B9.out
    have f_B9 := blk_frozen B9.out
    have l_B9 := (Array.getElem?_eq_some_iff.1 B9.out).1
    simp only [List.drop_succ_cons, List.drop_zero]
    have ZQ : Hid (Sz (t + 4) (r.getD k 0 / Tf k k)) := Lib.hid ((ZR.out.getD Ht1.out k).div (Tf_sz (by omega)))
    obtain ⟨q, hq⟩ : ∃ q, q = r.getD k 0 / Tf k k := ⟨_, rfl⟩
    have Hq := Lib.hid hq
    rw [← hq] at G10 ZQ
    clear hq e1 e2 e3 hd1 hd2 hd3 hbl' HRO HRT hRl hCl
    have RQ := Lib.hid (G10.out.raw ZQ.out (by omega))
    have hfr : ∀ x, w11.frozen? ⟨C, x, none⟩ = false := let ⟨_, h1, _⟩ := HOC.out; h1.frozen
    have hCl := HOC.out.lt
    obtain ⟨rc, ⟨e1, e2, e3⟩, -⟩ := HOC.out.cells (k := k) (by rw [HDl.out]; omega)
    go_upto_region 12 with fail
    refine nm_out (k := k) (x := x10) HOC.out (by rw [HDl.out]; omega) RQ.out (ZQ.out.mono (by omega)) (Nat.le_refl _) ?_
    intro w12 hT' hOC
    obtain ⟨cs', T⟩ := hT'
    have HDl2 : Hid ((ds.set k q).length = m + 1) := Lib.hid (by rw [List.length_set]; exact HDl.out)
    have HDk : Hid ((ds.set k q).getD k 0 = q) := Lib.hid (by rw [getD_set_q (by rw [HDl.out]; omega), if_pos rfl])
    have HTb2 : Hid (tbV (m + 1) r0 = tbV k (tbStep r k) ++ (ds.set k q).drop k) := Lib.hid (by
      rw [HTb.out, drop_set HDl.out (by omega)]
      show (tbV k (tbStep r k) ++ [r.getD k 0 / Tf k k]) ++ _ = _
      rw [← Hq.out, List.append_assoc]
      rfl)
    obtain ⟨ds2, hds2⟩ : ∃ ds2, ds2 = ds.set k q := ⟨_, rfl⟩
    rw [← hds2] at hOC HDl2 HDk HTb2
    have HOCn := Lib.hid hOC
    clear hds2 hOC e1 e2 e3 hfr hCl RQ HTb HDl
    clear HOC
    replace HX := Lib.hid (T.ext HX.out (by omega))
    replace RS0 := Lib.hid (RS0.out.keep T.keep)
    replace HOR := Lib.hid (HOR.out.put T (by omega))
    replace B9 := Lib.hid (T.rest _ _ (by omega) B9.out)
    replace AH := Lib.hid (AH.out.put T (by omega))
    replace AL := Lib.hid (AL.out.put T (by omega))
    have hs_w12 := Nat.le_of_eq T.size
    have hr_w12 := Nat.le_of_eq T.size.symm
    clear T
    (try clear c_B9 f_B9 l_B9)
    have c_B9 := blk_cell B9.out
    have f_B9 := blk_frozen B9.out
    have l_B9 := (Array.getElem?_eq_some_iff.1 B9.out).1
    have HOC := Lib.hid HOCn.out
    clear HOCn G10
    have HOv2 : Hid (∀ i, i < k + 1 → os.getD i 0 = tbO r k 0 i) := Lib.hid (fun i hi => by rw [HOv.out i hi]; unfold tbO; rw [if_neg (by omega)])
    have HZo : Hid (∀ j i, Sz 16777216 (tbO r k j i)) := Lib.hid (fun j i => (tbO_sz ZR.out Ht1.out (by omega)).mono (by omega))
    clear HOv
    go_wp2
    go_loopg [62] (k + 1) (fun g z wr => ∃ (j : Nat) (os : List Rat), j + g = k + 1 ∧ z = .int .i64 (j : Nat) ∧ Ext w wr ∧ RawR wr ⟨sn, sa, sl, sc, sb, sm, sd⟩ S ∧ wr.heap[b9]? = some (.cells #[.bool sn, .slice sa sl sc, .slice sb sm sd] 30 (0, 0)) ∧ OutB wr R os 16777216 ∧ os.length = m + 1 ∧ OutB wr C ds2 16777216 ∧ (∀ i, i < k + 1 → os.getD i 0 = tbO r k j i) ∧ Apart R C wr ⟨some ⟨b', off', none⟩, k + 1, hc⟩ (chP k).1 ∧ Apart R C wr ⟨la, ln, lc⟩ (chP k).2)
    case atStart => exact ⟨0, os, by omega, rfl, HX.out, RS0.out, B9.out, HOR.out, HOl.out, HOC.out, HOv2.out, AH.out, AL.out⟩
    case round =>
      obtain ⟨j, os, hj, rfl, g1, g2, g3, g4, g5, g6, g7, g8, g9⟩ := hrel
      clear HX RS0 B9 HOR HOl HOC HOv2 AH AL
      have HX := Lib.hid g1
      have RS0 := Lib.hid g2
      have B9 := Lib.hid g3
      have HOR := Lib.hid g4
      have HOl := Lib.hid g5
      have HOC := Lib.hid g6
      have HOv := Lib.hid g7
      have AH := Lib.hid g8
      have AL := Lib.hid g9
      clear g1 g2 g3 g4 g5 g6 g7 g8 g9
      have hszw := HX.out.size
      have hRl0 := HOR.out.lt
      have hCl0 := HOC.out.lt
      (try clear c_B9 f_B9 l_B9)
      have c_B9 := blk_cell B9.out
      have f_B9 := blk_frozen B9.out
      have l_B9 := (Array.getElem?_eq_some_iff.1 B9.out).1
      by_cases h1 : gk = 0
      case pos =>
        subst h1
        obtain rfl : j = k + 1 := by omega
        have HZp := Lib.hid (chP_sz (n := k) (by omega))
        go_upto_region 18 with fail
        go_wp2_with fail
        refine Calls.mono (neighbour_any la (some ⟨b', off', none⟩) ln lc (k + 1) hc _ _ _ (AL.out.can.raw HZp.out.2 (by decide)) (AH.out.can.raw HZp.out.1 (by decide)) (by omega) (by omega) (HZp.out.2.mono (by decide)) (HZp.out.1.mono (by decide))) ?_
        rintro e w30 ⟨x30, rfl, hE, g30⟩
        have G30 := Lib.hid g30
        clear g30
        replace HX := Lib.hid (HX.out.trans hE)
        replace RS0 := Lib.hid (RS0.out.ext hE)
        replace HOR := Lib.hid (HOR.out.ext hE)
        replace HOC := Lib.hid (HOC.out.ext hE)
        replace AH := Lib.hid (AH.out.ext hE)
        replace AL := Lib.hid (AL.out.ext hE)
        replace B9 := Lib.hid (hE.block B9.out)
        have hs_w30 := hE.size
        clear hE
        (try clear c_B9 f_B9 l_B9)
        have c_B9 := blk_cell B9.out
        have f_B9 := blk_frozen B9.out
        have l_B9 := (Array.getElem?_eq_some_iff.1 B9.out).1
        have LN : Hid (Apart R C w30 x30 (nbV (chP k).2 (chP k).1)) := Lib.hid (G30.out.apart hRl0 hCl0)
        clear G30
        go_wp2
        go_roundg k
        case measure => omega
        case rel => exact ⟨k, ⟨la, ln, lc⟩, x30, os, ds2, tbStep r k, 2 * t + 9, (k : Int) - 1, rfl, rfl, rfl, by go_num, rfl, Nat.le_refl _, by omega, HX.out, RS0.out, B9.out, HOR.out, HOl.out, HOC.out, HDl2.out, tbO_end HOv.out, HTb2.out, tbStep_sz ZR.out Ht1.out (by omega), by omega, tb_grow (by omega) Ht2.out, fun i hi => by
          subst hi
          rw [ch_back] at LN
          exact ⟨AL.out, LN.out⟩⟩
      have hjk : (j : Int) < (k : Int) + 1 := by omega
      have hjm : (j : Int) < (m : Int) + 1 := by omega
      obtain ⟨b'', off'', r', hao', hat, hT⟩ := AH.out.can.at (k := j) (by omega)
      obtain ⟨rfl, rfl⟩ : b' = b'' ∧ off' = off'' := by simpa using hao'
      have hbl' := RAt.lt hat
      obtain ⟨hd1, hd2, hd3⟩ := hat
      obtain ⟨tneg, ta, tn, tc, tb, tm, td⟩ := r'
      simp only at hd1 hd2 hd3
      have HRT : Hid (RawR wr ⟨tneg, ta, tn, tc, tb, tm, td⟩ (Tf k j)) := Lib.hid (hT.raw (Tf_sz (k := k) (i := j) (by omega)) (by decide))
      clear hT hao'
      go_upto_region 15 with fail
      refine nm_alloc ?_
      intro y5 hE hB0 hz
      have hz_y5 := Nat.le_of_eq hz
      have hr_y5 := Nat.le_of_eq hz.symm
      clear hz
      replace HX := Lib.hid (HX.out.trans hE)
      replace RS0 := Lib.hid (RS0.out.ext hE)
      replace HOR := Lib.hid (HOR.out.ext hE)
      replace HOC := Lib.hid (HOC.out.ext hE)
      replace AH := Lib.hid (AH.out.ext hE)
      replace AL := Lib.hid (AL.out.ext hE)
      replace B9 := Lib.hid (hE.block B9.out)
      replace HRT := Lib.hid (HRT.out.ext hE)
      have hs_y5 := hE.size
      clear hE
      (try clear c_B9 f_B9 l_B9)
      have c_B9 := blk_cell B9.out
      have f_B9 := blk_frozen B9.out
      have l_B9 := (Array.getElem?_eq_some_iff.1 B9.out).1
      have B10 := Lib.hid hB0
      clear hB0
      have c_B10 := blk_cell B10.out
      have f_B10 := blk_frozen B10.out
      have l_B10 := (Array.getElem?_eq_some_iff.1 B10.out).1
      clear hd1 hd2 hd3 hbl'
      obtain ⟨ro, ⟨e1, e2, e3⟩, hro⟩ := HOR.out.cells (k := j) (by rw [HOl.out]; omega)
      obtain ⟨rq, ⟨e4, e5, e6⟩, hrq⟩ := HOC.out.cells (k := k) (by rw [HDl2.out]; omega)
      rw [HDk.out] at hrq
      rw [HOv.out j (by omega), show tbO r k j j = r.getD j 0 by unfold tbO; rw [if_neg (by omega)]] at hro
      obtain ⟨on, oa, ol, oc, ob, om, od⟩ := ro
      obtain ⟨qn, qa, ql, qc, qb, qm, qd⟩ := rq
      simp only at e1 e2 e3 e4 e5 e6
      have HRO := Lib.hid hro
      have HRQ := Lib.hid hrq
      have hkm2 : (k : Int) < (m : Int) + 1 := by omega
      have HTO : Hid (r.getD j 0 - q * Tf k j = tbO r k (j + 1) j) := Lib.hid (by unfold tbO; rw [if_pos (by omega), ← Hq.out])
      have ZZ : Hid (Sz 16777216 (r.getD j 0 - q * Tf k j)) := Lib.hid (by rw [HTO.out]; exact HZo.out _ _)
      clear hro hrq
      have hfr : ∀ x, y5.frozen? ⟨R, x, none⟩ = false := let ⟨_, h1, _⟩ := HOR.out; h1.frozen
      have hRl5 := HOR.out.lt
      have hCl5 := HOC.out.lt
      refine wp_region_front 14 (fun opIx => match opIx with
        | 11 => .spec RH default RH.v (fun s w' => CanR w' s (q * Tf k j))
        | 12 => .spec RH default RH.v (fun s w' => CanR w' s (r.getD j 0 - q * Tf k j))
        | _ => .quiet) (fun | 12 => [11] | _ => []) (by kernel_rfl) (by kernel_rfl) (fun w0 he0 hz0 hc0 hf0 => ?_)
      replace he0 := Lib.hid he0
      simp only [List.take_succ_cons, List.take_zero]
      repeat (refine wpF_quiet rfl rfl rfl (fun K hK => ?_); go_big_quiet_op; refine hK _ ?_; clear hK K)
      refine wpF_spec rfl rfl (fun w1 hw1 hG => ?_) (fun x11 => ?_)
      · have hW := he0.out.trans hw1
        refine spec_call [RH.v ⟨qn, qa, ql, qc, qb, qm, qd⟩, RH.v ⟨tneg, ta, tn, tc, tb, tm, td⟩] rfl rfl Tryz.func62 (by kernel_rfl) (by kernel_rfl) ?_
        exact rmul_any _ _ _ _ _ (HRQ.out.ext hW) (HRT.out.ext hW)
      simp only [Act.put, List.setIfInBounds_toArray, List.set_cons_succ, List.set_cons_zero]
      repeat (refine wpF_quiet rfl rfl rfl (fun K hK => ?_); go_big_quiet_op; refine hK _ ?_; clear hK K)
      refine wpF_spec rfl rfl (fun w1 hw1 hG => ?_) (fun x12 => ?_)
      · have hW := he0.out.trans hw1
        obtain ⟨wa11, hwa11, g11⟩ : Since _ _ := hG 11 (by decide)
        replace g11 := g11.ext hwa11
        refine spec_call [RH.v ⟨on, oa, ol, oc, ob, om, od⟩, x11.v] rfl rfl Tryz.func71 (by kernel_rfl) (by kernel_rfl) ?_
        exact rsub_any _ x11 _ _ _ (HRO.out.ext hW) (g11.raw (ZQ.out.mul (Tf_sz (by omega))) (by omega))
      simp only [Act.put, List.setIfInBounds_toArray, List.set_cons_succ, List.set_cons_zero]
      repeat (refine wpF_quiet rfl rfl rfl (fun K hK => ?_); go_big_quiet_op; refine hK _ ?_; clear hK K)
      refine wpF_nil ?_
      intro w7 hI
      have hE := he0.out.trans hI.ext
      obtain ⟨wa11, hwa11, g11⟩ : Since _ _ := hI.facts 11
      have G11 := Lib.hid (g11.ext hwa11)
      clear g11 hwa11
      obtain ⟨wa12, hwa12, g12⟩ : Since _ _ := hI.facts 12
      have G12 := Lib.hid (g12.ext hwa12)
      clear g12 hwa12
      clear hI he0 hz0 hc0 hf0
      replace HX := Lib.hid (HX.out.trans hE)
      replace RS0 := Lib.hid (RS0.out.ext hE)
      replace HOR := Lib.hid (HOR.out.ext hE)
      replace HOC := Lib.hid (HOC.out.ext hE)
      replace AH := Lib.hid (AH.out.ext hE)
      replace AL := Lib.hid (AL.out.ext hE)
      replace B9 := Lib.hid (hE.block B9.out)
      replace HRT := Lib.hid (HRT.out.ext hE)
      replace B10 := Lib.hid (hE.block B10.out)
      replace HRO := Lib.hid (HRO.out.ext hE)
      replace HRQ := Lib.hid (HRQ.out.ext hE)
      have hs_w7 := hE.size
      clear hE
      (try clear c_B9 f_B9 l_B9)
      have c_B9 := blk_cell B9.out
      have f_B9 := blk_frozen B9.out
      have l_B9 := (Array.getElem?_eq_some_iff.1 B9.out).1
      (try clear c_B10 f_B10 l_B10)
      have c_B10 := blk_cell B10.out
      have f_B10 := blk_frozen B10.out
      have l_B10 := (Array.getElem?_eq_some_iff.1 B10.out).1
      simp only [List.drop_succ_cons, List.drop_zero]
      have hfr : ∀ x, w7.frozen? ⟨R, x, none⟩ = false := let ⟨_, h1, _⟩ := HOR.out; h1.frozen
      have hRl := HOR.out.lt
      obtain ⟨ro3, ⟨e1, e2, e3⟩, -⟩ := HOR.out.cells (k := j) (by rw [HOl.out]; omega)
      go_upto_region 16 with fail
      refine nm_out (k := j) (x := x12) HOR.out (by rw [HOl.out]; omega) (G12.out.raw ZZ.out (by decide)) ZZ.out (Nat.le_refl _) ?_
      intro w8 hT' hOR
      obtain ⟨cs', T⟩ := hT'
      have HORn := Lib.hid hOR
      have HOv3 : Hid (∀ i, i < k + 1 → (os.set j (r.getD j 0 - q * Tf k j)).getD i 0 = tbO r k (j + 1) i) := Lib.hid (by rw [HTO.out]; exact tbO_set HOl.out (by omega) (by omega) HOv.out)
      clear hOR e1 e2 e3 hfr hRl
      clear HOR
      clear G11
      clear G12
      clear HRO
      clear HRQ
      clear HRT
      replace HX := Lib.hid (T.ext HX.out (by omega))
      replace RS0 := Lib.hid (RS0.out.keep T.keep)
      replace HOC := Lib.hid (HOC.out.put T (by omega))
      replace AH := Lib.hid (AH.out.put T (by omega))
      replace AL := Lib.hid (AL.out.put T (by omega))
      replace B9 := Lib.hid (T.rest _ _ (by omega) B9.out)
      replace B10 := Lib.hid (T.rest _ _ (by omega) B10.out)
      have hs_w8 := Nat.le_of_eq T.size
      have hr_w8 := Nat.le_of_eq T.size.symm
      clear T
      (try clear c_B9 f_B9 l_B9)
      have c_B9 := blk_cell B9.out
      have f_B9 := blk_frozen B9.out
      have l_B9 := (Array.getElem?_eq_some_iff.1 B9.out).1
      (try clear c_B10 f_B10 l_B10)
      have c_B10 := blk_cell B10.out
      have f_B10 := blk_frozen B10.out
      have l_B10 := (Array.getElem?_eq_some_iff.1 B10.out).1
      have HOR := Lib.hid HORn.out
      go_wp2
      go_roundg (gk - 1)
      case measure => omega
      case rel => exact ⟨j + 1, _, by omega, by go_num, HX.out, RS0.out, B9.out, HOR.out, by rw [List.length_set]; exact HOl.out, HOC.out, HOv3.out, AH.out, AL.out⟩
theorem tobasis_any (ao : Option Addr) (n cap s : Nat) (ps : List Rat) (w : World) (h : RawL w ⟨ao, n, cap⟩ ps) (hn : n ≤ 12) (hz : SzL s ps) (hs1 : 1 ≤ s) (hs : s ≤ 76) :
    Does 30 [.slice ao n cap] w SH.v (fun x w' => CanL w' x (tbV (tz ps).length (tz ps))) := (tobasis_new ao n cap s ps w h hn hz hs1 hs).weak (fun _ _ _ h => h.can)
end Go.Proofs.YtbcamhfoemnmgaaGreat
/- Sizes of coefficients in the basis. -/
namespace Go.Proofs.YtbcamhfoemnmgaaGreat
open Go.RowKit Go.Front Go.Num
theorem pq_len (xs : List Int) (d : Nat) : (polyQ xs d).length ≤ d + 1 := by
  unfold polyQ
  refine Nat.le_trans (tz_len_le _) ?_
  rw [List.length_map, List.length_take]
  omega
theorem pq_sz (xs : List Int) (d : Nat) : SzL 1 (polyQ xs d) := SzL.tz (rats_sz _)
theorem tbV_sz {n t : Nat} {r : List Rat} (h : SzL t r) (ht : 1 ≤ t) (hn : n ≤ 60) : SzL ((t + 9) * 2 ^ n) (tbV n r) := by
  induction n generalizing t r with
  | zero => intro q hq; simp [tbV] at hq
  | succ n ih =>
    intro q hq
    rcases List.mem_append.1 hq with h1 | h1
    · refine (ih (t := 2 * t + 9) (tbStep_sz h ht (by omega)) (by omega) (by omega) q h1).mono ?_
      rw [Nat.pow_succ, show 2 * t + 9 + 9 = (t + 9) * 2 by omega, Nat.mul_assoc, Nat.mul_comm 2]
      exact Nat.le_refl _
    · obtain rfl : q = r.getD n 0 / Tf n n := by simpa using h1
      refine ((h.getD ht n).div (Tf_sz (by omega))).mono ?_
      have := Nat.mul_le_mul_left (t + 9) (Nat.pow_pos (n := n + 1) (show 0 < 2 by decide) : 1 ≤ 2 ^ (n + 1))
      omega
theorem fbV_sz {s : Nat} {c : List Rat} (h : SzL s c) (hs : 1 ≤ s) (hl : c.length ≤ 60) : SzL (1 + c.length * (s + 4 + 1)) (fbV c) := by
  unfold fbV
  refine SzL.tz ?_
  intro q hq
  obtain ⟨i, -, rfl⟩ := List.mem_map.1 hq
  unfold fbS
  exact sm_sz (t := s + 4) (fun k hk => (h.getD hs k).mul (Tf_sz (by omega)))
theorem Tf_sz1 {k i : Nat} (hk : k ≤ 20) : Sz 1 (Tf k i) := by
  have h := (chP_int k).1
  have hb : 3 ^ k < W32 ^ 1 := Nat.lt_of_le_of_lt (Nat.pow_le_pow_right (by decide) hk) (by decide)
  exact (h.sz hb (by decide)).getD (by decide) i
theorem tbStep_sz1 {r : List Rat} {m t : Nat} (h : SzL t r) (ht : 1 ≤ t) (hm : m ≤ 20) : SzL (2 * t + 3) (tbStep r m) := by
  intro q hq
  obtain ⟨i, -, rfl⟩ := List.mem_map.1 hq
  exact ((h.getD ht i).sub (((h.getD ht m).div (Tf_sz1 hm)).mul (Tf_sz1 hm))).mono (by omega)
theorem tbV_sz1 {n t : Nat} {r : List Rat} (h : SzL t r) (ht : 1 ≤ t) (hn : n ≤ 20) : SzL ((t + 3) * 2 ^ n) (tbV n r) := by
  induction n generalizing t r with
  | zero => intro q hq; simp [tbV] at hq
  | succ n ih =>
    intro q hq
    rcases List.mem_append.1 hq with h1 | h1
    · refine (ih (t := 2 * t + 3) (tbStep_sz1 h ht (by omega)) (by omega) (by omega) q h1).mono ?_
      rw [Nat.pow_succ, show 2 * t + 3 + 3 = (t + 3) * 2 by omega, Nat.mul_assoc, Nat.mul_comm 2]
      exact Nat.le_refl _
    · obtain rfl : q = r.getD n 0 / Tf n n := by simpa using h1
      refine ((h.getD ht n).div (Tf_sz1 (by omega))).mono ?_
      have := Nat.mul_le_mul_left (t + 3) (Nat.pow_pos (n := n + 1) (show 0 < 2 by decide) : 1 ≤ 2 ^ (n + 1))
      omega
end Go.Proofs.YtbcamhfoemnmgaaGreat
