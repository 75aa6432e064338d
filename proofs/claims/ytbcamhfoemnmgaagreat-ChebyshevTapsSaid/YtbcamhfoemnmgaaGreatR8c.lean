/- ToBasis of the reference 08. -/
import Derived.Test.YtbcamhfoemnmgaaGreatR8a
import Derived.Test.YtbcamhfoemnmgaaGreatM17
import Derived.Test.YtbcamhfoemnmgaaGreatM16
import Derived.Test.YtbcamhfoemnmgaaGreatOff
set_option linter.unusedVariables false
namespace Go.Proofs.YtbcamhfoemnmgaaGreat
open Go.RowKit Go.Front Go.Num
attribute [local go_sem] XW.cell XW.frozen
theorem sm_single {n k : Nat} {f : Nat → Rat} (hk : k < n) (h : ∀ i, i < n → i ≠ k → f i = 0) : Stab.sm n f = f k := by
  induction n with
  | zero => omega
  | succ n ih =>
    show Stab.sm n f + f n = _
    by_cases hkn : k = n
    · subst hkn
      rw [Stab.sm_congr (g := fun _ => 0) (fun i hi => h i (by omega) (by omega)), Stab.sm_zero]
      grind
    · rw [ih (by omega) (fun i hi hne => h i (by omega) hne), h n (by omega) (Ne.symm hkn)]
      grind
theorem fbS_set {os : List Rat} {n : Nat} {c : Rat} (hn : n < os.length) (h0 : os.getD n 0 = 0) (i : Nat) : fbS (os.set n c) i = fbS os i + c * Tf n i := by
  have e : fbS (os.set n c) i = Stab.sm os.length (fun k => os.getD k 0 * Tf k i + if k = n then c * Tf n i else 0) := by
    unfold fbS
    rw [List.length_set]
    refine Stab.sm_congr fun k _ => ?_
    rw [getD_set_q hn]
    split
    · rename_i hk; subst hk; rw [h0]; grind
    · grind
  rw [e, Stab.sm_add]
  congr 1
  have := sm_single (n := os.length) (k := n) (f := fun k => if k = n then c * Tf n i else 0) hn (fun k _ hk => if_neg hk)
  rw [this]
  exact if_pos rfl
/-- A step of the reference. -/
def r8S (p : List Rat) (n : Nat) : List Rat := sub5V p (scale5V (chP n).1 (p.getD n 0 / Tf n n))
theorem r8S_getD (p : List Rat) (n i : Nat) : (r8S p n).getD i 0 = p.getD i 0 - Tf n i * (p.getD n 0 / Tf n n) := by
  unfold r8S
  rw [sb5_getD, sc5_getD]
  rfl
theorem r8S_len {p : List Rat} {n : Nat} (hl : p.length = n + 1) : (r8S p n).length ≤ n := by
  have ht : tz (r8S p n) = r8S p n := ad5_tz _ _
  rcases Nat.lt_or_ge n (r8S p n).length with h | h
  · exfalso
    obtain ⟨m, hm⟩ : ∃ m, (r8S p n).length = m + 1 := ⟨(r8S p n).length - 1, by omega⟩
    have h1 := tz_last (l := r8S p n) (n := m) (by rw [ht]; exact hm)
    apply h1
    rw [r8S_getD]
    by_cases hmn : m = n
    · subst hmn
      have := div_mul_self (a := p.getD m 0) (Tf_ne m)
      grind
    · rw [getD_over' (by omega), (Tf_over n).1 m (by omega)]
      grind
  · exact h
theorem r8S_sz {p : List Rat} {n t : Nat} (h : SzL t p) (ht : 1 ≤ t) (hn : n ≤ 60) : SzL (2 * t + 10) (r8S p n) := by
  intro q hq
  obtain ⟨i, hi, rfl⟩ := List.mem_iff_getElem.1 hq
  rw [show (r8S p n)[i] = (r8S p n).getD i 0 by simp [hi], r8S_getD]
  exact ((h.getD ht i).sub ((Tf_sz hn).mul ((h.getD ht n).div (Tf_sz hn)))).mono (by omega)
theorem r8_grow {N s t g m : Nat} (hm : m ≤ g) (hg : g + 1 ≤ N) (h : t + 10 ≤ (s + 10) * 2 ^ (N - (g + 1))) : 2 * t + 10 + 10 ≤ (s + 10) * 2 ^ (N - m) := by
  have h1 : 2 ^ (N - g) ≤ 2 ^ (N - m) := Nat.pow_le_pow_right (by decide) (by omega)
  have h2 := Nat.mul_le_mul_left (s + 10) h1
  have h3 : (s + 10) * 2 ^ (N - g) = (s + 10) * 2 ^ (N - (g + 1)) * 2 := by
    rw [show N - g = N - (g + 1) + 1 by omega, Nat.pow_succ, ← Nat.mul_assoc]
  omega
theorem r8_size {N s t g : Nat} (h : t + 10 ≤ (s + 10) * 2 ^ (N - g)) (hN : N ≤ 12) (hs : s ≤ 76) : t ≤ 352256 := by
  have h1 : 2 ^ (N - g) ≤ 2 ^ 12 := Nat.pow_le_pow_right (by decide) (by omega)
  have h2 := Nat.mul_le_mul (show s + 10 ≤ 86 by omega) h1
  omega
set_option maxRecDepth 8000 in
set_option maxHeartbeats 4000000 in
theorem tobasis8_any (ao : Option Addr) (n cap s : Nat) (ps : List Rat) (w : World) (h : RawL w ⟨ao, n, cap⟩ ps) (hn : n ≤ 12) (hz : SzL s ps) (hs1 : 1 ≤ s) (hs : s ≤ 76) :
    Does 31 [.slice ao n cap] w SH.v (fun x w' => CanL w' x (tbV (tz ps).length (tz ps))) := by
  obtain ⟨i0, hi0, hz0, hz1, hz2⟩ := info_parts infoR
  have H := Lib.hid h
  have HX := Lib.hid (Ext.refl w)
  have Hn := Lib.hid h.len
  simp only at Hn
  have HZ := Lib.hid hz.tz
  clear h hz
  unfold Does
  go_enter Tryz.func31, Tryz.ntmps31
  go_wp2_with fail
  refine Calls.mono (trim5_any ao n cap ps _ H.out (by omega)) ?_
  rintro e w1 ⟨x1, rfl, hE, g1⟩
  have G1 := Lib.hid g1
  clear g1
  replace HX := Lib.hid (HX.out.trans hE)
  have hs_w1 := hE.size
  clear hE
  obtain ⟨pa, N, pc⟩ := x1
  simp only [SH.v]
  have hP := G1.out.len
  have hPn := tz_len_le ps
  rw [Hn.out] at hPn
  simp only at hP
  rw [hP] at hPn
  have HPl := Lib.hid hP
  have HPt := Lib.hid (tz_idem ps)
  have HV : Hid (tbV (tz ps).length (tz ps) = tbV N (tz ps)) := Lib.hid (by rw [hP])
  clear hP
  obtain ⟨p0, hp⟩ : ∃ p0, p0 = tz ps := ⟨_, rfl⟩
  rw [← hp] at G1 HZ HPl HPt
  have HV2 : Hid (tbV (tz ps).length (tz ps) = tbV N p0) := Lib.hid (by rw [HV.out, hp])
  clear hp HV
  have LP := Lib.hid G1.out.can
  have hp1 := LP.out.le
  have hp2 := LP.out.max
  simp only at hp1 hp2
  have LA : Hid (Apart w1.heap.size w1.heap.size w1 ⟨pa, N, pc⟩ p0) := Lib.hid (LP.out.apart (Nat.le_refl _) (Nat.le_refl _))
  clear G1
  clear LP
  go_upto_region 3 with (refine wpList_make rfl (.tmp 11) (.tmp 11) 32 rfl 30 i0 (RH.v default) 3 Tryz.underlying32 hi0 hz0 hz1 _ _ N rfl rfl (by omega) (by omega) (by rw [hz2]; omega) (by omega) ?_; intro w3 hnew hE)
  have KB := Lib.hid (RBk.make rfl hnew)
  clear hnew
  replace HX := Lib.hid (HX.out.trans hE)
  replace LA := Lib.hid (LA.out.ext hE)
  have hs_w3 := hE.size
  clear hE
  obtain ⟨L, hL⟩ : ∃ L, L = w1.heap.size := ⟨_, rfl⟩
  have hLw : w.heap.size ≤ L := by omega
  rw [← hL] at KB LA ⊢
  clear hL
  go_wp2
  go_loopg [15] N (fun g v wr => ∃ (i : Nat) (rs : List RH), i + g = N ∧ v = .int .i64 (i : Nat) ∧ Ext w wr ∧ Apart L L wr ⟨pa, N, pc⟩ p0 ∧ RBk wr L rs #[] ∧ rs.length = N ∧ PreC wr rs (List.replicate i 0))
  case atStart => exact ⟨0, _, by omega, rfl, HX.out, LA.out, KB.out, by simp, fun j hj => by simp at hj⟩
  case round =>
    obtain ⟨i, rs, hi, rfl, g1, g2, g4, g5, g6⟩ := hrel
    clear HX KB LA
    have HX := Lib.hid g1
    have LA := Lib.hid g2
    have KB := Lib.hid g4
    have HRl := Lib.hid g5
    have PC := Lib.hid g6
    clear g1 g2 g4 g5 g6
    (try clear f_KB l_KB)
    have f_KB := blk_frozen KB.out
    have l_KB := (Array.getElem?_eq_some_iff.1 KB.out).1
    by_cases h0 : gk = 0
    case neg =>
      have hin : (i : Int) < N := by omega
      go_wp2_with fail
      refine Calls.mono (rof3_any 0 _ (by decide) (by decide)) ?_
      rintro e w2 ⟨x2, rfl, hE, g2⟩
      have G2 := Lib.hid g2
      clear g2
      replace HX := Lib.hid (HX.out.trans hE)
      replace LA := Lib.hid (LA.out.ext hE)
      replace KB := Lib.hid (hE.block KB.out)
      replace PC := Lib.hid (PC.out.ext hE)
      have hs_w2 := hE.size
      clear hE
      (try clear f_KB l_KB)
      have f_KB := blk_frozen KB.out
      have l_KB := (Array.getElem?_eq_some_iff.1 KB.out).1
      obtain ⟨f1, f2, f3⟩ := RBk.at (re := #[]) KB.out (k := i) (by rw [HRl.out]; omega)
      go_upto_region 7 with fail
      refine nm_rat (k := i) KB.out rfl (by rw [HRl.out]; omega) ?_
      intro y6 T
      clear f1 f2 f3
      replace HX := Lib.hid (T.ext HX.out (by omega))
      replace LA := Lib.hid (LA.out.put T (by omega))
      replace KB := Lib.hid (T.bx)
      replace PC := Lib.hid (PC.out.keep T.keep)
      replace G2 := Lib.hid (G2.out.keep T.keep)
      have hs_y6 := Nat.le_of_eq T.size
      have hr_y6 := Nat.le_of_eq T.size.symm
      clear T
      (try clear f_KB l_KB)
      have f_KB := blk_frozen KB.out
      have l_KB := (Array.getElem?_eq_some_iff.1 KB.out).1
      replace PC := Lib.hid (PC.out.snoc (x := x2) (i := i) (by simp) (by rw [HRl.out]; omega) G2.out)
      have HRp : Hid (List.replicate i (0 : Rat) ++ [((0 : Int) : Rat)] = List.replicate (i + 1) 0) := Lib.hid (by rw [List.replicate_succ']; rfl)
      rw [HRp.out] at PC
      go_wp2
      go_roundg (gk - 1)
      case measure => omega
      case rel => exact ⟨i + 1, _, by omega, by go_num, HX.out, LA.out, KB.out, by rw [List.length_set]; exact HRl.out, PC.out⟩
    subst h0
    obtain rfl : i = N := by omega
    obtain ⟨os, hos⟩ : ∃ os, os = List.replicate i (0 : Rat) := ⟨_, rfl⟩
    have HOB : Hid (OutC wr L os) := Lib.hid (by rw [hos]; exact PC.out.outc KB.out HRl.out (by simp))
    have HOl : Hid (os.length = i) := Lib.hid (by rw [hos]; simp)
    have HOv : Hid (∀ m, m < i → os.getD m 0 = 0) := Lib.hid (fun m hm => by rw [hos]; simp [hm])
    have HOs : Hid (∀ j, p0.getD j 0 = p0.getD j 0 + fbS os j) := Lib.hid (fun j => by
      have : fbS os j = 0 := by
        unfold fbS
        rw [Stab.sm_congr (g := fun _ => 0) (fun k hk => by rw [hos]; rw [show (List.replicate i (0 : Rat)).getD k 0 = 0 by rw [← hos]; exact HOv.out k (by rw [← HOl.out]; exact hk)]; grind), Stab.sm_zero]
      rw [this]; grind)
    clear hos
    clear KB
    clear PC
    clear HRl
    go_wp2
    obtain ⟨lo, hi', a1, a2, -⟩ := LA.out
    have LO := Lib.hid (a1.off a2)
    clear a1 a2
    go_loopg [0] i (fun g u wr => ∃ (x : SH) (q os : List Rat) (t oc : Nat), u = x.v ∧ q.length = g ∧ g ≤ i ∧ Ext w wr ∧ Off L oc wr x q ∧ OutC wr L os ∧ os.length = i ∧ (∀ m, m < g → os.getD m 0 = 0) ∧ (∀ j, p0.getD j 0 = q.getD j 0 + fbS os j) ∧ SzL t q ∧ 1 ≤ t ∧ t + 10 ≤ (s + 10) * 2 ^ (i - g))
    case atStart => exact ⟨⟨pa, i, pc⟩, p0, os, s, _, rfl, HPl.out, Nat.le_refl _, HX.out, LO.out, HOB.out, HOl.out, HOv.out, HOs.out, HZ.out, hs1, by rw [Nat.sub_self, Nat.pow_zero]; omega⟩
    case round =>
      obtain ⟨⟨xa, xn, xc⟩, q, os, t, oc, rfl, hql, hgi, g1, g2, g3, g4, g5, g6, g7, g8, g9⟩ := hrel
      clear HX LA LO HOB HOl HOv HOs
      have HX := Lib.hid g1
      have LA := Lib.hid g2.sharp
      have HOB := Lib.hid g3
      have HOl := Lib.hid g4
      have HOv := Lib.hid g5
      have HOs := Lib.hid g6
      have ZQ := Lib.hid g7
      have Ht1 := Lib.hid g8
      have Ht2 := Lib.hid g9
      have Hql := Lib.hid hql
      have hxn := g2.can.len
      rw [hql] at hxn
      simp only at hxn
      subst hxn
      clear g1 g2 g3 g4 g5 g6 g7 g8 g9 hql
      simp only [SH.v]
      have hx1 := LA.out.can.le
      have hx2 := LA.out.can.max
      simp only at hx1 hx2
      have hLr := HOB.out.lt
      by_cases h0 : gk = 0
      case pos =>
        subst h0
        have HE : Hid (os = tbV i p0) := Lib.hid (by
          refine fb_inj i _ _ HOl.out (tbV_len _ _) fun j hj => ?_
          have h1 := HOs.out j
          rw [getD_over' (qs := q) (by rw [Hql.out]; omega)] at h1
          rw [fb_tb _ _ _ hj, h1]
          grind)
        have RO := Lib.hid (HOB.out.can HOl.out (by omega))
        rw [HE.out] at RO
        go_wp2
        go_ret
        exact ⟨⟨some ⟨L, 0, none⟩, i, i⟩, rfl, HX.out, by rw [HV2.out]; exact RO.out⟩
      obtain ⟨g0, rfl⟩ : ∃ g0, gk = g0 + 1 := ⟨gk - 1, by omega⟩
      have htb := r8_size Ht2.out (by omega) hs
      have ZT := Lib.hid (chA_sz (n := g0) (by omega))
      have ZC := Lib.hid ((ZQ.out.getD Ht1.out g0).div (Tf_sz (k := g0) (i := g0) (by omega)))
      have hg1 : ((g0 + 1 : Nat) : Int) - 1 = g0 := by omega
      go_wp2_with fail
      refine Calls.mono (cheb8_any g0 _ (by omega)) ?_
      rintro e w1 ⟨x1, rfl, hE, g1⟩
      have G1 := Lib.hid g1
      clear g1
      replace HX := Lib.hid (HX.out.trans hE)
      replace LA := Lib.hid (LA.out.ext hE)
      replace HOB := Lib.hid (HOB.out.ext hE)
      have hs_w1 := hE.size
      clear hE
      obtain ⟨ta, tn, tc⟩ := x1
      have LG := Lib.hid (G1.out.off (b := L) hLr)
      clear G1
      have htn := LG.out.can.len
      rw [chA_len] at htn
      simp only at htn
      subst htn
      have ht1 := LG.out.can.le
      have ht2 := LG.out.can.max
      simp only at ht1 ht2
      simp only [SH.v]
      obtain ⟨b, off, r, hao, hat, hP⟩ := LA.out.can.at (k := g0) (by omega)
      have hbl := RAt.lt hat
      obtain ⟨hc1, hc2, hc3⟩ := hat
      obtain ⟨rneg, ra, rn, rc, rb, rm, rd⟩ := r
      simp only at hc1 hc2 hc3
      subst hao
      have RP := Lib.hid (hP.raw (ZQ.out.getD Ht1.out g0) (by omega))
      obtain ⟨b', off', r', hao', hat', hP'⟩ := LG.out.can.at (k := g0) (by omega)
      have hbl' := RAt.lt hat'
      obtain ⟨hd1, hd2, hd3⟩ := hat'
      obtain ⟨rneg', ra', rn', rc', rb', rm', rd'⟩ := r'
      simp only at hd1 hd2 hd3
      subst hao'
      have RT := Lib.hid (hP'.raw (Tf_sz (k := g0) (i := g0) (by omega)) (by decide))
      clear hP hP'
      go_upto_region 11 with fail
      refine wp_region_front 10 (fun opIx => match opIx with
        | 8 => .spec RH default RH.v (fun s w' => CanR w' s (q.getD g0 0 / Tf g0 g0))
        | 9 => .alloc 30 #[.bool false, .slice none 0 0, .slice none 0 0]
        | _ => .quiet) (fun _ => []) (by kernel_rfl) (by kernel_rfl) (fun w0 he0 hz0 hc0 hf0 => ?_)
      replace he0 := Lib.hid he0
      simp only [List.take_succ_cons, List.take_zero]
      repeat (refine wpF_quiet rfl rfl rfl (fun K hK => ?_); go_big_quiet_op; refine hK _ ?_; clear hK K)
      refine wpF_spec rfl rfl (fun w1 hw1 hG => ?_) (fun x8 => ?_)
      · have hW := he0.out.trans hw1
        refine spec_call [RH.v ⟨rneg, ra, rn, rc, rb, rm, rd⟩, RH.v ⟨rneg', ra', rn', rc', rb', rm', rd'⟩] rfl rfl Tryz.func72 (by kernel_rfl) (by kernel_rfl) ?_
        exact rover3_any _ _ _ _ _ (RP.out.ext hW) (RT.out.ext hW)
      simp only [Act.put, List.setIfInBounds_toArray, List.set_cons_succ, List.set_cons_zero]
      repeat (refine wpF_quiet rfl rfl rfl (fun K hK => ?_); go_big_quiet_op; refine hK _ ?_; clear hK K)
      refine wpF_alloc rfl rfl (fun w => by simp [execOp, go_sem, ptr]) (fun b9 hb9 hl9 => ?_)
      simp only [Act.put, List.setIfInBounds_toArray, List.set_cons_succ, List.set_cons_zero]
      repeat (refine wpF_quiet rfl rfl rfl (fun K hK => ?_); go_big_quiet_op; refine hK _ ?_; clear hK K)
      refine wpF_nil ?_
      intro w5 hI
      have hE := he0.out.trans hI.ext
      obtain ⟨wa8, hwa8, g8⟩ : Since _ _ := hI.facts 8
      have G8 := Lib.hid (g8.ext hwa8)
      clear g8 hwa8
      have A9 : Hid (w5.heap[b9]? = some (.cells #[.bool false, .slice none 0 0, .slice none 0 0] 30 (0, 0))) := hI.facts 9
      rw [hz0] at hl9
      clear hI he0 hz0 hc0 hf0
      replace HX := Lib.hid (HX.out.trans hE)
      replace LA := Lib.hid (LA.out.ext hE)
      replace HOB := Lib.hid (HOB.out.ext hE)
      replace LG := Lib.hid (LG.out.ext hE)
      have hs_w5 := hE.size
      clear hE
      have c_A9 := blk_cell A9.out
      have f_A9 := blk_frozen A9.out
      have l_A9 := (Array.getElem?_eq_some_iff.1 A9.out).1
      simp only [List.drop_succ_cons, List.drop_zero, ptr]
      go_upto_region 12 with fail
      refine nm_set3 A9.out rfl ?_
      intro y6 T
      replace HX := Lib.hid (T.ext HX.out (by omega))
      replace LA := Lib.hid (LA.out.put T (by omega))
      replace HOB := Lib.hid (HOB.out.put T (by omega))
      replace LG := Lib.hid (LG.out.put T (by omega))
      replace G8 := Lib.hid (G8.out.keep T.keep)
      replace A9 := Lib.hid (T.bx)
      have hs_y6 := Nat.le_of_eq T.size
      have hr_y6 := Nat.le_of_eq T.size.symm
      clear T
      (try clear c_A9 f_A9 l_A9)
      have c_A9 := blk_cell A9.out
      have f_A9 := blk_frozen A9.out
      have l_A9 := (Array.getElem?_eq_some_iff.1 A9.out).1
      have RC := Lib.hid (G8.out.raw ZC.out (by omega))
      clear hc1 hc2 hc3 hd1 hd2 hd3 hbl hbl' RP RT
      have hfr := HOB.out.frozen
      have hLl := HOB.out.lt
      have hg0i : (g0 : Int) < i := by omega
      obtain ⟨ro, ⟨e1, e2, e3⟩, -⟩ := HOB.out.cells (k := g0) (by rw [HOl.out]; omega)
      go_upto_region 13 with fail
      refine nm_outc (k := g0) (x := x8) HOB.out (by rw [HOl.out]; omega) G8.out ?_
      intro y7 hT hOB
      obtain ⟨cs', T⟩ := hT
      have HOBn := Lib.hid hOB
      clear hOB e1 e2 e3 hfr hLl
      have hsb9 : b9 ≠ L := by omega
      clear HOB
      replace HX := Lib.hid (T.ext HX.out (by omega))
      replace LA := Lib.hid (LA.out.put T (by omega))
      replace LG := Lib.hid (LG.out.put T (by omega))
      replace G8 := Lib.hid (G8.out.keep T.keep)
      replace A9 := Lib.hid (T.rest _ _ (by omega) A9.out)
      replace RC := Lib.hid (RC.out.keep T.keep)
      have hs_y7 := Nat.le_of_eq T.size
      have hr_y7 := Nat.le_of_eq T.size.symm
      clear T
      (try clear c_A9 f_A9 l_A9)
      have c_A9 := blk_cell A9.out
      have f_A9 := blk_frozen A9.out
      have l_A9 := (Array.getElem?_eq_some_iff.1 A9.out).1
      have HOB := Lib.hid HOBn.out
      clear HOBn
      obtain ⟨c, hc⟩ : ∃ c, c = q.getD g0 0 / Tf g0 g0 := ⟨_, rfl⟩
      have Hc := Lib.hid hc
      rw [← hc] at RC ZC HOB
      clear hc
      clear G8
      have ZU : Hid (SzL (t + 8) (scale5V (chP g0).1 c)) := Lib.hid ((scale5_sz ZT.out ZC.out).mono (by omega))
      have LU : Hid ((scale5V (chP g0).1 c).length ≤ g0 + 1) := Lib.hid (by have := scale5_len (chP g0).1 c; rw [chA_len] at this; exact this)
      go_wp2_with fail
      refine Calls.mono (scale5_any (some ⟨b', off', none⟩) (g0 + 1) tc (chP g0).1 x8 c _ (LG.out.can.raw ZT.out (by decide)) RC.out (by omega) (ZT.out.mono (by decide)) (ZC.out.mono (by omega))) ?_
      rintro e w20 ⟨x20, rfl, hE, g20⟩
      have G20 := Lib.hid g20
      clear g20
      replace HX := Lib.hid (HX.out.trans hE)
      replace LA := Lib.hid (LA.out.ext hE)
      replace LG := Lib.hid (LG.out.ext hE)
      replace A9 := Lib.hid (hE.block A9.out)
      replace RC := Lib.hid (RC.out.ext hE)
      replace HOB := Lib.hid (HOB.out.ext hE)
      have hs_w20 := hE.size
      clear hE
      (try clear c_A9 f_A9 l_A9)
      have c_A9 := blk_cell A9.out
      have f_A9 := blk_frozen A9.out
      have l_A9 := (Array.getElem?_eq_some_iff.1 A9.out).1
      obtain ⟨ua, un, uc⟩ := x20
      have hun : un ≤ g0 + 1 := by have h1 := G20.out.len; have h2 := LU.out; rw [h1] at h2; exact h2
      simp only [SH.v]
      have hLs := HOB.out.lt
      go_wp2_with fail
      refine Calls.mono (sub5_any (some ⟨b, off, none⟩) ua (g0 + 1) xc un uc q (scale5V (chP g0).1 c) _ (LA.out.can.raw ZQ.out (by omega)) (G20.out.can.raw ZU.out (by omega)) (by omega) (by omega) (ZQ.out.mono (by omega)) (ZU.out.mono (by omega))) ?_
      rintro e w21 ⟨x21, rfl, hE, g21⟩
      have G21 := Lib.hid g21
      clear g21
      replace HX := Lib.hid (HX.out.trans hE)
      replace LA := Lib.hid (LA.out.ext hE)
      replace LG := Lib.hid (LG.out.ext hE)
      replace A9 := Lib.hid (hE.block A9.out)
      replace RC := Lib.hid (RC.out.ext hE)
      replace HOB := Lib.hid (HOB.out.ext hE)
      replace G20 := Lib.hid (G20.out.ext hE)
      have hs_w21 := hE.size
      clear hE
      (try clear c_A9 f_A9 l_A9)
      have c_A9 := blk_cell A9.out
      have f_A9 := blk_frozen A9.out
      have l_A9 := (Array.getElem?_eq_some_iff.1 A9.out).1
      have HS2 : Hid (sub5V q (scale5V (chP g0).1 c) = r8S q g0) := Lib.hid (by rw [Hc.out]; rfl)
      rw [HS2.out] at G21
      obtain ⟨va, vn, vc⟩ := x21
      have hvl := G21.out.len
      have hvl2 := r8S_len Hql.out
      simp only at hvl
      rw [hvl] at hvl2
      have Hvl := Lib.hid hvl
      have LV : Hid (Off L w21.heap.size w21 ⟨va, vn, vc⟩ (r8S q g0)) := Lib.hid (G21.out.off hLs)
      have HZ2 := Lib.hid (r8S_sz (n := g0) ZQ.out Ht1.out (by omega))
      have HG2 := Lib.hid (r8_grow (m := vn) hvl2 (by omega) Ht2.out)
      have HO2 : Hid (∀ m, m < vn → (os.set g0 c).getD m 0 = 0) := Lib.hid (fun m hm => by
        rw [getD_set_q (by rw [HOl.out]; omega), if_neg (by omega)]
        exact HOv.out m (by omega))
      have HP2 : Hid (∀ j, p0.getD j 0 = (r8S q g0).getD j 0 + fbS (os.set g0 c) j) := Lib.hid (fun j => by
        rw [HOs.out j, r8S_getD, fbS_set (by rw [HOl.out]; omega) (HOv.out g0 (by omega)), ← Hc.out]
        grind)
      simp only [SH.v]
      clear hvl
      go_wp2
      go_roundg vn
      case measure => omega
      case rel => exact ⟨⟨va, vn, vc⟩, r8S q g0, os.set g0 c, 2 * t + 10, _, rfl, Hvl.out, by omega, HX.out, LV.out, HOB.out, by rw [List.length_set]; exact HOl.out, HO2.out, HP2.out, HZ2.out, by omega, HG2.out⟩
end Go.Proofs.YtbcamhfoemnmgaaGreat
