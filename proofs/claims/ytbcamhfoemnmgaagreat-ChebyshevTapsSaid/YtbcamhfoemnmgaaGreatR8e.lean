/- Taps of the reference 08. -/
import Derived.Test.YtbcamhfoemnmgaaGreatR8c
import Derived.Test.YtbcamhfoemnmgaaGreatM16
set_option linter.unusedVariables false
namespace Go.Proofs.YtbcamhfoemnmgaaGreat
open Go.RowKit Go.Front Go.Num
attribute [local go_sem] XW.cell XW.frozen
theorem PutB.trans {w1 w2 w3 : World} {b : Nat} {T : TypeId} {cs ds : Array Value} (h : PutB w1 b T cs w2) (k : PutB w2 b T ds w3) : PutB w1 b T ds w3 :=
  ⟨Keep.trans h.keep k.keep, k.bx, fun i o h1 h2 => k.rest i o h1 (h.rest i o h1 h2), k.size.trans h.size, Below.trans h.below k.below⟩
/-- A block of numbers: the coefficients up to distance j from the middle are there. -/
def TapP (w : World) (L n j : Nat) (c : List Rat) : Prop := ∃ rs, RBk w L rs #[] ∧ rs.length = 2 * n + 1 ∧ ∀ i, i < 2 * n + 1 → dst n i < j → CanR w (rs.getD i default) (tapE c n i)
theorem TapP.ext {w w' : World} {L n j : Nat} {c : List Rat} (h : TapP w L n j c) (he : Ext w w') : TapP w' L n j c :=
  let ⟨rs, h1, h2, h3⟩ := h; ⟨rs, h1.ext he, h2, fun i hi hd => (h3 i hi hd).ext he⟩
theorem TapP.put {w1 w2 : World} {L n j b : Nat} {c : List Rat} {T : TypeId} {cs : Array Value} (h : TapP w1 L n j c) (T2 : PutB w1 b T cs w2) (hb : b ≠ L) : TapP w2 L n j c :=
  let ⟨rs, h1, h2, h3⟩ := h; ⟨rs, T2.rest L _ (Ne.symm hb) h1, h2, fun i hi hd => (h3 i hi hd).keep T2.keep⟩
theorem TapP.lt {w : World} {L n j : Nat} {c : List Rat} (h : TapP w L n j c) : L < w.heap.size := let ⟨_, h1, _⟩ := h; h1.lt
theorem TapP.frozen {w : World} {L n j : Nat} {c : List Rat} (h : TapP w L n j c) (i : Nat) : w.frozen? ⟨L, i, none⟩ = false := let ⟨_, h1, _⟩ := h; h1.frozen i
theorem TapP.cells {w : World} {L n j : Nat} {c : List Rat} (h : TapP w L n j c) {k : Nat} (hk : k < 2 * n + 1) : ∃ r, RAt w L (k * 3) r := by
  obtain ⟨rs, h1, h2, h3⟩ := h
  exact ⟨_, h1.at (by rw [h2]; exact hk)⟩
theorem TapP.can {w : World} {L n M : Nat} {c : List Rat} (h : TapP w L n (n + 1) c) (hl : 2 * n + 1 = M) (hM : M ≤ 9223372036854775807) : CanL w ⟨some ⟨L, 0, none⟩, M, M⟩ (tapL c n) := by
  obtain ⟨rs, h1, h2, h3⟩ := h
  refine ⟨rs, h1.rs (by rw [h2, hl]) (Nat.le_refl _) hM, by rw [h2]; unfold tapL; simp, fun i hi => ?_⟩
  have hi' : i < 2 * n + 1 := by simpa [tapL] using hi
  unfold tapL
  rw [range_getD, if_pos hi']
  exact h3 i hi' (by unfold dst; split <;> omega)
theorem TapP.start {w : World} {L n : Nat} {rs : List RH} {c : List Rat} (h : RBk w L rs #[]) (hl : rs.length = 2 * n + 1) : TapP w L n 0 c := ⟨rs, h, hl, fun i hi hd => by omega⟩
theorem nm_tap {w1 : World} {L n j : Nat} {c : List Rat} {F : World → Prop} {x : RH} (h : TapP w1 L n j c) (hj : j ≤ n) (hx : CanR w1 x (tapE c n (n + j))) {i1 i2 : Nat} (h1 : i1 = n - j) (h2 : i2 = n + j)
    (H : ∀ w2, (∃ cs, PutB w1 L 30 cs w2) → TapP w2 L n (j + 1) c → F w2) :
    F ((((((w1.setCell ⟨L, i2 * 3, none⟩ (.bool x.neg)).setCell ⟨L, i2 * 3 + 1, none⟩ (.slice x.a x.n x.c)).setCell ⟨L, i2 * 3 + 2, none⟩ (.slice x.b x.m x.d)).setCell ⟨L, i1 * 3, none⟩ (.bool x.neg)).setCell ⟨L, i1 * 3 + 1, none⟩ (.slice x.a x.n x.c)).setCell ⟨L, i1 * 3 + 2, none⟩ (.slice x.b x.m x.d)) := by
  subst h1 h2
  obtain ⟨rs, g1, g2, g3⟩ := h
  refine nm_rat (F := fun w => F (((w.setCell ⟨L, (n - j) * 3, none⟩ (.bool x.neg)).setCell ⟨L, (n - j) * 3 + 1, none⟩ (.slice x.a x.n x.c)).setCell ⟨L, (n - j) * 3 + 2, none⟩ (.slice x.b x.m x.d))) (k := n + j) g1 rfl (by rw [g2]; omega) fun w2 T => ?_
  refine nm_rat (k := n - j) (rs := rs.set (n + j) x) T.bx rfl (by rw [List.length_set, g2]; omega) fun w3 T3 => ?_
  refine H w3 ⟨_, T.trans T3⟩ ⟨_, T3.bx, by rw [List.length_set, List.length_set, g2], fun i hi hd => ?_⟩
  have hk : Keep w1 w3 := Keep.trans T.keep T3.keep
  have e2 : tapE c n (n - j) = tapE c n (n + j) := by
    unfold tapE
    rw [show dst n (n - j) = dst n (n + j) by unfold dst; split <;> split <;> omega]
  by_cases ha : i = n - j
  · subst ha
    rw [show ((rs.set (n + j) x).set (n - j) x).getD (n - j) default = x by simp [g2, show n - j < 2 * n + 1 by omega], e2]
    exact hx.keep hk
  · by_cases hb : i = n + j
    · subst hb
      rw [show ((rs.set (n + j) x).set (n - j) x).getD (n + j) default = x by simp [g2, Ne.symm ha, show n + j < 2 * n + 1 by omega]]
      exact hx.keep hk
    · rw [show ((rs.set (n + j) x).set (n - j) x).getD i default = rs.getD i default by simp [Ne.symm ha, Ne.symm hb]]
      refine (g3 i hi ?_).keep hk
      unfold dst at hd ⊢
      split at hd <;> split <;> omega
theorem nm_tapd {w1 : World} {L n j : Nat} {c : List Rat} {F : World → Prop} {x : RH} (h : TapP w1 L n j c) (hj : j ≤ n) (hx : CanR w1 x (tapE c n (n + j))) {i1 i2 : Nat} (h1 : i1 = n - j) (h2 : i2 = n + j)
    (H : ∀ w2, (∃ cs, PutB w1 L 30 cs w2) → TapP w2 L n (j + 1) c → ∀ w3, Ext w2 w3 → F w3) :
    F ((((((w1.setCell ⟨L, i2 * 3, none⟩ (.bool x.neg)).setCell ⟨L, i2 * 3 + 1, none⟩ (.slice x.a x.n x.c)).setCell ⟨L, i2 * 3 + 2, none⟩ (.slice x.b x.m x.d)).setCell ⟨L, i1 * 3, none⟩ (.bool x.neg)).setCell ⟨L, i1 * 3 + 1, none⟩ (.slice x.a x.n x.c)).setCell ⟨L, i1 * 3 + 2, none⟩ (.slice x.b x.m x.d)).drew :=
  nm_tap (F := fun W => F W.drew) h hj hx h1 h2 fun w2 hT hP => H w2 hT hP _ (Ext.drew _)
set_option maxRecDepth 8000 in
set_option maxHeartbeats 4000000 in
theorem taps8_any (ao : Option Addr) (m cap s : Nat) (ps : List Rat) (n : Int) (w : World) (h : RawL w ⟨ao, m, cap⟩ ps) (hm : m ≤ 12) (hz : SzL s ps) (hs1 : 1 ≤ s) (hs : s ≤ 76) (hcz : SzL 5000000 (tbV (tz ps).length (tz ps))) :
    Does 46 [.slice ao m cap, .int .i64 n] w RF (fun x w' => x.2 = (tapsV ps n).1 ∧ CanL w' x.1 (tapsV ps n).2) := by
  obtain ⟨i0, hi0, hz0, hz1, hz2⟩ := info_parts infoR
  have H := Lib.hid h
  have HX := Lib.hid (Ext.refl w)
  have hle := h.le
  have hmx := h.max
  have Hlen := Lib.hid h.len
  simp only at hle hmx Hlen
  have HZ := Lib.hid hz
  have HCz := Lib.hid hcz
  clear h hz hcz
  unfold Does
  by_cases h1 : n < 0
  · have hv : tapsV ps n = (1, []) := by unfold tapsV; rw [if_pos (Or.inl h1)]
    have Hv := Lib.hid hv
    clear hv
    go_enter Tryz.func46, Tryz.ntmps46
    go_wp2
    exact bodyPost_ret (v := RF (⟨none, 0, 0⟩, 1)) (by simp [results, Tryz.results46, go_sem, RF]) rfl ⟨(⟨none, 0, 0⟩, 1), rfl, HX.out, by rw [Hv.out], by rw [Hv.out]; exact (NewL.nil 0 _).can⟩
  by_cases h2 : 48 < n
  · have hv : tapsV ps n = (1, []) := by unfold tapsV; rw [if_pos (Or.inr h2)]
    have Hv := Lib.hid hv
    clear hv
    go_enter Tryz.func46, Tryz.ntmps46
    go_wp2
    exact bodyPost_ret (v := RF (⟨none, 0, 0⟩, 1)) (by simp [results, Tryz.results46, go_sem, RF]) rfl ⟨(⟨none, 0, 0⟩, 1), rfl, HX.out, by rw [Hv.out], by rw [Hv.out]; exact (NewL.nil 0 _).can⟩
  obtain ⟨N, rfl⟩ : ∃ N : Nat, n = (N : Nat) := ⟨n.toNat, by omega⟩
  have HV : Hid (tapsV ps N = if (N : Int) < ((tz ps).length : Int) - 1 then (12, []) else (0, tapL (tbV (tz ps).length (tz ps)) N)) := Lib.hid (by unfold tapsV; rw [if_neg (by omega)]; rfl)
  have hN : N ≤ 48 := by omega
  obtain ⟨P, hP⟩ : ∃ P, P = (tz ps).length := ⟨_, rfl⟩
  have hPm : P ≤ 12 := by have := tz_len_le ps; rw [Hlen.out] at this; omega
  rw [← hP] at HV HCz
  have HD : Hid (∀ w1, Ext w w1 → Does 82 [.slice ao m cap] w1 (fun _ : Unit => .int .i64 ((P : Int) - 1)) (fun _ _ => True)) := Lib.hid (fun w1 he => by rw [hP]; exact degree5_any ao m cap ps w1 (H.out.ext he) (by omega))
  have HB : Hid (∀ w1, Ext w w1 → Does 31 [.slice ao m cap] w1 SH.v (fun x w' => CanL w' x (tbV P (tz ps)))) := Lib.hid (fun w1 he => by rw [hP]; exact tobasis8_any ao m cap s ps w1 (H.out.ext he) hm HZ.out hs1 hs)
  clear hP
  go_enter Tryz.func46, Tryz.ntmps46
  go_wp2_with fail
  refine Calls.mono (HD.out _ HX.out) ?_
  rintro e w1 ⟨x1, rfl, hE, -⟩
  replace HX := Lib.hid (HX.out.trans hE)
  have hs_w1 := hE.size
  clear hE
  by_cases h3 : (N : Int) < (P : Int) - 1
  case pos =>
    have hv : tapsV ps N = (12, []) := by rw [HV.out, if_pos h3]
    have Hv := Lib.hid hv
    clear hv
    go_wp2
    exact bodyPost_ret (v := RF (⟨none, 0, 0⟩, 12)) (by simp [results, Tryz.results46, go_sem, RF]) rfl ⟨(⟨none, 0, 0⟩, 12), rfl, HX.out, by rw [Hv.out], by rw [Hv.out]; exact (NewL.nil 0 _).can⟩
  have HV2 : Hid (tapsV ps N = (0, tapL (tbV P (tz ps)) N)) := Lib.hid (by rw [HV.out, if_neg h3])
  obtain ⟨c, hc⟩ : ∃ c, c = tbV P (tz ps) := ⟨_, rfl⟩
  have HCl : Hid (c.length = P) := Lib.hid (by rw [hc]; exact tbV_len _ _)
  rw [← hc] at HV2 HCz HB
  clear hc h1 h2
  go_wp2_with fail
  refine Calls.mono (HB.out _ HX.out) ?_
  rintro e w2 ⟨x2, rfl, hE, g2⟩
  have G2 := Lib.hid g2
  clear g2
  replace HX := Lib.hid (HX.out.trans hE)
  have hs_w2 := hE.size
  clear hE
  obtain ⟨ca, cn, cc⟩ := x2
  have hcl := G2.out.len
  rw [HCl.out] at hcl
  simp only at hcl
  subst hcl
  have LC : Hid (LIn w2 ⟨ca, P, cc⟩ c 0 w2.heap.size) := Lib.hid G2.out.lin
  clear G2
  simp only [SH.v]
  obtain ⟨M, hM1, hM2⟩ : ∃ M, M ≤ 2 * N + 1 ∧ 2 * N + 1 ≤ M := ⟨2 * N + 1, Nat.le_refl _, Nat.le_refl _⟩
  have hMi : 2 * (N : Int) + 1 = M := by omega
  go_upto_region 7 with (refine wpList_make rfl (.tmp 26) (.tmp 26) 32 rfl 30 i0 (RH.v default) 3 Tryz.underlying32 hi0 hz0 hz1 _ _ M rfl rfl (by omega) (by omega) (by rw [hz2]; omega) (by omega) ?_; intro w3 hnew hE)
  have KB : Hid (TapP w3 w2.heap.size N 0 c) := Lib.hid (TapP.start (RBk.make rfl hnew) (by rw [List.length_replicate]; omega))
  clear hnew
  replace HX := Lib.hid (HX.out.trans hE)
  replace LC := Lib.hid (LC.out.ext hE)
  have hs_w3 := hE.size
  clear hE
  obtain ⟨L, hL⟩ : ∃ L, L = w2.heap.size := ⟨_, rfl⟩
  have hLw : w.heap.size ≤ L := by omega
  rw [← hL] at KB LC ⊢
  clear hL
  go_wp2
  go_loopg [8] (N + 1) (fun g z wr => ∃ (j : Nat), j + g = N + 1 ∧ z = .int .i64 (j : Nat) ∧ Ext w wr ∧ TapP wr L N j c ∧ LIn wr ⟨ca, P, cc⟩ c 0 L)
  case atStart => exact ⟨0, by omega, rfl, HX.out, KB.out, LC.out⟩
  case round =>
    obtain ⟨j, hj, rfl, g1, g4, g5⟩ := hrel
    clear HX KB LC
    have HX := Lib.hid g1
    have KB := Lib.hid g4
    have LC := Lib.hid g5
    clear g1 g4 g5
    by_cases h0 : gk = 0
    case pos =>
      subst h0
      obtain rfl : j = N + 1 := by omega
      have hjn : ¬ ((N : Int) + 1 ≤ N) := by omega
      have RO := Lib.hid (KB.out.can (M := M) (by omega) (by omega))
      go_wp2
      exact bodyPost_ret (v := RF (⟨some ⟨L, 0, none⟩, M, M⟩, 0)) (by simp [results, Tryz.results46, go_sem, RF]) rfl ⟨(⟨some ⟨L, 0, none⟩, M, M⟩, 0), rfl, HX.out, by rw [HV2.out], by rw [HV2.out]; exact RO.out⟩
    have hjN : (j : Int) ≤ N := by omega
    have hLl0 := KB.out.lt
    have ZC := Lib.hid (HCz.out.getD (by decide) j)
    go_wp2_with fail
    refine Calls.mono (at5_any ca P cc c j _ (LC.out.can.raw HCz.out (by decide)) (by omega)) ?_
    rintro e w4 ⟨x4, rfl, hE, g4⟩
    have G4 := Lib.hid g4
    clear g4
    replace HX := Lib.hid (HX.out.trans hE)
    replace KB := Lib.hid (KB.out.ext hE)
    replace LC := Lib.hid (LC.out.ext hE)
    have hs_w4 := hE.size
    clear hE
    go_upto_region 11 with fail
    refine nm_alloc ?_
    intro y5 hE hB0 hz
    have hz_y5 := Nat.le_of_eq hz
    have hr_y5 := Nat.le_of_eq hz.symm
    clear hz
    replace HX := Lib.hid (HX.out.trans hE)
    replace KB := Lib.hid (KB.out.ext hE)
    replace LC := Lib.hid (LC.out.ext hE)
    replace G4 := Lib.hid (G4.out.ext hE)
    have hs_y5 := hE.size
    clear hE
    have B9 := Lib.hid hB0
    clear hB0
    have c_B9 := blk_cell B9.out
    have f_B9 := blk_frozen B9.out
    have l_B9 := (Array.getElem?_eq_some_iff.1 B9.out).1
    obtain ⟨b9, hb9⟩ : ∃ b9, b9 = w4.heap.size := ⟨_, rfl⟩
    have hb9L : L < b9 := by omega
    rw [← hb9] at B9 ⊢
    clear hb9 c_B9 f_B9 l_B9
    (try clear c_B9 f_B9 l_B9)
    have c_B9 := blk_cell B9.out
    have f_B9 := blk_frozen B9.out
    have l_B9 := (Array.getElem?_eq_some_iff.1 B9.out).1
    have GE : Hid (∀ w1 x, CanR w1 x (if j = 0 then c.getD j 0 else c.getD j 0 * half) → CanR w1 x (tapE c N (N + j))) := Lib.hid (fun w1 x hx => by
      have e : dst N (N + j) = j := by unfold dst; split <;> omega
      unfold tapE
      rw [e]
      by_cases h : j = 0
      · rw [if_pos h] at hx ⊢; rw [h] at hx; exact hx
      · rw [if_neg h] at hx ⊢; exact hx)
    by_cases hj0 : j = 0
    case pos =>
      have hjb : ¬ (0 : Int) < j := by omega
      have GX : Hid (CanR y5 x4 (tapE c N (N + j))) := Lib.hid (GE.out _ _ (by rw [if_pos hj0]; exact G4.out))
      obtain ⟨rneg, ra, rn, rc, rb, rm, rd⟩ := x4
      go_upto_region 13 with fail
      obtain rfl : j = 0 := hj0
      have hNM : (N : Int) < M := by omega
      have hj2 : N < 2 * N + 1 := by omega
      have hfr : ∀ x, y5.frozen? ⟨L, x, none⟩ = false := KB.out.frozen
      have hLl := KB.out.lt
      obtain ⟨r2, e4, e5, e6⟩ := KB.out.cells (k := N) hj2
      go_region
      refine nm_tapd (i1 := N) (i2 := N) (x := ⟨rneg, ra, rn, rc, rb, rm, rd⟩) KB.out (by omega) GX.out rfl rfl ?_
      intro w14 hT hTP w15 hE
      obtain ⟨cs', T⟩ := hT
      have KBn := Lib.hid hTP
      clear hTP e4 e5 e6 hfr hLl hj2 hNM
      clear KB
      replace HX := Lib.hid (T.ext HX.out (by omega))
      replace LC := Lib.hid (LC.out.put T (by omega))
      replace G4 := Lib.hid (G4.out.keep T.keep)
      replace B9 := Lib.hid (T.rest _ _ (by omega) B9.out)
      have hs_w14 := Nat.le_of_eq T.size
      have hr_w14 := Nat.le_of_eq T.size.symm
      clear T
      (try clear c_B9 f_B9 l_B9)
      have c_B9 := blk_cell B9.out
      have f_B9 := blk_frozen B9.out
      have l_B9 := (Array.getElem?_eq_some_iff.1 B9.out).1
      have KB := Lib.hid KBn.out
      clear KBn
      replace HX := Lib.hid (HX.out.trans hE)
      replace LC := Lib.hid (LC.out.ext hE)
      replace G4 := Lib.hid (G4.out.ext hE)
      replace B9 := Lib.hid (hE.block B9.out)
      replace KB := Lib.hid (KB.out.ext hE)
      have hs_w15 := hE.size
      clear hE
      (try clear c_B9 f_B9 l_B9)
      have c_B9 := blk_cell B9.out
      have f_B9 := blk_frozen B9.out
      have l_B9 := (Array.getElem?_eq_some_iff.1 B9.out).1
      go_wp2
      go_roundg (gk - 1)
      case measure => omega
      case rel => exact ⟨0 + 1, by omega, by go_num, HX.out, KB.out, LC.out⟩
    have hjb : (0 : Int) < j := by omega
    go_upto_region 12 with fail
    refine wp_region_front 3 (fun opIx => match opIx with
      | 1 => .spec RH default RH.v (fun s w' => CanR w' s (half))
      | 2 => .spec RH default RH.v (fun s w' => CanR w' s (c.getD j 0 * half))
      | _ => .quiet) (fun | 2 => [1] | _ => []) (by kernel_rfl) (by kernel_rfl) (fun w0 he0 hz0 hc0 hf0 => ?_)
    replace he0 := Lib.hid he0
    simp only [List.take_succ_cons, List.take_zero]
    repeat (refine wpF_quiet rfl rfl rfl (fun K hK => ?_); go_big_quiet_op; refine hK _ ?_; clear hK K)
    refine wpF_spec rfl rfl (fun w1 hw1 hG => ?_) (fun x1 => ?_)
    · have hW := he0.out.trans hw1
      refine spec_call [.int .i64 1, .int .i64 2] rfl rfl Tryz.func10 (by kernel_rfl) (by kernel_rfl) ?_
      exact rfrac3_any 1 2 _ (by decide) (by decide) (by decide) (by decide)
    simp only [Act.put, List.setIfInBounds_toArray, List.set_cons_succ, List.set_cons_zero]
    repeat (refine wpF_quiet rfl rfl rfl (fun K hK => ?_); go_big_quiet_op; refine hK _ ?_; clear hK K)
    refine wpF_spec rfl rfl (fun w1 hw1 hG => ?_) (fun x2 => ?_)
    · have hW := he0.out.trans hw1
      obtain ⟨wa1, hwa1, g1⟩ : Since _ _ := hG 1 (by decide)
      replace g1 := g1.ext hwa1
      refine spec_call [x4.v, x1.v] rfl rfl Tryz.func11 (by kernel_rfl) (by kernel_rfl) ?_
      exact rmul3_any x4 x1 _ _ _ ((G4.out.ext hW).raw ZC.out (by decide)) (g1.raw half_sz (by decide))
    simp only [Act.put, List.setIfInBounds_toArray, List.set_cons_succ, List.set_cons_zero]
    repeat (refine wpF_quiet rfl rfl rfl (fun K hK => ?_); go_big_quiet_op; refine hK _ ?_; clear hK K)
    refine wpF_nil ?_
    intro w12 hI
    have hE := he0.out.trans hI.ext
    obtain ⟨wa1, hwa1, g1⟩ : Since _ _ := hI.facts 1
    have G1 := Lib.hid (g1.ext hwa1)
    clear g1 hwa1
    obtain ⟨wa2, hwa2, g2⟩ : Since _ _ := hI.facts 2
    have G2 := Lib.hid (g2.ext hwa2)
    clear g2 hwa2
    clear hI he0 hz0 hc0 hf0
    replace HX := Lib.hid (HX.out.trans hE)
    replace KB := Lib.hid (KB.out.ext hE)
    replace LC := Lib.hid (LC.out.ext hE)
    replace G4 := Lib.hid (G4.out.ext hE)
    replace B9 := Lib.hid (hE.block B9.out)
    have hs_w12 := hE.size
    clear hE
    (try clear c_B9 f_B9 l_B9)
    have c_B9 := blk_cell B9.out
    have f_B9 := blk_frozen B9.out
    have l_B9 := (Array.getElem?_eq_some_iff.1 B9.out).1
    simp only [List.drop_succ_cons, List.drop_zero]
    go_upto_region 13 with fail
    refine nm_set3 B9.out rfl ?_
    intro y13 T
    replace HX := Lib.hid (T.ext HX.out (by omega))
    replace KB := Lib.hid (KB.out.put T (by omega))
    replace LC := Lib.hid (LC.out.put T (by omega))
    replace G4 := Lib.hid (G4.out.keep T.keep)
    replace B9 := Lib.hid (T.bx)
    replace G1 := Lib.hid (G1.out.keep T.keep)
    replace G2 := Lib.hid (G2.out.keep T.keep)
    have hs_y13 := Nat.le_of_eq T.size
    have hr_y13 := Nat.le_of_eq T.size.symm
    clear T
    (try clear c_B9 f_B9 l_B9)
    have c_B9 := blk_cell B9.out
    have f_B9 := blk_frozen B9.out
    have l_B9 := (Array.getElem?_eq_some_iff.1 B9.out).1
    have GX : Hid (CanR y13 x2 (tapE c N (N + j))) := Lib.hid (GE.out _ _ (by rw [if_neg hj0]; exact G2.out))
    obtain ⟨rneg, ra, rn, rc, rb, rm, rd⟩ := x2
    obtain ⟨i1, hi1⟩ : ∃ i, i = N - j := ⟨_, rfl⟩
    obtain ⟨i2, hi2⟩ : ∃ i, i = N + j := ⟨_, rfl⟩
    have hI1 : (N : Int) - (j : Int) = i1 := by omega
    have hI2 : (N : Int) + (j : Int) = i2 := by omega
    have hj1 : i1 < 2 * N + 1 := by omega
    have hj2 : i2 < 2 * N + 1 := by omega
    have hb1 : (i1 : Int) < M := by omega
    have hb2 : (i2 : Int) < M := by omega
    have d0 : i2 ≠ i1 := by omega
    have d1 : i2 * 3 ≠ i1 * 3 + 1 := by omega
    have d2 : i2 * 3 ≠ i1 * 3 + 2 := by omega
    have d3 : i2 * 3 + 1 ≠ i1 * 3 := by omega
    have d4 : i2 * 3 + 2 ≠ i1 * 3 := by omega
    have hfr : ∀ x, y13.frozen? ⟨L, x, none⟩ = false := KB.out.frozen
    have hLl := KB.out.lt
    obtain ⟨r1, e1, e2, e3⟩ := KB.out.cells (k := i1) hj1
    obtain ⟨r2, e4, e5, e6⟩ := KB.out.cells (k := i2) hj2
    have Hi1 := Lib.hid hi1
    have Hi2 := Lib.hid hi2
    clear hj0 hi1 hi2
    go_region
    refine nm_tapd (x := ⟨rneg, ra, rn, rc, rb, rm, rd⟩) KB.out (by omega) GX.out Hi1.out Hi2.out ?_
    intro w14 hT hTP w15 hE
    obtain ⟨cs', T⟩ := hT
    have KBn := Lib.hid hTP
    clear hTP e1 e2 e3 e4 e5 e6 hfr hLl hI1 hI2 hb1 hb2 hj1 hj2 d0 d1 d2 d3 d4
    clear KB
    replace HX := Lib.hid (T.ext HX.out (by omega))
    replace LC := Lib.hid (LC.out.put T (by omega))
    replace G4 := Lib.hid (G4.out.keep T.keep)
    replace B9 := Lib.hid (T.rest _ _ (by omega) B9.out)
    replace G1 := Lib.hid (G1.out.keep T.keep)
    replace G2 := Lib.hid (G2.out.keep T.keep)
    have hs_w14 := Nat.le_of_eq T.size
    have hr_w14 := Nat.le_of_eq T.size.symm
    clear T
    (try clear c_B9 f_B9 l_B9)
    have c_B9 := blk_cell B9.out
    have f_B9 := blk_frozen B9.out
    have l_B9 := (Array.getElem?_eq_some_iff.1 B9.out).1
    have KB := Lib.hid KBn.out
    clear KBn
    replace HX := Lib.hid (HX.out.trans hE)
    replace LC := Lib.hid (LC.out.ext hE)
    replace G4 := Lib.hid (G4.out.ext hE)
    replace B9 := Lib.hid (hE.block B9.out)
    replace G1 := Lib.hid (G1.out.ext hE)
    replace G2 := Lib.hid (G2.out.ext hE)
    replace KB := Lib.hid (KB.out.ext hE)
    have hs_w15 := hE.size
    clear hE
    (try clear c_B9 f_B9 l_B9)
    have c_B9 := blk_cell B9.out
    have f_B9 := blk_frozen B9.out
    have l_B9 := (Array.getElem?_eq_some_iff.1 B9.out).1
    go_wp2
    go_roundg (gk - 1)
    case measure => omega
    case rel => exact ⟨j + 1, by omega, by go_num, HX.out, KB.out, LC.out⟩
end Go.Proofs.YtbcamhfoemnmgaaGreat
