/- Binomial of the reference 07; Bound of package stability. -/
import Derived.Test.YtbcamhfoemnmgaaGreatPow
import Derived.Test.YtbcamhfoemnmgaaGreatM21
set_option linter.unusedVariables false
namespace Go.Proofs.YtbcamhfoemnmgaaGreat
open Go.RowKit Go.Front Go.Num
attribute [local go_sem] XW.cell XW.frozen
def bnd (m : Nat) : Nat → Rat
  | 0 => 1
  | i + 1 => bnd m i * (((m + (i + 1) : Nat) : Int) : Rat) / (((i + 1 : Nat) : Int) : Rat)
theorem bnd_sz {m : Nat} (hm : m ≤ 64) : ∀ i, i ≤ 100 → Sz (2 * i + 1) (bnd m i)
  | 0, _ => Sz.one
  | i + 1, h => by
    have h1 := bnd_sz hm i (by omega)
    have h2 : Sz 1 (((m + (i + 1) : Nat) : Int) : Rat) := Sz.int (by unfold W32; omega)
    have h3 : Sz 1 (((i + 1 : Nat) : Int) : Rat) := Sz.int (by unfold W32; omega)
    exact ((h1.mul h2).div h3).mono (by omega)
set_option maxRecDepth 8000 in
set_option maxHeartbeats 2000000 in
theorem binom_any (m k : Nat) (z : Int) (w : World) (hm : m ≤ 64) (hk : k ≤ 100) (hz : z = (m : Int) + k) :
    Does 94 [.int .i64 z, .int .i64 (k : Nat)] w RH.v (fun x w' => CanR w' x (bnd m k)) := by
  have HX := Lib.hid (Ext.refl w)
  have hzk : z - (k : Int) = m := by omega
  have hz1 : 0 ≤ z ∧ z ≤ 200 := by omega
  clear hz
  unfold Does
  go_enter Tryz.func94, Tryz.ntmps94
  go_upto_region 1 with fail
  refine nm_alloc ?_
  intro w1 hE hB0 hz
  have hz_w1 := Nat.le_of_eq hz
  have hr_w1 := Nat.le_of_eq hz.symm
  clear hz
  replace HX := Lib.hid (HX.out.trans hE)
  have hs_w1 := hE.size
  clear hE
  have B4 := Lib.hid hB0
  clear hB0
  have c_B4 := blk_cell B4.out
  have f_B4 := blk_frozen B4.out
  have l_B4 := (Array.getElem?_eq_some_iff.1 B4.out).1
  go_wp2_with fail
  refine Calls.mono (rof3_any 1 _ (by decide) (by decide)) ?_
  rintro e w2 ⟨x2, rfl, hE, g2⟩
  have G2 := Lib.hid g2
  clear g2
  replace HX := Lib.hid (HX.out.trans hE)
  replace B4 := Lib.hid (hE.block B4.out)
  have hs_w2 := hE.size
  clear hE
  (try clear c_B4 f_B4 l_B4)
  have c_B4 := blk_cell B4.out
  have f_B4 := blk_frozen B4.out
  have l_B4 := (Array.getElem?_eq_some_iff.1 B4.out).1
  go_upto_region 2 with fail
  refine nm_alloc ?_
  intro y3 hE hB0 hz
  have hz_y3 := Nat.le_of_eq hz
  have hr_y3 := Nat.le_of_eq hz.symm
  clear hz
  replace HX := Lib.hid (HX.out.trans hE)
  replace B4 := Lib.hid (hE.block B4.out)
  replace G2 := Lib.hid (G2.out.ext hE)
  have hs_y3 := hE.size
  clear hE
  (try clear c_B4 f_B4 l_B4)
  have c_B4 := blk_cell B4.out
  have f_B4 := blk_frozen B4.out
  have l_B4 := (Array.getElem?_eq_some_iff.1 B4.out).1
  have B5 := Lib.hid hB0
  clear hB0
  have c_B5 := blk_cell B5.out
  have f_B5 := blk_frozen B5.out
  have l_B5 := (Array.getElem?_eq_some_iff.1 B5.out).1
  obtain ⟨b5, hb5⟩ : ∃ b, b = w2.heap.size := ⟨_, rfl⟩
  have hb5w : w.heap.size + 1 ≤ b5 := by omega
  rw [← hb5] at B5 ⊢
  clear hb5 c_B4 f_B4 l_B4 c_B5 f_B5 l_B5
  have G0 : Hid (CanR y3 x2 (bnd m 0)) := G2
  go_wp2
  go_loopg [6] k (fun g v wr => ∃ (j : Nat) (f : RH), j + g = k ∧ v = .int .i64 ((j : Int) + 1) ∧ Ext w wr ∧ wr.heap[w.heap.size]? = some (.cells #[.bool false, .slice none 0 0, .slice none 0 0] 30 (0, 0)) ∧ wr.heap[b5]? = some (.cells #[.bool f.neg, .slice f.a f.n f.c, .slice f.b f.m f.d] 30 (0, 0)) ∧ CanR wr f (bnd m j))
  case atStart => exact ⟨0, x2, by omega, rfl, HX.out, B4.out, B5.out, G0.out⟩
  case round =>
    obtain ⟨j, f, hj, rfl, g1, g3, g4, g5⟩ := hrel
    clear HX B4 B5 G2 G0
    have HX := Lib.hid g1
    have B4 := Lib.hid g3
    have B5 := Lib.hid g4
    have GF := Lib.hid g5
    clear g1 g3 g4 g5
    (try clear c_B4 f_B4 l_B4)
    have c_B4 := blk_cell B4.out
    have f_B4 := blk_frozen B4.out
    have l_B4 := (Array.getElem?_eq_some_iff.1 B4.out).1
    (try clear c_B5 f_B5 l_B5)
    have c_B5 := blk_cell B5.out
    have f_B5 := blk_frozen B5.out
    have l_B5 := (Array.getElem?_eq_some_iff.1 B5.out).1
    by_cases h0 : gk = 0
    case pos =>
      subst h0
      obtain rfl : j = k := by omega
      have hjn : ¬ ((j : Int) + 1 ≤ j) := by omega
      go_wp2
      have hF := ((((Fin.start (L := w.heap.size) HX.out (noU_block B4.out rfl)).set (by omega) (i := 0) (v := .bool f.neg) rfl).set (by omega) (i := 1) (v := .slice f.a f.n f.c) rfl).set (by omega) (i := 2) (v := .slice f.b f.m f.d) rfl)
      exact bodyPost_ret (v := f.v) (by simp [results, Tryz.results94, go_sem, blk_cell B4.out]) rfl ⟨f, rfl, hF.ext, GF.out.keep hF.keep⟩
    have hjn : (j : Int) + 1 ≤ k := by omega
    have ZF := Lib.hid (bnd_sz hm j (by omega))
    obtain ⟨p1, hp1⟩ : ∃ p : Nat, p = m + (j + 1) := ⟨_, rfl⟩
    have hP1 : (m : Int) + ((j : Int) + 1) = (p1 : Nat) := by omega
    have hp1b : p1 ≤ 1000 := by omega
    have Z1 : Hid (Sz 1 (((p1 : Nat) : Int) : Rat)) := Lib.hid (Sz.int (by unfold W32; omega))
    have Z2 : Hid (Sz 1 (((j : Int) + 1 : Int) : Rat)) := Lib.hid (Sz.int (by unfold W32; omega))
    have HN : Hid (bnd m j * (((p1 : Nat) : Int) : Rat) / (((j : Int) + 1 : Int) : Rat) = bnd m (j + 1)) := Lib.hid (by rw [hp1]; rfl)
    clear hp1
    go_upto_region 5 with fail
    refine wp_region_front 11 (fun opIx => match opIx with
      | 6 => .spec RH default RH.v (fun s w' => CanR w' s ((((p1 : Nat) : Int) : Rat)))
      | 7 => .spec RH default RH.v (fun s w' => CanR w' s (bnd m j * (((p1 : Nat) : Int) : Rat)))
      | 9 => .spec RH default RH.v (fun s w' => CanR w' s ((((j : Int) + 1 : Int) : Rat)))
      | 10 => .spec RH default RH.v (fun s w' => CanR w' s (bnd m (j + 1)))
      | _ => .quiet) (fun | 7 => [6] | 10 => [7, 9] | _ => []) (by kernel_rfl) (by kernel_rfl) (fun w0 he0 hz0 hc0 hf0 => ?_)
    replace he0 := Lib.hid he0
    simp only [List.take_succ_cons, List.take_zero]
    repeat (refine wpF_quiet rfl rfl rfl (fun K hK => ?_); go_big_quiet_op; refine hK _ ?_; clear hK K)
    refine wpF_spec rfl rfl (fun w1 hw1 hG => ?_) (fun x20 => ?_)
    · have hW := he0.out.trans hw1
      refine spec_call [.int .i64 (p1 : Nat)] rfl rfl Tryz.func8 (by kernel_rfl) (by kernel_rfl) ?_
      exact rof3_any (p1 : Nat) _ (by omega) (by omega)
    simp only [Act.put, List.setIfInBounds_toArray, List.set_cons_succ, List.set_cons_zero]
    repeat (refine wpF_quiet rfl rfl rfl (fun K hK => ?_); go_big_quiet_op; refine hK _ ?_; clear hK K)
    refine wpF_spec rfl rfl (fun w1 hw1 hG => ?_) (fun x21 => ?_)
    · have hW := he0.out.trans hw1
      obtain ⟨wa20, hwa20, g20⟩ : Since _ _ := hG 6 (by decide)
      replace g20 := g20.ext hwa20
      refine spec_call [f.v, x20.v] rfl rfl Tryz.func11 (by kernel_rfl) (by kernel_rfl) ?_
      exact rmul3_any f x20 _ _ _ ((GF.out.ext hW).raw ZF.out (by omega)) (g20.raw Z1.out (by decide))
    simp only [Act.put, List.setIfInBounds_toArray, List.set_cons_succ, List.set_cons_zero]
    repeat (refine wpF_quiet rfl rfl rfl (fun K hK => ?_); go_big_quiet_op; refine hK _ ?_; clear hK K)
    refine wpF_spec rfl rfl (fun w1 hw1 hG => ?_) (fun x22 => ?_)
    · have hW := he0.out.trans hw1
      refine spec_call [.int .i64 ((j : Int) + 1)] rfl rfl Tryz.func8 (by kernel_rfl) (by kernel_rfl) ?_
      exact rof3_any ((j : Int) + 1) _ (by omega) (by omega)
    simp only [Act.put, List.setIfInBounds_toArray, List.set_cons_succ, List.set_cons_zero]
    repeat (refine wpF_quiet rfl rfl rfl (fun K hK => ?_); go_big_quiet_op; refine hK _ ?_; clear hK K)
    refine wpF_spec rfl rfl (fun w1 hw1 hG => ?_) (fun x23 => ?_)
    · have hW := he0.out.trans hw1
      obtain ⟨wa21, hwa21, g21⟩ : Since _ _ := hG 7 (by decide)
      replace g21 := g21.ext hwa21
      obtain ⟨wa22, hwa22, g22⟩ : Since _ _ := hG 9 (by decide)
      replace g22 := g22.ext hwa22
      refine spec_call [x21.v, x22.v] rfl rfl Tryz.func72 (by kernel_rfl) (by kernel_rfl) ?_
      exact (by rw [← HN.out]; exact rover3_any x21 x22 _ _ _ (g21.raw (ZF.out.mul Z1.out) (by omega)) (g22.raw Z2.out (by decide)))
    simp only [Act.put, List.setIfInBounds_toArray, List.set_cons_succ, List.set_cons_zero]
    repeat (refine wpF_quiet rfl rfl rfl (fun K hK => ?_); go_big_quiet_op; refine hK _ ?_; clear hK K)
    refine wpF_nil ?_
    intro w6 hI
    have hE := he0.out.trans hI.ext
    obtain ⟨wa20, hwa20, g20⟩ : Since _ _ := hI.facts 6
    have G20 := Lib.hid (g20.ext hwa20)
    clear g20 hwa20
    obtain ⟨wa21, hwa21, g21⟩ : Since _ _ := hI.facts 7
    have G21 := Lib.hid (g21.ext hwa21)
    clear g21 hwa21
    obtain ⟨wa22, hwa22, g22⟩ : Since _ _ := hI.facts 9
    have G22 := Lib.hid (g22.ext hwa22)
    clear g22 hwa22
    obtain ⟨wa23, hwa23, g23⟩ : Since _ _ := hI.facts 10
    have G23 := Lib.hid (g23.ext hwa23)
    clear g23 hwa23
    clear hI he0 hz0 hc0 hf0
    replace HX := Lib.hid (HX.out.trans hE)
    replace B4 := Lib.hid (hE.block B4.out)
    replace B5 := Lib.hid (hE.block B5.out)
    replace GF := Lib.hid (GF.out.ext hE)
    have hs_w6 := hE.size
    clear hE
    (try clear c_B4 f_B4 l_B4)
    have c_B4 := blk_cell B4.out
    have f_B4 := blk_frozen B4.out
    have l_B4 := (Array.getElem?_eq_some_iff.1 B4.out).1
    (try clear c_B5 f_B5 l_B5)
    have c_B5 := blk_cell B5.out
    have f_B5 := blk_frozen B5.out
    have l_B5 := (Array.getElem?_eq_some_iff.1 B5.out).1
    simp only [List.drop_succ_cons, List.drop_zero]
    go_upto_region 4 with fail
    refine nm_set3 B5.out rfl ?_
    intro y7 T
    replace HX := Lib.hid (T.ext HX.out (by omega))
    replace B4 := Lib.hid (T.rest _ _ (by omega) B4.out)
    replace B5 := Lib.hid (T.bx)
    replace GF := Lib.hid (GF.out.keep T.keep)
    replace G20 := Lib.hid (G20.out.keep T.keep)
    replace G21 := Lib.hid (G21.out.keep T.keep)
    replace G22 := Lib.hid (G22.out.keep T.keep)
    replace G23 := Lib.hid (G23.out.keep T.keep)
    have hs_y7 := Nat.le_of_eq T.size
    have hr_y7 := Nat.le_of_eq T.size.symm
    clear T
    (try clear c_B4 f_B4 l_B4)
    have c_B4 := blk_cell B4.out
    have f_B4 := blk_frozen B4.out
    have l_B4 := (Array.getElem?_eq_some_iff.1 B4.out).1
    (try clear c_B5 f_B5 l_B5)
    have c_B5 := blk_cell B5.out
    have f_B5 := blk_frozen B5.out
    have l_B5 := (Array.getElem?_eq_some_iff.1 B5.out).1
    clear hP1
    go_wp2
    go_roundg (gk - 1)
    case measure => omega
    case rel => exact ⟨j + 1, x23, by omega, by go_num, HX.out, B4.out, B5.out, G23.out⟩
end Go.Proofs.YtbcamhfoemnmgaaGreat
