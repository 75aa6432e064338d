/- Series, Parallel, Run of the filters of make: what they return. Plain facts. -/
import Derived.Test.YtdchjfcklppmgaaGreatQFil
import Derived.Test.YtdchjfcklppmgaaGreatQRp3
import Derived.Test.YtdchjfcklppmgaaGreatQRp4
import Derived.Test.YtdchjfcklppmgaaGreatQRp5
import Derived.Test.YtdchjfcklppmgaaGreatQRp6
set_option linter.unusedVariables false
namespace Go.Proofs.YtdchjfcklppmgaaGreat
open Go.RowKit Go.Front Go.Num Stab
structure FilP (b a : List Rat) : Prop where
 lb : b.length ≤ 4
 la : a.length ≤ 4
 zb : FrB 7 b
 za : FrB 7 a
 tb : tz b = b
 ta : tz a = a
 head : a.getD 0 0 = 1
theorem fil_p (xs ks : List Int) : FilP (filB xs) (filA ks) := ⟨filB_len xs, filA_len ks, filB_frb xs, filA_frb ks, filB_tz xs, filA_tz ks, filA_head ks⟩
theorem FilP.vf {b a : List Rat} (h : FilP b a) : VF b a := ⟨by rw [h.tb]; have := h.lb; omega, by rw [h.ta]; have := h.la; omega, h.head⟩
theorem add5_tz (p q : List Rat) : tz (add5V p q) = add5V p q := tz_idem _
theorem mul5_l7 {p q : List Rat} (hp : p.length ≤ 4) (hq : q.length ≤ 4) : (mul5V p q).length ≤ 7 := by
 unfold mul5V
 refine Nat.le_trans (tz_len_le _) ?_
 have := tz_len_le p
 have := tz_len_le q
 simp only [List.length_map, List.length_range]
 omega
theorem add5_l7 {p q : List Rat} {n : Nat} (hp : p.length ≤ n) (hq : q.length ≤ n) : (add5V p q).length ≤ n := by
 unfold add5V
 refine Nat.le_trans (tz_len_le _) ?_
 simp only [List.length_map, List.length_range]
 omega
structure SerP (b a : List Rat) : Prop where
 lb : b.length ≤ 7
 la : a.length ≤ 7
 zb : FrB 31 b
 za : FrB 31 a
 tb : tz b = b
 ta : tz a = a
 head : a.getD 0 0 = 1
theorem SerP.vf {b a : List Rat} (h : SerP b a) : VF b a := ⟨by rw [h.tb]; have := h.lb; omega, by rw [h.ta]; have := h.la; omega, h.head⟩
theorem FilP.serp {b a c d : List Rat} (h : FilP b a) (k : FilP c d) : SerP (mul5V b c) (mul5V a d) :=
 ⟨mul5_l7 h.lb k.lb, mul5_l7 h.la k.la, (h.zb.mul k.zb (by have := h.lb; omega)).mono (by decide), (h.za.mul k.za (by have := h.la; omega)).mono (by decide), mul5_tz _ _, mul5_tz _ _, by rw [mul5_head, h.head, k.head]; exact Rat.mul_one 1⟩
theorem FilP.parp {b a c d : List Rat} (h : FilP b a) (k : FilP c d) : SerP (add5V (mul5V b d) (mul5V c a)) (mul5V a d) :=
 ⟨add5_l7 (mul5_l7 h.lb k.la) (mul5_l7 k.lb h.la), mul5_l7 h.la k.la, ((h.zb.mul k.za (by have := h.lb; omega)).add (k.zb.mul h.za (by have := k.lb; omega))).mono (by decide), (h.za.mul k.za (by have := h.la; omega)).mono (by decide), add5_tz _ _, mul5_tz _ _, by rw [mul5_head, h.head, k.head]; exact Rat.mul_one 1⟩
theorem lim_ok {b a : List Rat} (h : SerP b a) : limV b a = (0, b, a) := by unfold limV; rw [if_pos ⟨h.vf.1, h.vf.2.1⟩]
theorem FilP.ser {b a c d : List Rat} (h : FilP b a) (k : FilP c d) : serV b a c d = (0, mul5V b c, mul5V a d) := by unfold serV; rw [if_pos ⟨h.vf, k.vf⟩, lim_ok (h.serp k)]
theorem FilP.par {b a c d : List Rat} (h : FilP b a) (k : FilP c d) : parV b a c d = (0, add5V (mul5V b d) (mul5V c a), mul5V a d) := by unfold parV; rw [if_pos ⟨h.vf, k.vf⟩, lim_ok (h.parp k)]
theorem runV_ok {b a : List Rat} (x : List Rat) (h : VF b a) : runV b a x = (0, runL b a (seq x) x.length) := by unfold runV; rw [if_pos h]
theorem impV_ok {b a : List Rat} (h : VF b a) : impV b a 8 = (0, runL b a (seq (impL 8)) 8) := by
 unfold impV
 rw [if_pos h, if_neg (by decide), runV_ok _ h, impL_len]
 rfl
theorem magV_ok {b a : List Rat} (h : VF b a) : magV b a = (0, crossV b b, crossV a a) := by unfold magV; rw [if_pos h]
theorem runK_mono {sb sa sx lb la sb' sa' sx' lb' la' : Nat} (h1 : sb ≤ sb') (h2 : sa ≤ sa') (h3 : sx ≤ sx') (h4 : lb ≤ lb') (h5 : la ≤ la') : runK sb sa sx lb la ≤ runK sb' sa' sx' lb' la' := by
 unfold runK
 have a1 := Nat.mul_le_mul h4 (show sb + sx + 1 ≤ sb' + sx' + 1 by omega)
 have a2 := Nat.mul_le_mul h5 (show sa + 1 ≤ sa' + 1 by omega)
 omega
theorem runK_le {sb sa sx lb la sb' sa' sx' lb' la' N M K : Nat} (h1 : sb ≤ sb') (h2 : sa ≤ sa') (h3 : sx ≤ sx') (h4 : lb ≤ lb') (h5 : la ≤ la') (h6 : N ≤ M) (h7 : runK sb' sa' sx' lb' la' * 2 ^ M ≤ K) : runK sb sa sx lb la * 2 ^ N ≤ K :=
 Nat.le_trans (Nat.mul_le_mul (runK_mono h1 h2 h3 h4 h5) (Nat.pow_le_pow_right (by decide) h6)) h7
theorem runL_sz {b a x : List Rat} {sb sa sx lb la N K : Nat} (hb : SzL sb b) (ha : SzL sa a) (hx : SzL sx x) (h1 : 1 ≤ sb) (h2 : 1 ≤ sa) (h3 : 1 ≤ sx) (hlb : b.length ≤ lb) (hla : a.length ≤ la) (hK : runK sb sa sx lb la * 2 ^ N ≤ K) : SzL K (runL b a (seq x) N) := by
 intro q hq
 obtain ⟨i, hi, rfl⟩ := List.mem_iff_getElem.1 hq
 rw [runL_len] at hi
 have h := run_sz (x := seq x) hb ha h1 h2 (fun i => hx.getD h3 i) hlb hla N i hi
 rw [List.getD_eq_getElem?_getD, List.getElem?_eq_getElem (by rw [runL_len]; exact hi)] at h
 exact h.mono (Nat.le_trans (Nat.mul_le_mul_left _ (Nat.pow_le_pow_right (by decide) (by omega))) hK)
end Go.Proofs.YtdchjfcklppmgaaGreat
