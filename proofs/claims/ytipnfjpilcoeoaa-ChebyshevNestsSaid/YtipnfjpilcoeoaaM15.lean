/- Nst -/
import Derived.Test.YtipnfjpilcoeoaaM12
set_option linter.unusedVariables false
/- Compositions of Chebyshev polynomials by tables of whole numbers. -/
namespace Go.Proofs.Ytipnfjpilcoeoaa
open Go.RowKit Go.Front Go.Num
theorem a5_getD (ps qs : List Rat) (i : Nat) : (add5V ps qs).getD i 0 = ps.getD i 0 + qs.getD i 0 := by
  unfold add5V
  rw [tz_getD', range_getD]
  split
  · rfl
  · rw [getD_over' (by omega), getD_over' (by omega)]
    grind
def addI : List Int → List Int → List Int
  | [], q => q
  | a :: p, [] => a :: p
  | a :: p, b :: q => (a + b) :: addI p q
def mulI : List Int → List Int → List Int
  | [], _ => []
  | a :: p, q => addI (q.map (a * ·)) (0 :: mulI p q)
def nbI (p q : List Int) : List Int := addI (0 :: p.map (2 * ·)) (q.map (-1 * ·))
def tzI (l : List Int) : List Int := (l.reverse.dropWhile (· == 0)).reverse
def cI (l : List Int) : List Rat := l.map (fun z : Int => (z : Rat))
theorem cI_getD (l : List Int) (i : Nat) : (cI l).getD i 0 = ((l.getD i 0 : Int) : Rat) := by
  unfold cI
  by_cases h : i < l.length
  · simp [h]
  · rw [getD_over' (by simp; omega), show l.getD i 0 = 0 by simp [show l.length ≤ i by omega]]; rfl
theorem addI_getD (p q : List Int) (i : Nat) : (addI p q).getD i 0 = p.getD i 0 + q.getD i 0 := by
  induction p generalizing q i with
  | nil => simp [addI]
  | cons a p ih =>
    cases q with
    | nil => simp [addI]
    | cons b q =>
      cases i with
      | zero => rfl
      | succ i => exact ih q i
theorem mapI_getD (a : Int) (q : List Int) (i : Nat) : (q.map (a * ·)).getD i 0 = a * q.getD i 0 := by
  by_cases h : i < q.length
  · simp [h]
  · simp [show q.length ≤ i by omega]
theorem mulI_ap (p q : List Int) (n : Nat) : (((mulI p q).getD n 0 : Int) : Rat) = Stab.ap (cI p) (Stab.seq (cI q)) n := by
  induction p generalizing n with
  | nil => rfl
  | cons a p ih =>
    show (((addI (q.map (a * ·)) (0 :: mulI p q)).getD n 0 : Int) : Rat) = (a : Rat) * (cI q).getD n 0 + Stab.sh (Stab.ap (cI p) (Stab.seq (cI q))) n
    rw [addI_getD, mapI_getD, Rat.intCast_add, Rat.intCast_mul, cI_getD]
    congr 1
    cases n with
    | zero => rfl
    | succ n => exact ih n
theorem tzI_c (l : List Int) : tz (cI l) = cI (tzI l) := by
  unfold tz tzI cI
  rw [← List.map_reverse, List.dropWhile_map, ← List.map_reverse]
  have e : ((fun x : Rat => x == 0) ∘ fun z : Int => (z : Rat)) = fun z : Int => z == 0 := by
    funext z
    by_cases h : z = 0
    · subst h; rfl
    · have h1 : ((z : Rat) == 0) = false := by
        rw [beq_eq_false_iff_ne]
        intro h2
        exact h (Rat.intCast_inj.1 h2)
      have h3 : (z == 0) = false := by simpa using h
      simp only [Function.comp, h1, h3]
  rw [e]
theorem stepI {p q : List Int} (hp : tz (cI p) = cI p) (hq : tz (cI q) = cI q) (c : Int) : add5V (mul5V (cI p) (cI q)) [(c : Rat)] = cI (tzI (addI (mulI p q) [c])) := by
  rw [← tzI_c]
  have e : tz (add5V (mul5V (cI p) (cI q)) [(c : Rat)]) = add5V (mul5V (cI p) (cI q)) [(c : Rat)] := tz_idem _
  rw [← e]
  apply tz_ext
  intro i
  have e2 : (mul5V (cI p) (cI q)).getD i 0 = Stab.ap (tz (cI p)) (Stab.seq (tz (cI q))) i := congrFun (mul5_seq (cI p) (cI q)) i
  rw [a5_getD, e2, hp, hq, ← mulI_ap, cI_getD, addI_getD, Rat.intCast_add]
  have e3 : ([(c : Rat)] : List Rat).getD i 0 = (([c].getD i 0 : Int) : Rat) := by
    cases i with
    | zero => rfl
    | succ i => rfl
  rw [e3]
theorem nbI_c (p q : List Int) : nbV (cI p) (cI q) = cI (tzI (nbI p q)) := by
  rw [← tzI_c]
  have e : tz (nbV (cI p) (cI q)) = nbV (cI p) (cI q) := tz_idem _
  rw [← e]
  apply tz_ext
  intro i
  rw [nb_getD, cI_getD, cI_getD, cI_getD]
  unfold nbI
  rw [addI_getD, mapI_getD]
  cases i with
  | zero =>
    show (if 0 < 0 then _ else _) - _ = (((0 : Int) + -1 * q.getD 0 0 : Int) : Rat)
    rw [if_neg (by omega), Rat.intCast_add, Rat.intCast_mul]
    grind
  | succ i =>
    show _ = ((((p.map (2 * ·)).getD i 0 : Int) + -1 * q.getD (i + 1) 0 : Int) : Rat)
    rw [mapI_getD, if_pos (by omega), Rat.intCast_add, Rat.intCast_mul, Rat.intCast_mul]
    show 2 * ((p.getD i 0 : Int) : Rat) - _ = _
    grind
def tabT : List (List Int) := [[1],
  [0, 1],
  [-1, 0, 2],
  [0, -3, 0, 4],
  [1, 0, -8, 0, 8],
  [0, 5, 0, -20, 0, 16],
  [-1, 0, 18, 0, -48, 0, 32],
  [0, -7, 0, 56, 0, -112, 0, 64],
  [1, 0, -32, 0, 160, 0, -256, 0, 128],
  [0, 9, 0, -120, 0, 432, 0, -576, 0, 256],
  [-1, 0, 50, 0, -400, 0, 1120, 0, -1280, 0, 512],
  [0, -11, 0, 220, 0, -1232, 0, 2816, 0, -2816, 0, 1024],
  [1, 0, -72, 0, 840, 0, -3584, 0, 6912, 0, -6144, 0, 2048],
  [0, 13, 0, -364, 0, 2912, 0, -9984, 0, 16640, 0, -13312, 0, 4096],
  [-1, 0, 98, 0, -1568, 0, 9408, 0, -26880, 0, 39424, 0, -28672, 0, 8192],
  [0, -15, 0, 560, 0, -6048, 0, 28800, 0, -70400, 0, 92160, 0, -61440, 0, 16384],
  [1, 0, -128, 0, 2688, 0, -21504, 0, 84480, 0, -180224, 0, 212992, 0, -131072, 0, 32768],
  [0, 17, 0, -816, 0, 11424, 0, -71808, 0, 239360, 0, -452608, 0, 487424, 0, -278528, 0, 65536],
  [-1, 0, 162, 0, -4320, 0, 44352, 0, -228096, 0, 658944, 0, -1118208, 0, 1105920, 0, -589824, 0, 131072],
  [0, -19, 0, 1140, 0, -20064, 0, 160512, 0, -695552, 0, 1770496, 0, -2723840, 0, 2490368, 0, -1245184, 0, 262144],
  [1, 0, -200, 0, 6600, 0, -84480, 0, 549120, 0, -2050048, 0, 4659200, 0, -6553600, 0, 5570560, 0, -2621440, 0, 524288],
  [0, 21, 0, -1540, 0, 33264, 0, -329472, 0, 1793792, 0, -5870592, 0, 12042240, 0, -15597568, 0, 12386304, 0, -5505024, 0, 1048576],
  [-1, 0, 242, 0, -9680, 0, 151008, 0, -1208064, 0, 5637632, 0, -16400384, 0, 30638080, 0, -36765696, 0, 27394048, 0, -11534336, 0, 2097152],
  [0, -23, 0, 2024, 0, -52624, 0, 631488, 0, -4209920, 0, 17145856, 0, -44843008, 0, 76873728, 0, -85917696, 0, 60293120, 0, -24117248, 0, 4194304],
  [1, 0, -288, 0, 13728, 0, -256256, 0, 2471040, 0, -14057472, 0, 50692096, 0, -120324096, 0, 190513152, 0, -199229440, 0, 132120576, 0, -50331648, 0, 8388608],
  [0, 25, 0, -2600, 0, 80080, 0, -1144000, 0, 9152000, 0, -45260800, 0, 146227200, 0, -317521920, 0, 466944000, 0, -458752000, 0, 288358400, 0, -104857600, 0, 16777216]]
def tabH : List (List (List Int)) := [[[], [1]],
  [[], [1]],
  [[], [1]],
  [[], [1]],
  [[], [1]],
  [[], [1]],
  [[], [1], [1]],
  [[], [1], [0, 1]],
  [[], [1], [-1, 0, 2]],
  [[], [1], [0, -3, 0, 4]],
  [[], [1], [1, 0, -8, 0, 8]],
  [[], [1], [0, 5, 0, -20, 0, 16]],
  [[], [2], [2], [1]],
  [[], [2], [0, 2], [-1, 0, 2]],
  [[], [2], [-2, 0, 4], [1, 0, -8, 0, 8]],
  [[], [2], [0, -6, 0, 8], [-1, 0, 18, 0, -48, 0, 32]],
  [[], [2], [2, 0, -16, 0, 16], [1, 0, -32, 0, 160, 0, -256, 0, 128]],
  [[], [2], [0, 10, 0, -40, 0, 32], [-1, 0, 50, 0, -400, 0, 1120, 0, -1280, 0, 512]],
  [[], [4], [4], [1], [1]],
  [[], [4], [0, 4], [-3, 0, 4], [0, -3, 0, 4]],
  [[], [4], [-4, 0, 8], [1, 0, -16, 0, 16], [-1, 0, 18, 0, -48, 0, 32]],
  [[], [4], [0, -12, 0, 16], [-3, 0, 36, 0, -96, 0, 64], [0, 9, 0, -120, 0, 432, 0, -576, 0, 256]],
  [[], [4], [4, 0, -32, 0, 32], [1, 0, -64, 0, 320, 0, -512, 0, 256], [1, 0, -72, 0, 840, 0, -3584, 0, 6912, 0, -6144, 0, 2048]],
  [[], [4], [0, 20, 0, -80, 0, 64], [-3, 0, 100, 0, -800, 0, 2240, 0, -2560, 0, 1024], [0, -15, 0, 560, 0, -6048, 0, 28800, 0, -70400, 0, 92160, 0, -61440, 0, 16384]],
  [[], [8], [8], [], [], [1]],
  [[], [8], [0, 8], [-8, 0, 8], [0, -8, 0, 8], [1, 0, -8, 0, 8]],
  [[], [8], [-8, 0, 16], [0, 0, -32, 0, 32], [0, 0, 32, 0, -96, 0, 64], [1, 0, -32, 0, 160, 0, -256, 0, 128]],
  [[], [8], [0, -24, 0, 32], [-8, 0, 72, 0, -192, 0, 128], [0, 24, 0, -248, 0, 864, 0, -1152, 0, 512], [1, 0, -72, 0, 840, 0, -3584, 0, 6912, 0, -6144, 0, 2048]],
  [[], [8], [8, 0, -64, 0, 64], [0, 0, -128, 0, 640, 0, -1024, 0, 512], [0, 0, -128, 0, 1664, 0, -7168, 0, 13824, 0, -12288, 0, 4096], [1, 0, -128, 0, 2688, 0, -21504, 0, 84480, 0, -180224, 0, 212992, 0, -131072, 0, 32768]],
  [[], [8], [0, 40, 0, -160, 0, 128], [-8, 0, 200, 0, -1600, 0, 4480, 0, -5120, 0, 2048], [0, -40, 0, 1160, 0, -12128, 0, 57600, 0, -140800, 0, 184320, 0, -122880, 0, 32768], [1, 0, -200, 0, 6600, 0, -84480, 0, 549120, 0, -2050048, 0, 4659200, 0, -6553600, 0, 5570560, 0, -2621440, 0, 524288]],
  [[], [16], [16], [-4], [-4], [1], [1]],
  [[], [16], [0, 16], [-20, 0, 16], [0, -20, 0, 16], [5, 0, -20, 0, 16], [0, 5, 0, -20, 0, 16]],
  [[], [16], [-16, 0, 32], [-4, 0, -64, 0, 64], [4, 0, 56, 0, -192, 0, 128], [1, 0, -48, 0, 304, 0, -512, 0, 256], [-1, 0, 50, 0, -400, 0, 1120, 0, -1280, 0, 512]],
  [[], [16], [0, -48, 0, 64], [-20, 0, 144, 0, -384, 0, 256], [0, 60, 0, -512, 0, 1728, 0, -2304, 0, 1024], [5, 0, -180, 0, 1776, 0, -7232, 0, 13824, 0, -12288, 0, 4096], [0, -15, 0, 560, 0, -6048, 0, 28800, 0, -70400, 0, 92160, 0, -61440, 0, 16384]],
  [[], [16], [16, 0, -128, 0, 128], [-4, 0, -256, 0, 1280, 0, -2048, 0, 1024], [-4, 0, -224, 0, 3296, 0, -14336, 0, 27648, 0, -24576, 0, 8192], [1, 0, -192, 0, 5056, 0, -42496, 0, 168704, 0, -360448, 0, 425984, 0, -262144, 0, 65536], [1, 0, -200, 0, 6600, 0, -84480, 0, 549120, 0, -2050048, 0, 4659200, 0, -6553600, 0, 5570560, 0, -2621440, 0, 524288]],
  [[], [16], [0, 80, 0, -320, 0, 256], [-20, 0, 400, 0, -3200, 0, 8960, 0, -10240, 0, 4096], [0, -100, 0, 2400, 0, -24320, 0, 115200, 0, -281600, 0, 368640, 0, -245760, 0, 65536], [5, 0, -500, 0, 14000, 0, -171200, 0, 1100800, 0, -4101120, 0, 9318400, 0, -13107200, 0, 11141120, 0, -5242880, 0, 1048576], [0, 25, 0, -2600, 0, 80080, 0, -1144000, 0, 9152000, 0, -45260800, 0, 146227200, 0, -317521920, 0, 466944000, 0, -458752000, 0, 288358400, 0, -104857600, 0, 16777216]]]
def tt (k : Nat) : List Int := tabT.getD k []
def hh (m n j : Nat) : List Int := (tabH.getD (m * 6 + n) []).getD j []
theorem tt_all : ∀ k : Nat, k < 24 → tt (k + 2) = tzI (nbI (tt (k + 1)) (tt k)) := by decide +kernel
theorem tt_cheb (k : Nat) (hk : k < 25) : (chP k).1 = cI (tt k) ∧ (chP (k + 1)).1 = cI (tt (k + 1)) := by
  induction k with
  | zero => exact ⟨by decide +kernel, by decide +kernel⟩
  | succ k ih =>
    obtain ⟨h1, h2⟩ := ih (by omega)
    refine ⟨h2, ?_⟩
    show nbV (chP (k + 1)).1 (chP (k + 1)).2 = _
    rw [chB_succ, h2, h1, nbI_c, tt_all k (by omega)]
theorem tt_ok (k : Nat) (hk : k ≤ 25) : (chP k).1 = cI (tt k) := by
  rcases Nat.lt_or_ge k 25 with h | h
  · exact (tt_cheb k h).1
  · obtain rfl : k = 25 := by omega
    exact (tt_cheb 24 (by decide)).2
def smI (l : List Int) : Bool := l.all (fun z => decide (z.natAbs < 4294967296)) && decide (l.length ≤ 100)
def stepB (m n j : Nat) : Bool := decide (hh m n (j + 1) = tzI (addI (mulI (hh m n j) (tt n)) [(tt m).getD (m - j) 0])) && smI (hh m n (j + 1))
def nestB (m n : Nat) : Bool := decide (hh m n 0 = []) && (decide (hh m n (m + 1) = tt (m * n)) && (List.range (m + 1)).all (stepB m n))
theorem nest_all : ∀ m : Nat, m < 6 → ∀ n : Nat, n < 6 → nestB m n = true := by decide +kernel
theorem tzI_idem {a b : List Int} (h : a = tzI b) : tz (cI a) = cI a := by
  rw [h, ← tzI_c, tz_idem]
theorem smI_sz {l : List Int} (h : smI l = true) : SzL 1 (cI l) ∧ (cI l).length ≤ 100 := by
  unfold smI at h
  simp only [Bool.and_eq_true, decide_eq_true_eq] at h
  refine ⟨fun q hq => ?_, by unfold cI; rw [List.length_map]; exact h.2⟩
  obtain ⟨z, hz, rfl⟩ := List.mem_map.1 hq
  have h1 := List.all_eq_true.1 h.1 z hz
  simp only [decide_eq_true_eq] at h1
  exact Sz.int h1
theorem nest_step {m n : Nat} (hm : m < 6) (hn : n < 6) : ∀ j, j ≤ m + 1 → horn (cI (tt m)) (cI (tt n)) j = cI (hh m n j) ∧ tz (cI (hh m n j)) = cI (hh m n j) ∧ smI (hh m n j) = true := by
  have h := nest_all m hm n hn
  unfold nestB at h
  simp only [Bool.and_eq_true, decide_eq_true_eq, List.all_eq_true] at h
  obtain ⟨h0, h1, h2⟩ := h
  have hlen : (cI (tt m)).length = m + 1 := by rw [← tt_ok m (by omega)]; exact chA_len m
  have hq : tz (cI (tt n)) = cI (tt n) := by rw [← tt_ok n (by omega)]; exact chA_tz n
  intro j
  induction j with
  | zero => intro _; rw [h0]; exact ⟨rfl, rfl, by decide⟩
  | succ j ih =>
    intro hj
    obtain ⟨i1, i2, i3⟩ := ih (by omega)
    have h3 := h2 j (List.mem_range.2 (by omega))
    unfold stepB at h3
    simp only [Bool.and_eq_true, decide_eq_true_eq] at h3
    refine ⟨?_, tzI_idem h3.1, h3.2⟩
    show add5V (mul5V (horn (cI (tt m)) (cI (tt n)) j) (cI (tt n))) [(cI (tt m)).getD ((cI (tt m)).length - 1 - j) 0] = _
    rw [i1, hlen, cI_getD, stepI i2 hq, h3.1, show m + 1 - 1 - j = m - j by omega]
theorem nest_ok {m n : Nat} (hm : m < 6) (hn : n < 6) : HornOk (chP m).1 (chP n).1 ∧ horn (chP m).1 (chP n).1 (chP m).1.length = (chP (m * n)).1 := by
  have hmn : m * n ≤ 25 := Nat.mul_le_mul (show m ≤ 5 by omega) (show n ≤ 5 by omega)
  have h := nest_all m hm n hn
  unfold nestB at h
  simp only [Bool.and_eq_true, decide_eq_true_eq] at h
  refine ⟨fun j hj => ?_, ?_⟩
  · rw [chA_len] at hj
    obtain ⟨i1, i2, i3⟩ := nest_step hm hn j hj
    obtain ⟨s1, s2⟩ := smI_sz i3
    rw [tt_ok m (by omega), tt_ok n (by omega), i1]
    have sn : SzL 1 (cI (tt n)) := by
      have h5 := nest_step hn (show 1 < 6 by decide) (n + 1) (Nat.le_refl _)
      have h6 := nest_all n hn 1 (by decide)
      unfold nestB at h6
      simp only [Bool.and_eq_true, decide_eq_true_eq] at h6
      have h7 := (smI_sz h5.2.2).1
      rw [h6.2.1, Nat.mul_one] at h7
      exact h7
    have ln : (cI (tt n)).length ≤ 6 := by rw [← tt_ok n (by omega), chA_len]; omega
    refine ⟨s1.mono (by decide), s2, (mul5_sz (by decide) s1 sn).mono (by omega), ?_⟩
    have := mul5_len (cI (hh m n j)) (cI (tt n))
    omega
  · rw [chA_len, tt_ok m (by omega), tt_ok n (by omega), (nest_step hm hn (m + 1) (Nat.le_refl _)).1, h.2.1, ← tt_ok _ hmn]
end Go.Proofs.Ytipnfjpilcoeoaa
