/- Tt -/
import Derived.Test.YtbcamhfoemnmgaaGreatM12
set_option linter.unusedVariables false
/- Chebyshev polynomials by tables of whole numbers. -/
namespace Go.Proofs.YtbcamhfoemnmgaaGreat
open Go.RowKit Go.Front Go.Num
def addI : List Int → List Int → List Int
  | [], q => q
  | a :: p, [] => a :: p
  | a :: p, b :: q => (a + b) :: addI p q
def mulI : List Int → List Int → List Int
  | [], _ => []
  | a :: p, q => addI (q.map (a * ·)) (0 :: mulI p q)
def nbI (p q : List Int) : List Int := addI (0 :: p.map (2 * ·)) (q.map (-1 * ·))
def tzI (l : List Int) : List Int := (l.reverse.dropWhile (· == 0)).reverse
def cI (l : List Int) : List Rat := l.map (fun z : Int => (z : Rat))
theorem cI_getD (l : List Int) (i : Nat) : (cI l).getD i 0 = ((l.getD i 0 : Int) : Rat) := by
  unfold cI
  by_cases h : i < l.length
  · simp [h]
  · rw [getD_over' (by simp; omega), show l.getD i 0 = 0 by simp [show l.length ≤ i by omega]]; rfl
theorem addI_getD (p q : List Int) (i : Nat) : (addI p q).getD i 0 = p.getD i 0 + q.getD i 0 := by
  induction p generalizing q i with
  | nil => simp [addI]
  | cons a p ih =>
    cases q with
    | nil => simp [addI]
    | cons b q =>
      cases i with
      | zero => rfl
      | succ i => exact ih q i
theorem mapI_getD (a : Int) (q : List Int) (i : Nat) : (q.map (a * ·)).getD i 0 = a * q.getD i 0 := by
  by_cases h : i < q.length
  · simp [h]
  · simp [show q.length ≤ i by omega]
theorem mulI_ap (p q : List Int) (n : Nat) : (((mulI p q).getD n 0 : Int) : Rat) = Stab.ap (cI p) (Stab.seq (cI q)) n := by
  induction p generalizing n with
  | nil => rfl
  | cons a p ih =>
    show (((addI (q.map (a * ·)) (0 :: mulI p q)).getD n 0 : Int) : Rat) = (a : Rat) * (cI q).getD n 0 + Stab.sh (Stab.ap (cI p) (Stab.seq (cI q))) n
    rw [addI_getD, mapI_getD, Rat.intCast_add, Rat.intCast_mul, cI_getD]
    congr 1
    cases n with
    | zero => rfl
    | succ n => exact ih n
theorem tzI_c (l : List Int) : tz (cI l) = cI (tzI l) := by
  unfold tz tzI cI
  rw [← List.map_reverse, List.dropWhile_map, ← List.map_reverse]
  have e : ((fun x : Rat => x == 0) ∘ fun z : Int => (z : Rat)) = fun z : Int => z == 0 := by
    funext z
    by_cases h : z = 0
    · subst h; rfl
    · have h1 : ((z : Rat) == 0) = false := by
        rw [beq_eq_false_iff_ne]
        intro h2
        exact h (Rat.intCast_inj.1 h2)
      have h3 : (z == 0) = false := by simpa using h
      simp only [Function.comp, h1, h3]
  rw [e]
theorem nbI_c (p q : List Int) : nbV (cI p) (cI q) = cI (tzI (nbI p q)) := by
  rw [← tzI_c]
  have e : tz (nbV (cI p) (cI q)) = nbV (cI p) (cI q) := tz_idem _
  rw [← e]
  apply tz_ext
  intro i
  rw [nb_getD, cI_getD, cI_getD, cI_getD]
  unfold nbI
  rw [addI_getD, mapI_getD]
  cases i with
  | zero =>
    show (if 0 < 0 then _ else _) - _ = (((0 : Int) + -1 * q.getD 0 0 : Int) : Rat)
    rw [if_neg (by omega), Rat.intCast_add, Rat.intCast_mul]
    grind
  | succ i =>
    show _ = ((((p.map (2 * ·)).getD i 0 : Int) + -1 * q.getD (i + 1) 0 : Int) : Rat)
    rw [mapI_getD, if_pos (by omega), Rat.intCast_add, Rat.intCast_mul, Rat.intCast_mul]
    show 2 * ((p.getD i 0 : Int) : Rat) - _ = _
    grind
def tabT : List (List Int) := [[1],
  [0, 1],
  [-1, 0, 2],
  [0, -3, 0, 4],
  [1, 0, -8, 0, 8],
  [0, 5, 0, -20, 0, 16],
  [-1, 0, 18, 0, -48, 0, 32],
  [0, -7, 0, 56, 0, -112, 0, 64],
  [1, 0, -32, 0, 160, 0, -256, 0, 128],
  [0, 9, 0, -120, 0, 432, 0, -576, 0, 256],
  [-1, 0, 50, 0, -400, 0, 1120, 0, -1280, 0, 512],
  [0, -11, 0, 220, 0, -1232, 0, 2816, 0, -2816, 0, 1024],
  [1, 0, -72, 0, 840, 0, -3584, 0, 6912, 0, -6144, 0, 2048],
  [0, 13, 0, -364, 0, 2912, 0, -9984, 0, 16640, 0, -13312, 0, 4096],
  [-1, 0, 98, 0, -1568, 0, 9408, 0, -26880, 0, 39424, 0, -28672, 0, 8192],
  [0, -15, 0, 560, 0, -6048, 0, 28800, 0, -70400, 0, 92160, 0, -61440, 0, 16384],
  [1, 0, -128, 0, 2688, 0, -21504, 0, 84480, 0, -180224, 0, 212992, 0, -131072, 0, 32768],
  [0, 17, 0, -816, 0, 11424, 0, -71808, 0, 239360, 0, -452608, 0, 487424, 0, -278528, 0, 65536],
  [-1, 0, 162, 0, -4320, 0, 44352, 0, -228096, 0, 658944, 0, -1118208, 0, 1105920, 0, -589824, 0, 131072],
  [0, -19, 0, 1140, 0, -20064, 0, 160512, 0, -695552, 0, 1770496, 0, -2723840, 0, 2490368, 0, -1245184, 0, 262144],
  [1, 0, -200, 0, 6600, 0, -84480, 0, 549120, 0, -2050048, 0, 4659200, 0, -6553600, 0, 5570560, 0, -2621440, 0, 524288],
  [0, 21, 0, -1540, 0, 33264, 0, -329472, 0, 1793792, 0, -5870592, 0, 12042240, 0, -15597568, 0, 12386304, 0, -5505024, 0, 1048576],
  [-1, 0, 242, 0, -9680, 0, 151008, 0, -1208064, 0, 5637632, 0, -16400384, 0, 30638080, 0, -36765696, 0, 27394048, 0, -11534336, 0, 2097152],
  [0, -23, 0, 2024, 0, -52624, 0, 631488, 0, -4209920, 0, 17145856, 0, -44843008, 0, 76873728, 0, -85917696, 0, 60293120, 0, -24117248, 0, 4194304],
  [1, 0, -288, 0, 13728, 0, -256256, 0, 2471040, 0, -14057472, 0, 50692096, 0, -120324096, 0, 190513152, 0, -199229440, 0, 132120576, 0, -50331648, 0, 8388608],
  [0, 25, 0, -2600, 0, 80080, 0, -1144000, 0, 9152000, 0, -45260800, 0, 146227200, 0, -317521920, 0, 466944000, 0, -458752000, 0, 288358400, 0, -104857600, 0, 16777216]]
def tt (k : Nat) : List Int := tabT.getD k []
theorem tt_all : ∀ k : Nat, k < 24 → tt (k + 2) = tzI (nbI (tt (k + 1)) (tt k)) := by decide +kernel
theorem tt_cheb (k : Nat) (hk : k < 25) : (chP k).1 = cI (tt k) ∧ (chP (k + 1)).1 = cI (tt (k + 1)) := by
  induction k with
  | zero => exact ⟨by decide +kernel, by decide +kernel⟩
  | succ k ih =>
    obtain ⟨h1, h2⟩ := ih (by omega)
    refine ⟨h2, ?_⟩
    show nbV (chP (k + 1)).1 (chP (k + 1)).2 = _
    rw [chB_succ, h2, h1, nbI_c, tt_all k (by omega)]
theorem tt_ok (k : Nat) (hk : k ≤ 25) : (chP k).1 = cI (tt k) := by
  rcases Nat.lt_or_ge k 25 with h | h
  · exact (tt_cheb k h).1
  · obtain rfl : k = 25 := by omega
    exact (tt_cheb 24 (by decide)).2
end Go.Proofs.YtbcamhfoemnmgaaGreat
