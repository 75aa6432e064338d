/- Chb1, Chb2, Chb3, Chb4, ChbP -/
import Derived.Test.YteafdebcihbjdaaGreatM11
import Derived.Test.YteafdebcihbjdaaGreatM10
set_option linter.unusedVariables false
/- neighbour of package chebyshev. -/
namespace Go.Proofs.YteafdebcihbjdaaGreat
open Go.RowKit Go.Front Go.Num
attribute [local go_sem] XW.cell XW.frozen
theorem Does.weak {f : FuncId} {args : List Value} {w : World} {α : Type} {mk : α → Value} {φ ψ : α → World → Prop} (h : Does f args w mk φ) (hi : ∀ x w', Ext w w' → φ x w' → ψ x w') : Does f args w mk ψ := by
  refine Calls.mono h ?_
  rintro e w' ⟨x, rfl, h1, h2⟩
  exact ⟨x, rfl, h1, hi x w' h1 h2⟩
/-- The first elements of a row are canonical. -/
def PreC (w : World) (rs : List RH) (ts : List Rat) : Prop := ∀ j, j < ts.length → CanR w (rs.getD j default) (ts.getD j 0)
theorem PreC.ext {w w' : World} {rs : List RH} {ts : List Rat} (h : PreC w rs ts) (he : Ext w w') : PreC w' rs ts := fun j hj => (h j hj).ext he
theorem PreC.keep {w w' : World} {rs : List RH} {ts : List Rat} (h : PreC w rs ts) (he : Keep w w') : PreC w' rs ts := fun j hj => (h j hj).keep he
theorem getD_set_self {rs : List RH} {i : Nat} {x : RH} (h : i < rs.length) : (rs.set i x).getD i default = x := by simp [h]
theorem getD_set_other {rs : List RH} {i j : Nat} {x : RH} (h : i ≠ j) : (rs.set i x).getD j default = rs.getD j default := by
  rw [List.getD_eq_getElem?_getD, List.getD_eq_getElem?_getD, List.getElem?_set_ne h]
theorem PreC.snoc {w : World} {rs : List RH} {ts : List Rat} (h : PreC w rs ts) {x : RH} {q : Rat} {i : Nat} (hl : ts.length = i) (hi : i < rs.length) (hx : CanR w x q) : PreC w (rs.set i x) (ts ++ [q]) := by
  intro j hj
  by_cases hji : j < ts.length
  · rw [getD_set_other (by omega), show (ts ++ [q]).getD j 0 = ts.getD j 0 by rw [List.getD_eq_getElem?_getD, List.getElem?_append_left hji, ← List.getD_eq_getElem?_getD]]
    exact h j hji
  · obtain rfl : j = ts.length := by simp at hj; omega
    subst hl
    rw [getD_set_self hi, show (ts ++ [q]).getD ts.length 0 = q by simp]
    exact hx
theorem PreC.list {w : World} {L M : Nat} {rs : List RH} {ts : List Rat} {B : Nat} (h : PreC w rs ts) (hb : RBk w L rs #[]) (hl : rs.length = M) (ht : ts.length = M) (hB : B ≤ L) (hM : M ≤ 9223372036854775807) : NewL B w ⟨some ⟨L, 0, none⟩, M, M⟩ ts :=
  ⟨rs, hb.rs hl (Nat.le_refl _) hM, ⟨by omega, h⟩, Or.inr ⟨L, 0, rfl, hB, hb.lt⟩⟩
/-- The element i of 2 x p - q. -/
def nbE (ps qs : List Rat) (i : Nat) : Rat := (if 0 < i ∧ i ≤ ps.length then ps.getD (i - 1) 0 + ps.getD (i - 1) 0 else 0) - (if i < qs.length then qs.getD i 0 else 0)
def nbV (ps qs : List Rat) : List Rat := tz ((List.range (max (ps.length + 1) qs.length)).map (nbE ps qs))
theorem max2 (x y : Int) (M : Int) (hM : M = max x y) : ∀ (P : Program) (ts : Array TypeId) (t : TypeId) (w : World), (Builtin.max_ ts t #[.int .i64 x, .int .i64 y]).run P w = .ok (.int .i64 M) w := by
  intro P ts t w
  subst hM
  simp [Builtin.max_, Builtin.max2]
  omega
end Go.Proofs.YteafdebcihbjdaaGreat
/- pair and T of package chebyshev. -/
namespace Go.Proofs.YteafdebcihbjdaaGreat
open Go.RowKit Go.Front Go.Num
attribute [local go_sem] XW.cell XW.frozen
/-- T_n and T_(n-1), as the code makes them. -/
def chP : Nat → List Rat × List Rat
  | 0 => ([((1 : Int) : Rat)], [((0 : Int) : Rat), ((1 : Int) : Rat)])
  | n + 1 => (nbV (chP n).1 (chP n).2, (chP n).1)
theorem CanL.new {w : World} {N n c B : Nat} {qs : List Rat} (h : CanL w ⟨some ⟨N, 0, none⟩, n, c⟩ qs) (hB : B ≤ N) (hN : N < w.heap.size) : NewL B w ⟨some ⟨N, 0, none⟩, n, c⟩ qs := let ⟨rs, h1, h2⟩ := h; ⟨rs, h1, h2, Or.inr ⟨N, 0, rfl, hB, hN⟩⟩
def PF (x : SH × SH) : Value := .tuple #[x.1.v, x.2.v]
theorem nbV_len (ps qs : List Rat) : (nbV ps qs).length ≤ max (ps.length + 1) qs.length := by
  unfold nbV
  refine Nat.le_trans (tz_len_le _) ?_
  simp
theorem chP_len (n : Nat) : (chP n).1.length ≤ n + 2 ∧ (chP n).2.length ≤ n + 2 := by
  induction n with
  | zero => exact ⟨by decide, by decide⟩
  | succ n ih =>
    have := nbV_len (chP n).1 (chP n).2
    exact ⟨by show (nbV _ _).length ≤ _; omega, by show (chP n).1.length ≤ _; omega⟩
/-- Sizes: whole numbers of few digits. -/
def IntL (b : Nat) (l : List Rat) : Prop := ∀ q ∈ l, q.den = 1 ∧ q.num.natAbs ≤ b
theorem IntL.getD {b : Nat} {l : List Rat} (h : IntL b l) (i : Nat) : (l.getD i 0).den = 1 ∧ (l.getD i 0).num.natAbs ≤ b := by
  rcases Nat.lt_or_ge i l.length with hi | hi
  · exact h _ (getD_mem' hi)
  · rw [getD_over' hi]; exact ⟨rfl, Nat.zero_le _⟩
theorem whole_eq {q : Rat} (h : q.den = 1) : q = (q.num : Rat) := by
  apply Rat.ext
  · rw [Rat.num_intCast]
  · rw [h, Rat.den_intCast]
theorem IntL.nb {b : Nat} {ps qs : List Rat} (h1 : IntL b ps) (h2 : IntL b qs) : IntL (3 * b) (nbV ps qs) := by
  unfold nbV
  rw [tz_prefix]
  intro q hq
  obtain ⟨i, -, rfl⟩ := List.mem_map.1 (List.mem_of_mem_take hq)
  unfold nbE
  have hp := h1.getD (i - 1)
  have hq := h2.getD i
  have e1 := whole_eq hp.1
  have e2 := whole_eq hq.1
  rw [e1, e2]
  generalize (ps.getD (i - 1) 0).num = x at *
  generalize (qs.getD i 0).num = y at *
  split <;> split
  · rw [← Rat.intCast_add, ← Rat.intCast_sub]
    exact ⟨Rat.den_intCast _, by rw [Rat.num_intCast]; omega⟩
  · rw [← Rat.intCast_add, show ((x + x : Int) : Rat) - 0 = ((x + x : Int) : Rat) by grind]
    exact ⟨Rat.den_intCast _, by rw [Rat.num_intCast]; omega⟩
  · rw [show (0 : Rat) - (y : Rat) = ((-y : Int) : Rat) by rw [Rat.intCast_neg]; grind]
    exact ⟨Rat.den_intCast _, by rw [Rat.num_intCast]; omega⟩
  · rw [show (0 : Rat) - 0 = 0 by grind]; exact ⟨rfl, Nat.zero_le _⟩
theorem IntL.mono {b c : Nat} {l : List Rat} (h : IntL b l) (hb : b ≤ c) : IntL c l := fun q hq => ⟨(h q hq).1, Nat.le_trans (h q hq).2 hb⟩
theorem chP_int (n : Nat) : IntL (3 ^ n) (chP n).1 ∧ IntL (3 ^ n) (chP n).2 := by
  induction n with
  | zero =>
    constructor
    · intro q hq
      obtain rfl : q = ((1 : Int) : Rat) := by simpa [chP] using hq
      exact ⟨rfl, by decide⟩
    · intro q hq
      have : q = ((0 : Int) : Rat) ∨ q = ((1 : Int) : Rat) := by simpa [chP] using hq
      rcases this with rfl | rfl
      · exact ⟨rfl, by decide⟩
      · exact ⟨rfl, by decide⟩
  | succ n ih =>
    rw [Nat.pow_succ, Nat.mul_comm]
    exact ⟨ih.1.nb ih.2, ih.1.mono (by omega)⟩
theorem IntL.sz {b k : Nat} {l : List Rat} (h : IntL b l) (hb : b < W32 ^ k) (hk : 1 ≤ k) : SzL k l := fun q hq =>
  ⟨Nat.lt_of_le_of_lt (h q hq).2 hb, by rw [(h q hq).1]; have := W32_pow_ge hk; omega⟩
theorem chP_sz {n : Nat} (hn : n ≤ 60) : SzL 4 (chP n).1 ∧ SzL 4 (chP n).2 := by
  have h := chP_int n
  have hb : 3 ^ n < W32 ^ 4 := Nat.lt_of_le_of_lt (Nat.pow_le_pow_right (by decide) hn) (by decide)
  exact ⟨h.1.sz hb (by decide), h.2.sz hb (by decide)⟩
def tV (n : Int) : Int × List Rat := if n < 0 ∨ 48 < n then (12, []) else (0, tz (chP n.toNat).1)
end Go.Proofs.YteafdebcihbjdaaGreat
/- common of package chebyshev. -/
namespace Go.Proofs.YteafdebcihbjdaaGreat
open Go.RowKit Go.Front Go.Num
attribute [local go_sem] XW.cell XW.frozen
def comS (m x : Rat) : Rat := m * (((m * x).den : Int) : Rat)
def comV (l : List Rat) : Rat := l.foldl comS 1
theorem comV_snoc (l : List Rat) (x : Rat) : comV (l ++ [x]) = comS (comV l) x := by simp [comV]
def cg (s j : Nat) : Nat := 1 + j * s
theorem cg_mono {s i j : Nat} (h : i ≤ j) : cg s i ≤ cg s j := by
  have := Nat.mul_le_mul_right s h
  unfold cg
  omega
theorem Sz.den {k : Nat} {q : Rat} (h : Sz k q) : Sz k (((q.den : Int)) : Rat) :=
  ⟨by rw [Rat.num_intCast, Int.natAbs_natCast]; exact h.2, by rw [Rat.den_intCast]; have := W32_pow_ge h.one_le; omega⟩
theorem com_nat {s : Nat} {l : List Rat} (h : SzL s l) : ∀ j, j ≤ l.length → ∃ m : Nat, 0 < m ∧ comV (l.take j) = ((m : Int) : Rat) ∧ m < W32 ^ (cg s j) := by
  intro j
  induction j with
  | zero => intro _; exact ⟨1, by decide, rfl, by rw [show cg s 0 = 1 by simp [cg]]; decide⟩
  | succ j ih =>
    intro hj
    obtain ⟨m, hm, e, hl⟩ := ih (by omega)
    have hx := h.at (i := j) (by omega)
    rw [← take_snoc (by omega), comV_snoc]
    unfold comS
    rw [e]
    have hd : (((m : Int) : Rat) * l.getD j 0).den ≤ (l.getD j 0).den := by
      rw [Rat.den_mul, Rat.den_intCast, Nat.one_mul]
      exact Nat.div_le_self _ _
    have hp := (((m : Int) : Rat) * l.getD j 0).den_pos
    refine ⟨m * (((m : Int) : Rat) * l.getD j 0).den, Nat.mul_pos hm hp, by rw [Int.natCast_mul, Rat.intCast_mul], ?_⟩
    have h1 := Nat.lt_of_le_of_lt hd hx.2
    have h2 := Nat.mul_lt_mul_of_lt_of_lt hl h1
    rw [← Nat.pow_add] at h2
    rw [show cg s (j + 1) = cg s j + s by unfold cg; rw [Nat.succ_mul]; omega]
    exact h2
theorem com_sz {s : Nat} {l : List Rat} (h : SzL s l) : ∀ j, j ≤ l.length → Sz (cg s j) (comV (l.take j)) := by
  intro j hj
  obtain ⟨m, hm, e, hl⟩ := com_nat h j hj
  rw [e]
  exact ⟨by rw [Rat.num_intCast, Int.natAbs_natCast]; exact hl, by rw [Rat.den_intCast]; have := W32_pow_ge (k := cg s j) (by unfold cg; omega); omega⟩
/-- The denominator as a number. -/
theorem CanR.den {w : World} {s : RH} {q : Rat} {k : Nat} {b : Option Addr} {m d : Nat} (h : CanR w s q) (hz : Sz k q) (hk : k ≤ 134217728) (h1 : U32 w b m d [1]) (hm : m = 1) : RawR w ⟨false, s.b, s.m, s.d, b, m, d⟩ (((q.den : Int)) : Rat) := by
  refine ⟨_, _, h.2.2, h1, ?_, ?_, by simp only; omega⟩
  · rw [val_digs]
    show _ = mkRat (q.den : Int) (val [1])
    rw [show val [1] = 1 from rfl, Rat.mkRat_one]
  · simp only
    rw [← h.2.2.len]
    exact Nat.le_trans (digs_len hz.2) hk
theorem u32_one_blk {w : World} {N : Nat} {T : TypeId} (h : w.heap[N]? = some (.cells #[.int .u32 1] T (0, 0))) : U32 w (some ⟨N, 0, none⟩) 1 1 [1] := by
  refine ⟨rfl, by decide, by decide, Dig.cons (by decide) Dig.nil, Or.inr ⟨N, 0, rfl, fun k hk => ?_⟩⟩
  obtain rfl : k = 0 := by simp at hk; omega
  rw [blk_cell h]
  rfl
end Go.Proofs.YteafdebcihbjdaaGreat
/- correlation of package chebyshev. -/
namespace Go.Proofs.YteafdebcihbjdaaGreat
open Go.RowKit Go.Front Go.Num
attribute [local go_sem] XW.cell XW.frozen
def corV (b c : List Rat) (k : Nat) : Rat := Stab.sm (min b.length (c.length - k)) (fun i => b.getD i 0 * c.getD (i + k) 0)
theorem min2 (x y : Int) (M : Int) (hM : M = min x y) : ∀ (P : Program) (ts : Array TypeId) (t : TypeId) (w : World), (Builtin.min_ ts t #[.int .i64 x, .int .i64 y]).run P w = .ok (.int .i64 M) w := by
  intro P ts t w
  subst hM
  simp [Builtin.min_, Builtin.min2]
  omega
end Go.Proofs.YteafdebcihbjdaaGreat
/- Plain facts of the Chebyshev basis. -/
namespace Go.Proofs.YteafdebcihbjdaaGreat
open Go.RowKit Go.Front Go.Num
theorem range_getD (n i : Nat) (f : Nat → Rat) : ((List.range n).map f).getD i 0 = if i < n then f i else 0 := by
  by_cases h : i < n
  · rw [if_pos h]; simp [h]
  · rw [if_neg h]; simp [show n ≤ i by omega]
theorem tz_ext {a b : List Rat} (h : ∀ i, a.getD i 0 = b.getD i 0) : tz a = tz b := by
  have hl : ∀ a b : List Rat, (∀ i, a.getD i 0 = b.getD i 0) → (tz a).length ≤ (tz b).length := by
    intro a b h
    rcases Nat.lt_or_ge (tz b).length (tz a).length with h1 | h1
    · exfalso
      obtain ⟨n, hn⟩ : ∃ n, (tz a).length = n + 1 := ⟨(tz a).length - 1, by omega⟩
      have h2 : (tz a).getD n 0 = 0 := by
        rw [tz_getD (by omega), h n, tz_out (by omega)]
      have h3 := tz_idem a
      have h4 : tz ((tz a).take (n + 1)) = tz ((tz a).take n) := tz_zero (by omega) h2
      rw [← hn, List.take_length, h3] at h4
      have h5 := tz_len_le ((tz a).take n)
      rw [← h4, List.length_take] at h5
      omega
    · exact h1
  apply Stab.getD_ext
  · exact Nat.le_antisymm (hl a b h) (hl b a (fun i => (h i).symm))
  · intro i _
    rw [tz_getD', tz_getD', h]
theorem tz_len_of {l : List Rat} {n : Nat} (h1 : l.getD n 0 ≠ 0) (h2 : ∀ i, n < i → l.getD i 0 = 0) : (tz l).length = n + 1 := by
  have hle : n < (tz l).length := by
    rcases Nat.lt_or_ge n (tz l).length with h | h
    · exact h
    · exact absurd (tz_out h) h1
  rcases Nat.lt_or_ge (n + 1) (tz l).length with h | h
  · exfalso
    obtain ⟨m, hm⟩ : ∃ m, (tz l).length = m + 1 := ⟨(tz l).length - 1, by omega⟩
    have h3 : (tz l).getD m 0 = 0 := by rw [tz_getD', h2 m (by omega)]
    have h4 : tz ((tz l).take (m + 1)) = tz ((tz l).take m) := tz_zero (by omega) h3
    rw [← hm, List.take_length, tz_idem] at h4
    have h5 := tz_len_le ((tz l).take m)
    rw [← h4, List.length_take] at h5
    omega
  · omega
theorem tz_last {l : List Rat} {n : Nat} (h : (tz l).length = n + 1) : l.getD n 0 ≠ 0 := by
  intro h0
  have h3 : (tz l).getD n 0 = 0 := by rw [tz_getD', h0]
  have h4 : tz ((tz l).take (n + 1)) = tz ((tz l).take n) := tz_zero (by omega) h3
  rw [← h, List.take_length, tz_idem] at h4
  have h5 := tz_len_le ((tz l).take n)
  rw [← h4, List.length_take] at h5
  omega
theorem nb_getD (ps qs : List Rat) (i : Nat) : (nbV ps qs).getD i 0 = (if 0 < i then 2 * ps.getD (i - 1) 0 else 0) - qs.getD i 0 := by
  unfold nbV
  rw [tz_getD', range_getD]
  unfold nbE
  have h1 : ps.length < i → ps.getD (i - 1) 0 = 0 := fun h => getD_over' (by omega)
  have h2 : qs.length ≤ i → qs.getD i 0 = 0 := fun h => getD_over' h
  split
  · congr 1
    · split
      · rw [if_pos (by omega)]; grind
      · split
        · rw [h1 (by omega)]; grind
        · rfl
    · split
      · rfl
      · rw [h2 (by omega)]
  · rw [h2 (by omega), if_pos (by omega), h1 (by omega)]
    grind
/-- The coefficient i of T_k. -/
def Tf (k i : Nat) : Rat := (chP k).1.getD i 0
theorem chB_succ (n : Nat) : (chP (n + 1)).2 = (chP n).1 := rfl
theorem Tf_zero (i : Nat) : Tf 0 i = if i = 0 then 1 else 0 := by
  unfold Tf chP
  rcases i with _ | i
  · rfl
  · simp
theorem Tf_one (i : Nat) : Tf 1 i = if i = 1 then 1 else 0 := by
  unfold Tf
  show (nbV (chP 0).1 (chP 0).2).getD i 0 = _
  rw [nb_getD]
  unfold chP
  rcases i with _ | _ | i
  · decide +kernel
  · decide +kernel
  · simp; grind
theorem Tf_next (n i : Nat) : Tf (n + 2) i = (if 0 < i then 2 * Tf (n + 1) (i - 1) else 0) - Tf n i := by
  unfold Tf
  show (nbV (chP (n + 1)).1 (chP (n + 1)).2).getD i 0 = _
  rw [nb_getD, chB_succ]
theorem Tf_over (n : Nat) : (∀ i, n < i → Tf n i = 0) ∧ ∀ i, n + 1 < i → Tf (n + 1) i = 0 := by
  induction n with
  | zero => exact ⟨fun i h => by rw [Tf_zero, if_neg (by omega)], fun i h => by rw [Tf_one, if_neg (by omega)]⟩
  | succ n ih =>
    refine ⟨ih.2, fun i h => ?_⟩
    rw [Tf_next, if_pos (by omega), ih.2 _ (by omega), ih.1 _ (by omega)]
    grind
theorem Tf_lead (n : Nat) : 0 < Tf n n ∧ 0 < Tf (n + 1) (n + 1) := by
  induction n with
  | zero => exact ⟨by decide +kernel, by decide +kernel⟩
  | succ n ih =>
    refine ⟨ih.2, ?_⟩
    rw [Tf_next, if_pos (by omega), (Tf_over n).1 _ (by omega), show n + 1 + 1 - 1 = n + 1 by omega]
    have := ih.2
    grind
theorem chA_tz (n : Nat) : tz (chP n).1 = (chP n).1 := by
  cases n with
  | zero => decide +kernel
  | succ n => exact tz_idem _
theorem chA_len (n : Nat) : (chP n).1.length = n + 1 := by
  rw [← chA_tz n]
  exact tz_len_of (fun h => absurd (Tf_lead n).1 (by rw [show Tf n n = 0 from h]; exact Rat.lt_irrefl)) (Tf_over n).1
/-- One step back. -/
theorem ch_back (n : Nat) : nbV (chP (n + 1)).2 (chP (n + 1)).1 = (chP n).2 := by
  have e : tz (chP n).2 = (chP n).2 := by
    cases n with
    | zero => decide +kernel
    | succ n => exact chA_tz n
  rw [← e]
  have e2 : nbV (chP (n + 1)).2 (chP (n + 1)).1 = tz (nbV (chP (n + 1)).2 (chP (n + 1)).1) := (tz_idem _).symm
  rw [e2]
  apply tz_ext
  intro i
  rw [nb_getD, chB_succ]
  show _ - (nbV (chP n).1 (chP n).2).getD i 0 = _
  rw [nb_getD]
  grind
/-- The sum of c_k T_k. -/
def fbS (c : List Rat) (i : Nat) : Rat := Stab.sm c.length (fun k => c.getD k 0 * Tf k i)
def fbV (c : List Rat) : List Rat := tz ((List.range c.length).map (fbS c))
theorem fbS_over {c : List Rat} {i : Nat} (h : c.length ≤ i) : fbS c i = 0 := by
  unfold fbS
  rw [Stab.sm_congr (g := fun _ => 0) (fun k hk => by rw [(Tf_over k).1 i (by omega)]; grind), Stab.sm_zero]
theorem fbV_getD (c : List Rat) (i : Nat) : (fbV c).getD i 0 = fbS c i := by
  unfold fbV
  rw [tz_getD', range_getD]
  split
  · rfl
  · rw [fbS_over (by omega)]
/-- The coefficients in the basis: from the last one down. -/
def tbStep (r : List Rat) (n : Nat) : List Rat := (List.range n).map (fun k => r.getD k 0 - r.getD n 0 / Tf n n * Tf n k)
def tbV : Nat → List Rat → List Rat
  | 0, _ => []
  | n + 1, r => tbV n (tbStep r n) ++ [r.getD n 0 / Tf n n]
theorem tbV_len (n : Nat) (r : List Rat) : (tbV n r).length = n := by
  induction n generalizing r with
  | zero => rfl
  | succ n ih => simp [tbV, ih]
theorem Tf_ne (n : Nat) : Tf n n ≠ 0 := fun h => absurd (Tf_lead n).1 (by rw [h]; exact Rat.lt_irrefl)
theorem fbS_snoc (c : List Rat) (x : Rat) (i : Nat) : fbS (c ++ [x]) i = fbS c i + x * Tf c.length i := by
  unfold fbS
  rw [List.length_append, List.length_singleton]
  show Stab.sm c.length _ + _ = _
  congr 1
  · exact Stab.sm_congr (fun k hk => by rw [Stab.getD_app hk])
  · show (c ++ [x]).getD c.length 0 * Tf c.length i = _
    rw [Stab.getD_appr (Nat.le_refl _), Nat.sub_self]; rfl
theorem div_mul_self {a b : Rat} (h : b ≠ 0) : a / b * b = a := Rat.div_mul_cancel h
/-- ToBasis, then FromBasis. -/
theorem fb_tb (n : Nat) (r : List Rat) (i : Nat) (hi : i < n) : fbS (tbV n r) i = r.getD i 0 := by
  induction n generalizing r with
  | zero => omega
  | succ n ih =>
    show fbS (tbV n (tbStep r n) ++ [_]) i = _
    rw [fbS_snoc, tbV_len]
    by_cases h : i < n
    · rw [ih _ h]
      unfold tbStep
      rw [range_getD, if_pos h]
      grind
    · obtain rfl : i = n := by omega
      rw [fbS_over (by rw [tbV_len]; exact Nat.le_refl _), div_mul_self (Tf_ne i)]
      grind
theorem fbV_tbV {p : List Rat} (h : tz p = p) : fbV (tbV p.length p) = p := by
  rw [← h]
  conv => lhs; rw [h]
  unfold fbV
  apply tz_ext
  intro i
  rw [range_getD, tbV_len]
  split
  · exact fb_tb _ _ _ (by assumption)
  · rw [getD_over' (by omega)]
/-- The coefficients are unique. -/
theorem fb_inj (n : Nat) (c d : List Rat) (hc : c.length = n) (hd : d.length = n) (h : ∀ i, i < n → fbS c i = fbS d i) : c = d := by
  induction n generalizing c d with
  | zero => rw [List.length_eq_zero_iff.1 hc, List.length_eq_zero_iff.1 hd]
  | succ n ih =>
    have hs : ∀ l : List Rat, l.length = n + 1 → ∃ a x, l = a ++ [x] ∧ a.length = n := fun l hl => ⟨l.dropLast, l.getLast (by intro e; rw [e] at hl; cases hl), (List.dropLast_concat_getLast _).symm, by simp [hl]⟩
    obtain ⟨a, x, rfl, ha⟩ := hs c hc
    obtain ⟨b, y, rfl, hb⟩ := hs d hd
    have hn := h n (by omega)
    rw [fbS_snoc, fbS_snoc, fbS_over (by omega), fbS_over (by omega), ha, hb] at hn
    have hxy : x = y := by
      have h1 : (x - y) * Tf n n = 0 := by grind
      rcases Rat.mul_eq_zero.1 h1 with h2 | h2
      · grind
      · exact absurd h2 (Tf_ne n)
    subst hxy
    rw [ih a b ha hb (fun i hi => by have := h i (by omega); rw [fbS_snoc, fbS_snoc, ha, hb] at this; grind)]
theorem fbV_len {c : List Rat} (h : tz c = c) : (fbV c).length = c.length := by
  rcases Nat.eq_zero_or_pos c.length with h0 | h0
  · unfold fbV; rw [h0]; rfl
  · obtain ⟨n, hn⟩ : ∃ n, c.length = n + 1 := ⟨c.length - 1, by omega⟩
    rw [hn]
    unfold fbV
    apply tz_len_of
    · rw [range_getD, if_pos (by omega)]
      have hl : c.getD n 0 ≠ 0 := tz_last (by rw [h]; exact hn)
      unfold fbS
      rw [hn]
      show Stab.sm n _ + _ ≠ 0
      rw [Stab.sm_congr (g := fun _ => 0) (fun k hk => by rw [(Tf_over k).1 n hk]; grind), Stab.sm_zero]
      intro h1
      have h2 : c.getD n 0 * Tf n n = 0 := by grind
      rcases Rat.mul_eq_zero.1 h2 with h3 | h3
      · exact hl h3
      · exact Tf_ne n h3
    · intro i hi
      rw [range_getD, if_neg (by omega)]
theorem tbV_fbV {c : List Rat} (h : tz c = c) : tbV (fbV c).length (fbV c) = c := by
  rw [fbV_len h]
  refine fb_inj c.length _ _ (tbV_len _ _) rfl fun i hi => ?_
  rw [fb_tb _ _ _ hi, fbV_getD]
theorem fbV_tz (c : List Rat) : tz (fbV c) = fbV c := tz_idem _
theorem tbV_tz {p : List Rat} (h : tz p = p) : tz (tbV p.length p) = tbV p.length p := by
  rcases Nat.eq_zero_or_pos p.length with h0 | h0
  · rw [h0]; rfl
  · obtain ⟨n, hn⟩ : ∃ n, p.length = n + 1 := ⟨p.length - 1, by omega⟩
    rw [hn]
    apply tz_snoc
    have hl : p.getD n 0 ≠ 0 := tz_last (by rw [h]; exact hn)
    intro h1
    apply hl
    rw [← div_mul_self (a := p.getD n 0) (Tf_ne n), h1]
    grind
theorem tbStep_mul (r : List Rat) (n : Nat) (s : Rat) : tbStep (r.map (· * s)) n = (tbStep r n).map (· * s) := by
  have e : ∀ k, (r.map (· * s)).getD k 0 = r.getD k 0 * s := by
    intro k
    by_cases h : k < r.length
    · simp [h]
    · rw [getD_over' (by simp; omega), getD_over' (by omega)]; grind
  unfold tbStep
  rw [List.map_map]
  apply List.map_congr_left
  intro k _
  simp only [Function.comp]
  rw [e, e, Rat.div_def, Rat.div_def]
  grind
theorem tbV_mul (n : Nat) (r : List Rat) (s : Rat) : tbV n (r.map (· * s)) = (tbV n r).map (· * s) := by
  induction n generalizing r with
  | zero => rfl
  | succ n ih =>
    have e : (r.map (· * s)).getD n 0 = r.getD n 0 * s := by
      by_cases h : n < r.length
      · simp [h]
      · rw [getD_over' (by simp; omega), getD_over' (by omega)]; grind
    show tbV n (tbStep (r.map (· * s)) n) ++ [_] = (tbV n (tbStep r n) ++ [_]).map _
    rw [tbStep_mul, ih, List.map_append, e, Rat.div_def, Rat.div_def]
    congr 1
    show [_] = [_]
    congr 1
    grind
end Go.Proofs.YteafdebcihbjdaaGreat
