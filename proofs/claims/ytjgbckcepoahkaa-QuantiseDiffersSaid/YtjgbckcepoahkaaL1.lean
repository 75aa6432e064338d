/- Lists of candidates, in plain. -/
import Derived.Test.YtjgbckcepoahkaaA3
namespace Go.Proofs.Ytjgbckcepoahkaa
open Go.RowKit Go.Front
def srch (x : Wd) (k : Int) : List (List Int) → Int → Int × Option (List Int)
  | [], t => (t, none)
  | c :: cs, t => if fitsAll x c = true then (if (t == k) = true then (t + 1, some c) else srch x k cs (t + 1)) else srch x k cs t
theorem srch_no {x : Wd} {k t : Int} {c : List Int} {cs : List (List Int)} (h : fitsAll x c = false) : srch x k (c :: cs) t = srch x k cs t := by
  rw [srch, if_neg (by rw [h]; exact Bool.false_ne_true)]
theorem srch_go {x : Wd} {k t : Int} {c : List Int} {cs : List (List Int)} (h : fitsAll x c = true) (h2 : (t == k) = false) : srch x k (c :: cs) t = srch x k cs (t + 1) := by
  rw [srch, if_pos h, if_neg (by rw [h2]; exact Bool.false_ne_true)]
theorem srch_yes {x : Wd} {k t : Int} {c : List Int} {cs : List (List Int)} (h : fitsAll x c = true) (h2 : (t == k) = true) : srch x k (c :: cs) t = (t + 1, some c) := by
  rw [srch, if_pos h, if_pos h2]
/-- The next number, whatever the list. -/
def nxt (x : Wd) (c : List Int) (t : Int) : Int := if fitsAll x c then t + 1 else t
theorem srch_next {x : Wd} {k t : Int} {c : List Int} {cs : List (List Int)} (h : (fitsAll x c && t == k) = false) : srch x k (c :: cs) t = srch x k cs (nxt x c t) := by
  unfold nxt
  cases hf : fitsAll x c with
  | false => rw [srch_no hf]; rfl
  | true => rw [hf] at h; rw [srch_go hf (by simpa using h)]; rfl
theorem nxt_bd (x : Wd) (c : List Int) (t : Int) : t ≤ nxt x c t ∧ nxt x c t ≤ t + 1 := by unfold nxt; split <;> omega

/-- What the state of the search is when a list has been gone through. -/
def Out (r : Int × Option (List Int)) (t' : Int) (fd' : Bool) (ls' : List Int) : Prop := t' = r.1 ∧ match r.2 with | none => fd' = false | some c => fd' = true ∧ ls' = c

def chg (base : List Int) (i : Nat) (d : Int) : List Int := base.set i (wrap64 (base.getD i 0 + d))
def chg2 (base : List Int) (i j c : Nat) : List Int := (base.set i (wrap64 (wrap64 (base.getD i 0 + 1) - 2 * (c / 2 : Nat)))).set j (wrap64 (wrap64 (base.getD j 0 + 1) - 2 * (c % 2 : Nat)))
def quad (base : List Int) (i j : Nat) : Nat → Nat → List (List Int)
  | 0, _ => []
  | f + 1, c => chg2 base i j c :: quad base i j f (c + 1)
def pairsJ (base : List Int) (i : Nat) : Nat → Nat → List (List Int)
  | 0, _ => []
  | f + 1, j => quad base i j 4 0 ++ pairsJ base i f (j + 1)
def pairsI (base : List Int) : Nat → Nat → List (List Int)
  | 0, _ => []
  | f + 1, i => pairsJ base i (base.length - (i + 1)) (i + 1) ++ pairsI base f (i + 1)
def singles (base : List Int) : Nat → Nat → List (List Int)
  | 0, _ => []
  | f + 1, i => chg base i 1 :: chg base i (-1) :: singles base f (i + 1)
def cands (base : List Int) : List (List Int) := base :: (singles base base.length 0 ++ pairsI base base.length 0)
theorem quad_len (base : List Int) (i j : Nat) : ∀ f c, (quad base i j f c).length = f
  | 0, _ => rfl
  | f + 1, c => by simp [quad, quad_len base i j f]
theorem pairsJ_len (base : List Int) (i : Nat) : ∀ f j, (pairsJ base i f j).length = 4 * f
  | 0, _ => rfl
  | f + 1, j => by simp [pairsJ, pairsJ_len base i f, quad_len]; omega
theorem pairsI_len (base : List Int) (M : Nat) (hM : base.length ≤ M) : ∀ f i, (pairsI base f i).length ≤ 4 * M * f
  | 0, _ => by simp [pairsI]
  | f + 1, i => by
    have := pairsI_len base M hM f (i + 1)
    simp only [pairsI, List.length_append, pairsJ_len]
    have : 4 * M * (f + 1) = 4 * M * f + 4 * M := by rw [Nat.mul_add, Nat.mul_one]
    omega
theorem singles_len (base : List Int) : ∀ f i, (singles base f i).length = 2 * f
  | 0, _ => rfl
  | f + 1, i => by simp [singles, singles_len base f]; omega
theorem pairs_bd {base : List Int} (h : base.length ≤ 49) : (pairsI base base.length 0).length ≤ 9604 := by
  have := pairsI_len base 49 h base.length 0
  omega

/-- The block of the list that is changed in place. -/
def LB (w : World) (L : Nat) (ls : List Int) (rest : Array Value) : Prop := w.heap[L]? = some (.cells ((ls.map (Value.int .i64)).toArray ++ rest) 3 (0, 0))
theorem LB.ints {w : World} {L : Nat} {ls : List Int} {rest : Array Value} (h : LB w L ls rest) : IntsAt w (some ⟨L, 0, none⟩) ls := by
  refine Or.inr ⟨L, 0, rfl, fun k hk => ?_⟩
  rw [blk_cell h, Nat.zero_add]
  have hk' : k < (ls.map (Value.int .i64)).length := by simpa using hk
  rw [Array.getElem?_append_left (by simpa using hk)]
  simp [hk]
theorem LB.cell {w : World} {L : Nat} {ls : List Int} {rest : Array Value} (h : LB w L ls rest) {k : Nat} (hk : k < ls.length) : w.cell? ⟨L, k, none⟩ = some (.int .i64 (ls.getD k 0)) := by
  rcases h.ints with h | ⟨b, off, h1, h2⟩
  · subst h; simp at hk
  · obtain ⟨rfl, rfl⟩ : L = b ∧ 0 = off := by simpa using h1
    simpa using h2 k hk
theorem LB.set {w : World} {L : Nat} {ls : List Int} {rest : Array Value} (h : LB w L ls rest) {k : Nat} (hk : k < ls.length) (n : Int) : LB (w.setCell ⟨L, k, none⟩ (.int .i64 n)) L (ls.set k n) rest := by
  have := blk_set h k (.int .i64 n)
  unfold LB
  rw [this]
  congr 2
  apply Array.ext'
  simp only [Array.setIfInBounds, Array.toList_append, List.map_set]
  simp [hk]
  rw [if_pos (by omega)]; simp
end Go.Proofs.Ytjgbckcepoahkaa
