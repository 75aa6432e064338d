/- Memory: what stays, slices of integers. -/
import Derived.Test.YtjgbckcepoahkaaFront
import Derived.Lib.Hide
import Derived.Deep.LoopGhost
namespace Go.Front
open Go Go.RowKit

/-- Of the blocks of w only those in S may have changed. -/
structure Mods (S : Nat → Prop) (w w' : World) : Prop where
  os : w'.os = w.os
  tape : w'.tape = w.tape
  output : w'.output = w.output
  size : w.heap.size ≤ w'.heap.size
  block : ∀ k, k < w.heap.size → ¬ S k → w'.heap[k]? = w.heap[k]?
theorem Mods.refl (S : Nat → Prop) (w : World) : Mods S w w := ⟨rfl, rfl, rfl, Nat.le_refl _, fun _ _ _ => rfl⟩
theorem Mods.trans {S : Nat → Prop} {a b c : World} (h : Mods S a b) (k : Mods S b c) : Mods S a c :=
  ⟨k.os.trans h.os, k.tape.trans h.tape, k.output.trans h.output, Nat.le_trans h.size k.size, fun i hi hs => (k.block i (Nat.lt_of_lt_of_le hi h.size) hs).trans (h.block i hi hs)⟩
theorem Mods.mono {S S' : Nat → Prop} {a b : World} (h : Mods S a b) (hs : ∀ k, S k → S' k) : Mods S' a b :=
  ⟨h.os, h.tape, h.output, h.size, fun i hi hn => h.block i hi (fun hk => hn (hs i hk))⟩
theorem Mods.of_ext {S : Nat → Prop} {a b : World} (h : Ext a b) : Mods S a b := ⟨h.os, h.tape, h.output, Below.size h, fun i hi _ => Below.block h i hi⟩
theorem Mods.ext {a b : World} (h : Mods (fun _ => False) a b) : Ext a b := ⟨h.os, h.tape, h.output, h.size, fun i hi => h.block i hi (fun hf => hf)⟩
theorem Mods.below {S : Nat → Prop} {a b : World} {N : Nat} (h : Mods S a b) (hN : N ≤ a.heap.size) (hs : ∀ k, S k → N ≤ k) : Below N a b :=
  ⟨h.os, h.tape, h.output, h.size, fun i hi => h.block i (by omega) (fun hk => by have := hs i hk; omega)⟩
theorem Mods.setCell (w : World) (p : Addr) (v : Value) : Mods (fun k => k = p.block) w (w.setCell p v) :=
  ⟨rfl, rfl, rfl, by simp [World.setCell], fun k _ hk => Below.heap_setCell _ _ _ _ hk⟩
theorem Mods.cell {S : Nat → Prop} {w w' : World} (h : Mods S w w') {p : Addr} {v : Value} (hs : ¬ S p.block) (hv : w.cell? p = some v) : w'.cell? p = some v := by
  have hlt : p.block < w.heap.size := by
    unfold World.cell? at hv
    cases hb : w.heap[p.block]? with
    | none => rw [hb] at hv; cases hv
    | some o => exact (Array.getElem?_eq_some_iff.1 hb).1
  rw [World.cell?_of_block (w := w) (h.block p.block hlt hs)]; exact hv
theorem Mods.blk {S : Nat → Prop} {w w' : World} (h : Mods S w w') {b : Nat} {o : Obj} (hs : ¬ S b) (hv : w.heap[b]? = some o) : w'.heap[b]? = some o := by
  rw [h.block b (Array.getElem?_eq_some_iff.1 hv).1 hs]; exact hv

/-- The slice at ao has the integers xs. -/
def IntsAt (w : World) (ao : Option Addr) (xs : List Int) : Prop :=
  xs = [] ∨ ∃ b off, ao = some ⟨b, off, none⟩ ∧ ∀ k, k < xs.length → w.cell? ⟨b, off + k, none⟩ = some (.int .i64 (xs.getD k 0))
theorem IntsAt.ext {w w' : World} {ao : Option Addr} {xs : List Int} (h : IntsAt w ao xs) (he : Ext w w') : IntsAt w' ao xs := by
  rcases h with h | ⟨b, off, h1, h2⟩
  · exact Or.inl h
  · exact Or.inr ⟨b, off, h1, fun k hk => he.cell (h2 k hk)⟩

theorem IntsAt.at {w : World} {ao : Option Addr} {xs : List Int} (h : IntsAt w ao xs) {k : Nat} (hk : k < xs.length) : ∃ b off, ao = some ⟨b, off, none⟩ ∧ w.cell? ⟨b, off + k, none⟩ = some (.int .i64 (xs.getD k 0)) := by
  rcases h with rfl | ⟨b, off, h1, h2⟩
  · simp at hk
  · exact ⟨b, off, h1, h2 k hk⟩
theorem blk_cell {w : World} {B : Nat} {cs : Array Value} {T : TypeId} {fz : Nat × Nat} (h : w.heap[B]? = some (.cells cs T fz)) (i : Nat) : w.cell? ⟨B, i, none⟩ = cs[i]? := by
  simp [World.cell?, h]
theorem blk_frozen {w : World} {B : Nat} {cs : Array Value} {T : TypeId} (h : w.heap[B]? = some (.cells cs T (0, 0))) (i : Nat) : w.frozen? ⟨B, i, none⟩ = false := by
  simp [World.frozen?, h]
theorem blk_set {w : World} {B : Nat} {cs : Array Value} {T : TypeId} {fz : Nat × Nat} (h : w.heap[B]? = some (.cells cs T fz)) (i : Nat) (v : Value) :
    (w.setCell ⟨B, i, none⟩ v).heap[B]? = some (.cells (cs.setIfInBounds i v) T fz) := by
  have hlt : B < w.heap.size := (Array.getElem?_eq_some_iff.1 h).1
  simp only [World.setCell, Array.getElem?_modify]
  rw [if_pos trivial, h]; rfl
theorem IntsAt.lt {w : World} {ao : Option Addr} {xs : List Int} (h : IntsAt w ao xs) (hne : xs ≠ []) : ∀ p, ao = some p → p.block < w.heap.size := by
  rcases h with h | ⟨b, off, rfl, hc⟩
  · exact absurd h hne
  · intro p hp
    obtain rfl : ⟨b, off, none⟩ = p := by simpa using hp
    have := hc 0 (List.length_pos_iff.2 hne)
    exact World.block_lt_of_cell? w _ this
theorem cell_new1 (w : World) (cs : Array Value) (T : TypeId) (i : Nat) : (w.alloc (.cells cs T)).cell? ⟨w.heap.size, i, none⟩ = cs[i]? := blk_cell (heap_alloc_new w _) i
theorem cell_new2 (w : World) (A : Obj) (cs : Array Value) (T : TypeId) (i : Nat) : ((w.alloc A).alloc (.cells cs T)).cell? ⟨w.heap.size + 1, i, none⟩ = cs[i]? := by
  have h := heap_alloc_new (w.alloc A) (.cells cs T)
  rw [show (w.alloc A).heap.size = w.heap.size + 1 by simp] at h
  exact blk_cell h i
/-- Below a block of one's own, and what was there before it. -/
theorem Ext.of_below {w w1 w2 : World} {N : Nat} (h1 : Ext w w1) (h : Below N w1 w2) (hN : w.heap.size ≤ N) : Ext w w2 :=
  ⟨h.os.trans h1.os, h.tape.trans h1.tape, h.output.trans h1.output, Nat.le_trans h1.size h.size, fun k hk => (h.block k (by omega)).trans (Below.block h1 k hk)⟩
end Go.Front
