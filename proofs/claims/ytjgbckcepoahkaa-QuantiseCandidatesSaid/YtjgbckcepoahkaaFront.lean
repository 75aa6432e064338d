/- A region that draws its order: its operations before a forced tail, each with a specification of its own, walked once in the order of the text. -/
import Derived.WalkKit
import Derived.StillTail
import Derived.BigQuiet
import Derived.Below
namespace Go.Front
open Go Go.RowKit

/-- w' has all blocks of w as they were, and perhaps more. -/
def Ext (w w' : World) : Prop := Below w.heap.size w w'
theorem Ext.refl (w : World) : Ext w w := Below.refl _ _
theorem Ext.size {w w' : World} (h : Ext w w') : w.heap.size ≤ w'.heap.size := Below.size h
theorem Ext.trans {a b c : World} (h : Ext a b) (k : Ext b c) : Ext a c := Below.trans h (Below.mono k h.size)
theorem Ext.block {w w' : World} (h : Ext w w') {b : Nat} {o : Obj} (hb : w.heap[b]? = some o) : w'.heap[b]? = some o := by
  have hlt : b < w.heap.size := (Array.getElem?_eq_some_iff.1 hb).1
  rw [Below.block h b hlt]; exact hb
theorem Ext.alloc (w : World) (o : Obj) : Ext w (w.alloc o) := (Below.refl _ _).alloc (Nat.le_refl _) _
theorem Ext.drawn (w : World) (n : Nat) : Ext w { w with drawn := n } := ⟨rfl, rfl, rfl, Nat.le_refl _, fun _ _ => rfl⟩
theorem Ext.drew (w : World) : Ext w w.drew := ⟨rfl, rfl, rfl, Nat.le_refl _, fun _ _ => rfl⟩
theorem Ext.drewN (w : World) (n : Nat) : Ext w (w.drewN n) := ⟨rfl, rfl, rfl, Nat.le_refl _, fun _ _ => rfl⟩
theorem Ext.cell {w w' : World} (h : Ext w w') {p : Addr} {v : Value} (hv : w.cell? p = some v) : w'.cell? p = some v := by
  have hlt : p.block < w.heap.size := by
    unfold World.cell? at hv
    cases hb : w.heap[p.block]? with
    | none => rw [hb] at hv; cases hv
    | some o => exact (Array.getElem?_eq_some_iff.1 hb).1
  rw [Below.cell h hlt]; exact hv

/-- A world that extends w0. -/
structure XW (w0 : World) where
  w : World
  h : Ext w0 w
instance (w0 : World) : Nonempty (XW w0) := ⟨⟨w0, Ext.refl _⟩⟩
theorem XW.cell {w0 : World} (x : XW w0) {b o : Nat} (hb : b < w0.heap.size) : x.w.cell? ⟨b, o, none⟩ = w0.cell? ⟨b, o, none⟩ := Below.cell x.h hb
theorem XW.frozen {w0 : World} (x : XW w0) {b o : Nat} (hb : b < w0.heap.size) : x.w.frozen? ⟨b, o, none⟩ = w0.frozen? ⟨b, o, none⟩ := Below.frozen x.h hb
abbrev Cls (w0 : World) : World → Prop := fun w => ∃ x : XW w0, w = x.w
theorem Cls.of {w0 w : World} (h : Ext w0 w) : Cls w0 w := ⟨⟨w, h⟩, rfl⟩

def Since (φ : World → Prop) (w : World) : Prop := ∃ w1, Ext w1 w ∧ φ w1
theorem Since.mono {φ : World → Prop} {w w' : World} (h : Since φ w) (he : Ext w w') : Since φ w' := let ⟨w1, h1, h2⟩ := h; ⟨w1, h1.trans he, h2⟩

inductive Kind where
  | quiet
  | spec (α : Type) (x0 : α) (mk : α → Value) (φ : α → World → Prop)
  | alloc (T : TypeId) (cs : Array Value)

abbrev Fac := Nat → World → Prop
abbrev Own := Nat → Prop
def upd (Γ : Fac) (i : Nat) (p : World → Prop) : Fac := fun k w => if k = i then p w else Γ k w
theorem upd_ne {Γ : Fac} {i k : Nat} {p : World → Prop} (h : k ≠ i) : upd Γ i p k = Γ k := by funext w; simp [upd, h]
theorem upd_same {Γ : Fac} {i : Nat} {p : World → Prop} : upd Γ i p i = p := by funext w; simp [upd]
theorem upd_comm {Γ : Fac} {i j : Nat} {p q : World → Prop} (h : i ≠ j) : upd (upd Γ i p) j q = upd (upd Γ j q) i p := by
  funext k w; unfold upd
  by_cases h1 : k = j
  · subst h1; rw [if_pos rfl, if_neg (Ne.symm h), if_pos rfl]
  · rw [if_neg h1, if_neg h1]
def updO (Γ : Fac) (i : Nat) : Option (World → Prop) → Fac
  | none => Γ
  | some p => upd Γ i p
def insO (B : Own) : Option Nat → Own
  | none => B
  | some b => fun c => c = b ∨ B c
theorem updO_comm {Γ : Fac} {i j : Nat} {p q : Option (World → Prop)} (h : i ≠ j) : updO (updO Γ i p) j q = updO (updO Γ j q) i p := by
  cases p <;> cases q <;> first | rfl | exact upd_comm h
theorem insO_comm {B : Own} {p q : Option Nat} : insO (insO B p) q = insO (insO B q) p := by
  cases p <;> cases q <;> first | rfl | (funext c; simp only [insO, eq_iff_iff]; constructor <;> (rintro (h | h | h) <;> simp [h]))
theorem updO_ne {Γ : Fac} {i k : Nat} {p : Option (World → Prop)} (h : k ≠ i) : updO Γ i p k = Γ k := by cases p <;> first | rfl | exact upd_ne h

def blk (b : Nat) (cs : Array Value) (T : TypeId) (w : World) : Prop := w.heap[b]? = some (.cells cs T (0, 0))
def ptr (b : Nat) : Value := .pointer (some ⟨b, 0, none⟩)

section
variable {P : Program} {ops : Array Oper} {md : Region.Mode} {w0 : World} {kind : Nat → Kind} {dep : Nat → List Nat}

def specUpon (P : Program) {α : Type} (w : World) (mk : α → Value) (φ : α → World → Prop) : Result Next → Prop
  | .ok (.value u) w' => Ext w w' ∧ ∃ x, u = mk x ∧ φ x w'
  | .ok (.enter f args) w' => Ext w w' ∧ Calls P f args w' (fun e w'' => ∃ x, e = .returned (mk x) ∧ Ext w' w'' ∧ φ x w'')
  | _ => False
def specAt (P : Program) (o : Oper) (a : Act) {α : Type} (w : World) (mk : α → Value) (φ : α → World → Prop) : Prop := specUpon P w mk φ ((execOp a.eval o).run P w)
def valOf (P : Program) (o : Oper) (a : Act) (w : World) : Value :=
  match (execOp a.eval o).run P w with
  | .ok (.value v) _ => v
  | _ => undef

/-- What must be shown of operation i (o), wanted, in the frame a, with the facts Γ. -/
def Obl (P : Program) (w0 : World) (kind : Nat → Kind) (dep : Nat → List Nat) (i : Nat) (o : Oper) (a : Act) (Γ : Fac) : Prop :=
  match kind i with
  | .quiet => ∀ w, Ext w0 w → (execOp a.eval o).run P w = .ok (.value (valOf P o a w0)) w
  | .spec _ _ mk φ => ∀ w, Ext w0 w → (∀ k ∈ dep i, Γ k w) → specAt P o a w mk φ
  | .alloc T cs => ∀ w, Ext w0 w → (execOp a.eval o).run P w = .ok (.value (ptr w.heap.size)) (w.alloc (.cells cs T))
def Can (P : Program) (w0 : World) (kind : Nat → Kind) (i : Nat) (o : Oper) (a : Act) (B : Own) (v : Value) (p : Option (World → Prop)) (c : Option Nat) : Prop :=
  match kind i with
  | .quiet => v = valOf P o a w0 ∧ p = none ∧ c = none
  | .spec _ _ mk φ => ∃ x, v = mk x ∧ p = some (Since (φ x)) ∧ c = none
  | .alloc T cs => ∃ b, ¬ B b ∧ w0.heap.size ≤ b ∧ v = ptr b ∧ p = some (blk b cs T) ∧ c = some b
abbrev Cont := Act → Fac → Own → Prop
def fOp (P : Program) (ops : Array Oper) (w0 : World) (kind : Nat → Kind) (dep : Nat → List Nat) (i : Nat) (K : Cont) (a : Act) (Γ : Fac) (B : Own) : Prop :=
  match ops[i]? with
  | none => K a Γ B
  | some o => if Region.wanted o (yielded ops a.tmps) then
      Obl P w0 kind dep i o a Γ ∧ ∀ v p c, Can P w0 kind i o a B v p c → K (a.put o.dst v) (updO Γ i p) (insO B c)
    else K (a.put o.dst undef) Γ B

theorem fOp_mono {i : Nat} {K K' : Cont} {a : Act} {Γ : Fac} {B : Own} (h : ∀ a Γ B, K a Γ B → K' a Γ B) (hh : fOp P ops w0 kind dep i K a Γ B) : fOp P ops w0 kind dep i K' a Γ B := by
  unfold fOp at *
  cases ho : ops[i]? with
  | none => simp only [ho] at *; exact h _ _ _ hh
  | some o =>
    simp only [ho] at *
    by_cases hw : Region.wanted o (yielded ops a.tmps) = true
    · rw [if_pos hw] at hh ⊢; exact ⟨hh.1, fun v p c hc => h _ _ _ (hh.2 v p c hc)⟩
    · rw [if_neg hw] at hh ⊢; exact h _ _ _ hh

def FinB (B : Own) : Prop := ∃ N, ∀ b, B b → b < N
theorem FinB.ins {B : Own} (h : FinB B) (c : Option Nat) : FinB (insO B c) := by
  obtain ⟨N, hN⟩ := h
  cases c with
  | none => exact ⟨N, hN⟩
  | some b => exact ⟨N + b + 1, fun d hd => by rcases hd with hd | hd; · omega
                                               · have := hN d hd; omega⟩
theorem can_some {B : Own} (hB : FinB B) (i : Nat) (o : Oper) (a : Act) : ∃ v p c, Can P w0 kind i o a B v p c := by
  unfold Can
  cases kind i with
  | quiet => exact ⟨_, _, _, rfl, rfl, rfl⟩
  | spec α x0 mk φ => exact ⟨_, _, _, x0, rfl, rfl, rfl⟩
  | alloc T cs =>
    obtain ⟨N, hN⟩ := hB
    exact ⟨_, _, _, N + w0.heap.size, fun h => by have := hN _ h; omega, by omega, rfl, rfl, rfl⟩

theorem obl_congr {i : Nat} {o : Oper} {a a' : Act} {Γ Γ' : Fac} (he : execOp a'.eval o = execOp a.eval o) (hΓ : ∀ k ∈ dep i, Γ' k = Γ k)
    (h : Obl P w0 kind dep i o a Γ) : Obl P w0 kind dep i o a' Γ' := by
  unfold Obl specAt valOf at *
  rw [he]
  cases hk : kind i with
  | quiet => simp only [hk] at *; exact h
  | spec α x0 mk φ => simp only [hk] at *; exact fun w hw hd => h w hw (fun k hk' => by rw [← hΓ k hk']; exact hd k hk')
  | alloc T cs => simp only [hk] at *; exact h

theorem can_congr {i : Nat} {o : Oper} {a a' : Act} {B B' : Own} {v : Value} {p : Option (World → Prop)} {c : Option Nat} (he : execOp a'.eval o = execOp a.eval o)
    (hB : ∀ b, c = some b → ¬ B b → ¬ B' b) (h : Can P w0 kind i o a B v p c) : Can P w0 kind i o a' B' v p c := by
  unfold Can valOf at *
  rw [he]
  cases hk : kind i with
  | quiet => simp only [hk] at *; exact h
  | spec α x0 mk φ => simp only [hk] at *; exact h
  | alloc T cs => simp only [hk] at *; obtain ⟨b, h1, h2, h3, h4, h5⟩ := h; exact ⟨b, hB b h5 h1, h2, h3, h4, h5⟩
theorem can_fresh {i : Nat} {o : Oper} {a : Act} {B : Own} {v : Value} {p : Option (World → Prop)} {c : Option Nat} (h : Can P w0 kind i o a B v p c) : ∀ b, c = some b → ¬ B b := by
  unfold Can at h
  cases hk : kind i with
  | quiet => simp only [hk] at h; obtain ⟨-, -, rfl⟩ := h; intro b hb; cases hb
  | spec α x0 mk φ => simp only [hk] at h; obtain ⟨x, -, -, rfl⟩ := h; intro b hb; cases hb
  | alloc T cs => simp only [hk] at h; obtain ⟨b, h1, h2, h3, h4, rfl⟩ := h; intro d hd; cases hd; exact h1

theorem fOp_fin {i : Nat} {K K' : Cont} {a : Act} {Γ : Fac} {B : Own} (hB : FinB B) (h : ∀ a Γ B, FinB B → K a Γ B → K' a Γ B) (hh : fOp P ops w0 kind dep i K a Γ B) : fOp P ops w0 kind dep i K' a Γ B := by
  unfold fOp at *
  cases ho : ops[i]? with
  | none => simp only [ho] at *; exact h _ _ _ hB hh
  | some o =>
    simp only [ho] at *
    by_cases hw : Region.wanted o (yielded ops a.tmps) = true
    · rw [if_pos hw] at hh ⊢; exact ⟨hh.1, fun v p c hc => h _ _ _ (hB.ins c) (hh.2 v p c hc)⟩
    · rw [if_neg hw] at hh ⊢; exact h _ _ _ hB hh

/-- Two operations that are apart and do not wait for each other may change places. -/
theorem fOp_swap {i j : Nat} {oi oj : Oper} (hi : ops[i]? = some oi) (hj : ops[j]? = some oj) (hij : i ≠ j) (hap : oi.apart ops oj = true)
    (hsi : ∀ cs b, oi.op ≠ .select cs b) (hsj : ∀ cs b, oj.op ≠ .select cs b) (hdi : j ∉ dep i) (hdj : i ∉ dep j) {K : Cont} {a : Act} {Γ : Fac} {B : Own} (hB : FinB B)
    (h : fOp P ops w0 kind dep i (fun a Γ B => fOp P ops w0 kind dep j K a Γ B) a Γ B) : fOp P ops w0 kind dep j (fun a Γ B => fOp P ops w0 kind dep i K a Γ B) a Γ B := by
  obtain ⟨h1, h2, h3⟩ := Oper.apart_spec hap
  have ej : ∀ (a : Act) v, execOp (a.put oi.dst v).eval oj = execOp a.eval oj := fun a v => execOp_put oj hsj a oi.dst v h1
  have ei : ∀ (a : Act) v, execOp (a.put oj.dst v).eval oi = execOp a.eval oi := fun a v => execOp_put oi hsi a oj.dst v h3
  have wj : ∀ (a : Act) v, Region.wanted oj (yielded ops (a.put oi.dst v).tmps) = Region.wanted oj (yielded ops a.tmps) := fun a v => wanted_put oj a oi.dst v h1
  have wi : ∀ (a : Act) v, Region.wanted oi (yielded ops (a.put oj.dst v).tmps) = Region.wanted oi (yielded ops a.tmps) := fun a v => wanted_put oi a oj.dst v h3
  have dj : ∀ (Γ : Fac) p, ∀ k ∈ dep j, updO Γ i p k = Γ k := fun Γ p k hk => updO_ne (fun e => hdj (e ▸ hk))
  have di : ∀ (Γ : Fac) p, ∀ k ∈ dep i, updO Γ j p k = Γ k := fun Γ p k hk => updO_ne (fun e => hdi (e ▸ hk))
  have pc : ∀ (a : Act) v u, (a.put oi.dst v).put oj.dst u = (a.put oj.dst u).put oi.dst v := fun a v u => Act.put_comm a v u h2
  unfold fOp at *
  simp only [hi, hj, wj, wi] at *
  by_cases hwi : Region.wanted oi (yielded ops a.tmps) = true <;> by_cases hwj : Region.wanted oj (yielded ops a.tmps) = true <;> simp only [hwi, hwj, if_true, if_false, Bool.false_eq_true] at h ⊢
  · obtain ⟨ho, hn⟩ := h
    refine ⟨?_, fun v p c hc => ⟨obl_congr (ei a v) (di Γ p) ho, fun u q d hd => ?_⟩⟩
    · obtain ⟨v, p, c, hc⟩ := can_some (P := P) (w0 := w0) (kind := kind) hB i oi a
      exact obl_congr (ej a v).symm (fun k hk => (dj Γ p k hk).symm) (hn v p c hc).1
    · have hd' : Can P w0 kind i oi a B u q d := can_congr (ei a v).symm (fun b _ hb hB' => hb (by cases c <;> first | exact hB' | exact Or.inr hB')) hd
      have hc' : Can P w0 kind j oj (a.put oi.dst u) (insO B d) v p c := can_congr (ej a u) (fun b hb hnb hB' => by
        cases d with
        | none => exact hnb hB'
        | some b' =>
          rcases hB' with hB' | hB'
          · subst hB'; subst hb; exact can_fresh hd b rfl (Or.inl rfl)
          · exact hnb hB') hc
      have := (hn u q d hd').2 v p c hc'
      rw [pc, updO_comm hij, insO_comm] at this
      exact this
  · obtain ⟨ho, hn⟩ := h
    refine ⟨obl_congr (ei a _) (fun _ _ => rfl) ho, fun u q d hd => ?_⟩
    have := hn u q d (can_congr (ei a _).symm (fun _ _ h => h) hd)
    rw [pc] at this
    exact this
  · obtain ⟨ho, hn⟩ := h
    refine ⟨obl_congr (ej a _).symm (fun _ _ => rfl) ho, fun u q d hd => ?_⟩
    have := hn u q d (can_congr (ej a _) (fun _ _ h => h) hd)
    rw [pc] at this
    exact this
  · rw [pc] at h
    exact h

def wpAnyF (P : Program) (md : Region.Mode) (ops : Array Oper) (w0 : World) (kind : Nat → Kind) (dep : Nat → List Nat) (n : Nat) (L : Array Bool → Cont) : Nat → Array Bool → Cont
  | 0, listed => L listed
  | f + 1, listed => fun a Γ B => Region.ready md ops listed ≠ [] ∧ ∀ i ∈ Region.ready md ops listed, i < n ∧ fOp P ops w0 kind dep i (wpAnyF P md ops w0 kind dep n L f (listed.setIfInBounds i true)) a Γ B

structure Inv (w0 : World) (Γ : Fac) (B : Own) (w : World) : Prop where
  ext : Ext w0 w
  facts : ∀ k, Γ k w
  own : ∀ b, B b → b < w.heap.size
  mono : ∀ k w w', Ext w w' → Γ k w → Γ k w'

theorem Inv.step {Γ : Fac} {B : Own} {w w' : World} (h : Inv w0 Γ B w) (he : Ext w w') (i : Nat) (p : World → Prop) (hp : p w') (hm : ∀ w w', Ext w w' → p w → p w') : Inv w0 (upd Γ i p) B w' where
  ext := h.ext.trans he
  facts k := by
    by_cases hk : k = i
    · subst hk; rw [upd_same]; exact hp
    · rw [upd_ne hk]; exact h.mono _ _ _ he (h.facts k)
  own b hb := Nat.lt_of_lt_of_le (h.own b hb) he.size
  mono k w w' he hk := by
    by_cases hk' : k = i
    · subst hk'; rw [upd_same] at *; exact hm _ _ he hk
    · rw [upd_ne hk'] at *; exact h.mono _ _ _ he hk

theorem wpOp_of_fOp {i : Nat} {a : Act} {Γ : Fac} {B : Own} {K : Cont} {K' : Act → World → Prop} {Q' : Exit → Act → World → Prop} {w : World} (hI : Inv w0 Γ B w)
    (h : ∀ a' Γ' B' w', Inv w0 Γ' B' w' → K a' Γ' B' → K' a' w') (hh : fOp P ops w0 kind dep i K a Γ B) : wpOp P ops Q' i K' a w := by
  unfold fOp at hh
  unfold wpOp
  cases ho : ops[i]? with
  | none => simp only [ho] at *; exact h _ _ _ _ hI hh
  | some o =>
    simp only [ho] at *
    by_cases hw : Region.wanted o (yielded ops a.tmps) = true
    · rw [if_pos hw] at hh ⊢
      obtain ⟨hob, hn⟩ := hh
      refine Or.inl ?_
      unfold Oper.wp
      unfold Obl at hob
      unfold Can at hn
      cases hk : kind i with
      | quiet =>
        simp only [hk] at hob hn
        rw [hob w hI.ext]
        exact h _ _ _ _ hI (hn _ _ _ ⟨rfl, rfl, rfl⟩)
      | spec α x0 mk φ =>
        simp only [hk] at hob hn
        have hs := hob w hI.ext (fun k _ => hI.facts k)
        unfold specAt at hs
        generalize (execOp a.eval o).run P w = r at *
        cases r with
        | ok nx w' =>
          cases nx <;> simp only [specUpon] at hs <;> simp only [Oper.upon]
          case value u =>
            obtain ⟨he, x, rfl, hx⟩ := hs
            exact h _ _ _ _ (hI.step he i _ ⟨w', Ext.refl _, hx⟩ (fun _ _ he hh => hh.mono he)) (hn _ _ _ ⟨x, rfl, rfl, rfl⟩)
          case enter f args =>
            obtain ⟨he, hc⟩ := hs
            refine hc.mono fun e w'' ⟨x, hx, he', hφ⟩ => ?_
            subst hx
            exact h _ _ _ _ (hI.step (he.trans he') i _ ⟨w'', Ext.refl _, hφ⟩ (fun _ _ he hh => hh.mono he)) (hn _ _ _ ⟨x, rfl, rfl, rfl⟩)
        | halt x w' => simp only [specUpon] at hs
      | alloc T cs =>
        simp only [hk] at hob hn
        rw [hob w hI.ext]
        refine h _ _ _ _ ?_ (hn _ _ _ ⟨w.heap.size, fun hb => Nat.lt_irrefl _ (hI.own _ hb), hI.ext.size, rfl, rfl, rfl⟩)
        have hI' := hI.step (Ext.alloc w (.cells cs T)) i (blk w.heap.size cs T) (by show (w.heap.push _)[w.heap.size]? = _; simp) (fun _ _ he hh => he.block hh)
        exact ⟨hI'.ext, hI'.facts, fun b hb => by rcases hb with rfl | hb; · simp
                                                  · exact hI'.own b hb, hI'.mono⟩
    · rw [if_neg hw] at hh ⊢
      exact h _ _ _ _ hI hh

theorem wpAny_of_front {n g : Nat} {L : Array Bool → Cont} {Q' : Exit → Act → World → Prop} (hL : ∀ listed a Γ B w, Inv w0 Γ B w → L listed a Γ B → wpAny P md ops Q' g listed a w) :
    ∀ (f : Nat) (listed : Array Bool) (a : Act) (Γ : Fac) (B : Own) (w : World), Inv w0 Γ B w → wpAnyF P md ops w0 kind dep n L f listed a Γ B → wpAny P md ops Q' (f + g) listed a w
  | 0, listed, a, Γ, B, w, hI, h => by rw [Nat.zero_add]; exact hL _ _ _ _ _ hI h
  | f + 1, listed, a, Γ, B, w, hI, h => by
    rw [show f + 1 + g = (f + g) + 1 by omega]
    exact ⟨fun h0 => absurd h0 h.1, fun i hi => wpOp_of_fOp hI (fun a' Γ' B' w' hI' h' => wpAny_of_front hL f _ a' Γ' B' w' hI' h') (h.2 i hi).2⟩

def depB (md : Region.Mode) (ops : Array Oper) (dep : Nat → List Nat) : Bool :=
  (List.range ops.size).all fun i => match ops[i]? with
    | some oi => (dep i).all fun k => oi.after.any fun e => Region.binds md e && decide (e.on < i) && (e.on == k || (dep e.on).contains k)
    | none => true
theorem depB_spec (h : depB md ops dep = true) {i : Nat} {oi : Oper} (hi : ops[i]? = some oi) {k : Nat} (hk : k ∈ dep i) :
    ∃ e ∈ oi.after, Region.binds md e = true ∧ e.on < i ∧ (e.on = k ∨ k ∈ dep e.on) := by
  have h1 := List.all_eq_true.1 h i (List.mem_range.2 (Array.getElem?_eq_some_iff.1 hi).1)
  simp only [hi] at h1
  have h2 := List.all_eq_true.1 h1 k hk
  obtain ⟨e, he, hb⟩ := Array.any_eq_true'.1 h2
  simp only [Bool.and_eq_true, Bool.or_eq_true, decide_eq_true_eq, beq_iff_eq, List.contains_iff_mem] at hb
  exact ⟨e, he, hb.1.1, hb.1.2, hb.2⟩
theorem dep_listed {n : Nat} (hd : depB md ops dep = true) {listed : Array Bool} (inv : HeadInv md ops n listed) :
    ∀ (i : Nat) (oi : Oper), ops[i]? = some oi → (∀ e ∈ oi.after, Region.binds md e = true → listed.getD e.on false = true) → ∀ k ∈ dep i, listed.getD k false = true := by
  intro i
  induction i using Nat.strongRecOn with
  | _ i ih =>
    intro oi hi hall k hk
    obtain ⟨e, he, hb, hlt, hor⟩ := depB_spec hd hi hk
    have hl := hall e he hb
    rcases hor with rfl | hor
    · exact hl
    · have hsz : e.on < ops.size := by
        have : i < ops.size := (Array.getElem?_eq_some_iff.1 hi).1
        omega
      have hoe : ops[e.on]? = some ops[e.on] := Array.getElem?_eq_getElem hsz
      exact ih e.on hlt _ hoe (inv.closed e.on _ hoe hl) k hor

theorem wpAnyF_first {n i : Nat} {oi : Oper} {L : Array Bool → Cont} (hi : ops[i]? = some oi) (hsel : ∀ (j : Nat) (o : Oper) cs b, ops[j]? = some o → o.op ≠ .select cs b)
    (hd : depB md ops dep = true)
    (hT : ∀ listed, HeadInv md ops n listed → ∀ i, i < n → listed.getD i true = false → ∀ t, n ≤ t → t ∉ Region.ready md ops listed) (hin : i < n)
    (hdone : ∀ listed a Γ B, L listed a Γ B → ∀ j ∈ Region.ready md ops listed, n ≤ j) :
    ∀ (f : Nat) (listed : Array Bool) (a : Act) (Γ : Fac) (B : Own), FinB B → HeadInv md ops n listed →
      (∀ j oj, ops[j]? = some oj → j ≠ i → listed.getD j true = false → (∀ e ∈ oj.after, Region.binds md e = true → e.on ≠ i) → oi.apart ops oj = true) →
      i ∈ Region.ready md ops listed →
      fOp P ops w0 kind dep i (wpAnyF P md ops w0 kind dep n L f (listed.setIfInBounds i true)) a Γ B → wpAnyF P md ops w0 kind dep n L (f + 1) listed a Γ B := by
  intro f
  induction f with
  | zero =>
    intro listed a Γ B hB inv _ hr H
    have hun := (mem_ready.1 hr).1
    refine ⟨fun h => (by rw [h] at hr; cases hr), fun j hj => ?_⟩
    have hjn : j < n := by
      rcases Nat.lt_or_ge j n with h | h
      · exact h
      · exact absurd hj (hT listed inv i hin hun j h)
    refine ⟨hjn, ?_⟩
    by_cases hji : j = i
    · subst hji; exact H
    · exfalso
      have hex : ∃ a Γ B, L (listed.setIfInBounds i true) a Γ B := by
        unfold fOp at H
        simp only [hi] at H
        by_cases hw : Region.wanted oi (yielded ops a.tmps) = true
        · rw [if_pos hw] at H
          obtain ⟨v, p, c, hc⟩ := can_some (P := P) (w0 := w0) (kind := kind) hB i oi a
          exact ⟨_, _, _, H.2 v p c hc⟩
        · rw [if_neg hw] at H
          exact ⟨_, _, _, H⟩
      obtain ⟨a', Γ', B', hL⟩ := hex
      have := hdone _ _ _ _ hL j (ready_mono hj hji)
      omega
  | succ f ih =>
    intro listed a Γ B hB inv hfree hr H
    have hun := (mem_ready.1 hr).1
    refine ⟨fun h => (by rw [h] at hr; cases hr), fun j hj => ?_⟩
    have hjn : j < n := by
      rcases Nat.lt_or_ge j n with h | h
      · exact h
      · exact absurd hj (hT listed inv i hin hun j h)
    refine ⟨hjn, ?_⟩
    by_cases hji : j = i
    · subst hji; exact H
    · have h1 : fOp P ops w0 kind dep i (fun a Γ B => fOp P ops w0 kind dep j (wpAnyF P md ops w0 kind dep n L f ((listed.setIfInBounds i true).setIfInBounds j true)) a Γ B) a Γ B :=
        fOp_mono (fun a' Γ' B' h' => (h'.2 j (ready_mono hj hji)).2) H
      obtain ⟨hjun, oj, hoj, hall⟩ := mem_ready.1 hj
      obtain ⟨_, oi', hoi', halli⟩ := mem_ready.1 hr
      have : oi' = oi := Option.some.inj (hoi'.symm.trans hi)
      subst this
      have hnot : ∀ e ∈ oj.after, Region.binds md e = true → e.on ≠ i := fun e he hb heq => by
        have h1 := hall e he hb
        rw [heq, getD_both hun] at h1
        cases h1
      have hdi : j ∉ dep i := fun hm => by
        have := dep_listed hd inv i _ hi halli j hm
        rw [getD_both hjun] at this
        cases this
      have hdj : i ∉ dep j := fun hm => by
        have := dep_listed hd inv j _ hoj hall i hm
        rw [getD_both hun] at this
        cases this
      have h2 := fOp_swap hi hoj (Ne.symm hji) (hfree j oj hoj hji hjun hnot) (fun cs b => hsel i _ cs b hi) (fun cs b => hsel j oj cs b hoj) hdi hdj hB h1
      have hfree' : ∀ k ok, ops[k]? = some ok → k ≠ i → (listed.setIfInBounds j true).getD k true = false →
          (∀ e ∈ ok.after, Region.binds md e = true → e.on ≠ i) → oi'.apart ops ok = true := fun k ok hk hki hun hno => by
        refine hfree k ok hk hki ?_ hno
        by_cases hjk : j = k
        · subst hjk; exact hjun
        · rw [getD_set_ne true hjk] at hun; exact hun
      rw [Array.setIfInBounds_comm _ _ (Ne.symm hji)] at h2
      refine fOp_fin hB (fun a' Γ' B' hB' h3 => ih (listed.setIfInBounds j true) a' Γ' B' hB' (inv.set hj hjn) hfree' (ready_mono hr (Ne.symm hji)) h3) h2

/-- The walk in the order of the text. -/
def wpF (P : Program) (ops : Array Oper) (w0 : World) (kind : Nat → Kind) (dep : Nat → List Nat) (Q : Cont) : List Oper → Nat → Cont
  | [], _, a, Γ, B => Q a Γ B
  | o :: rest, k, a, Γ, B => if Region.wanted o (yielded ops a.tmps) then
      Obl P w0 kind dep k o a Γ ∧ ∀ v p c, Can P w0 kind k o a B v p c → wpF P ops w0 kind dep Q rest (k + 1) (a.put o.dst v) (updO Γ k p) (insO B c)
    else wpF P ops w0 kind dep Q rest (k + 1) (a.put o.dst undef) Γ B

theorem wpAnyF_lex {n g : Nat} {Lq : Cont} (hsel : Region.noSelect ops = true) (hd : depB md ops dep = true)
    (hT : ∀ listed, HeadInv md ops n listed → ∀ i, i < n → listed.getD i true = false → ∀ t, n ≤ t → t ∉ Region.ready md ops listed) :
    ∀ (l : List Oper) (k : Nat) (listed : Array Bool) (a : Act) (Γ : Fac) (B : Own), FinB B → (∀ j, j < l.length → l[j]? = ops[k + j]?) → k + l.length = n → HeadInv md ops n listed →
    Region.lexHead md ops g l.length k listed = true → wpF P ops w0 kind dep Lq l k a Γ B →
    wpAnyF P md ops w0 kind dep n (fun listed' a' Γ' B' => Region.seqB md ops g n listed' = true ∧ Lq a' Γ' B') l.length listed a Γ B
  | [], k, listed, a, Γ, B, _, _, hk, _, hB, h => by
    have : k = n := by simpa using hk
    subst this
    exact ⟨by simpa [Region.lexHead] using hB, h⟩
  | o :: l, k, listed, a, Γ, B, hfin, hl, hk, inv, hB, h => by
    have h0 : ops[k]? = some o := by simpa using (hl 0 (by simp)).symm
    simp only [List.length_cons, Region.lexHead, Bool.and_eq_true] at hB
    obtain ⟨⟨hr, hf⟩, hB'⟩ := hB
    have hkn : k < n := by simp only [List.length_cons] at hk; omega
    have hr' : k ∈ Region.ready md ops listed := by simpa using hr
    have hst : fOp P ops w0 kind dep k (wpF P ops w0 kind dep Lq l (k + 1)) a Γ B := by unfold fOp; simp only [h0]; exact h
    exact wpAnyF_first h0 (Region.noSelect_spec hsel) hd hT hkn (fun listed' a' Γ' B' hL => seqB_ready hL.1) l.length listed a Γ B hfin inv (Region.free_spec h0 hf) hr'
      (fOp_fin hfin (fun a' Γ' B' hfin' h' => wpAnyF_lex hsel hd hT l (k + 1) _ a' Γ' B' hfin' (fun j hj => by have := hl (j + 1) (by simp; omega); simpa [Nat.add_assoc, Nat.add_comm 1 j] using this) (by simp only [List.length_cons] at hk; omega) (inv.set hr' hkn) hB' h') hst)

def frontB (md : Region.Mode) (ops : Array Oper) (n : Nat) (dep : Nat → List Nat) : Bool :=
  Region.noSelect ops && (n == ops.size || (decide (n < ops.size) && Region.sinkB md ops n && Region.chainB md ops n)) && depB md ops dep && Region.lexHead md ops (ops.size - n) n 0 (Array.replicate ops.size false)

/-- THE RULE: a region that draws its order: its first n operations by their kinds, in the order of the text; the rest, a forced tail, as it stands. -/
theorem wp_front {id : Nat} {Q : Exit → Act → World → Prop} {a : Act} {w : World} {l : List Oper} (n : Nat) (kind : Nat → Kind) (dep : Nat → List Nat) (hm : P.follows .mixedOrders = true)
    (hB : frontB .any l.toArray n dep = true)
    (h : wpF P l.toArray w.drew kind dep (fun a' Γ B => ∀ w', Inv w.drew Γ B w' → wpList P l.toArray Q (l.drop n) a' w') (l.take n) 0 a (fun _ _ => True) (fun _ => False)) :
    (Code.region id l.toArray true).wp P Q a w := by
  simp only [frontB, Bool.and_eq_true, Bool.or_eq_true, beq_iff_eq, decide_eq_true_eq] at hB
  obtain ⟨⟨⟨hsel, hor⟩, hd⟩, hlex⟩ := hB
  have hn' : n ≤ l.length := by
    rcases hor with h | h
    · simp at h; omega
    · have := h.1.1; simp at this; omega
  have hT : ∀ listed, HeadInv .any l.toArray n listed → ∀ i, i < n → listed.getD i true = false → ∀ t, n ≤ t → t ∉ Region.ready .any l.toArray listed := by
    intro listed inv i hi hun t ht hr
    rcases hor with h | h
    · obtain ⟨_, ot, hot, _⟩ := mem_ready.1 hr
      have := (Array.getElem?_eq_some_iff.1 hot).1
      omega
    · exact tail_waits h.1.2 h.2 h.1.1 inv _ i rfl hi hun t ht hr
  have htl : (l.take n).length = n := by simp; omega
  have hdl : (l.drop n).length = l.toArray.size - n := by simp
  have inv0 : HeadInv .any l.toArray n (Array.replicate l.toArray.size false) :=
    ⟨by simp, fun j oj _ hl => (by rw [getD_replicate_false] at hl; cases hl), fun t _ ht => getD_in (by simpa using ht) (getD_replicate_false _ _)⟩
  have H := wpAnyF_lex (md := .any) (g := l.toArray.size - n) hsel hd hT (l.take n) 0 _ a _ _ ⟨0, fun _ h => h.elim⟩ (fun j hj => by
    have hj' : j < n := by rw [htl] at hj; exact hj
    simp [hj']) (by simpa using htl) inv0 (by rw [htl]; exact hlex) h
  refine wp_region_any hm ?_
  have := wpAny_of_front (Q' := Q) (g := l.toArray.size - n) (fun listed a' Γ B w' hI hL => by
    have := wpAny_of_seq (md := .any) (Q' := Q) (l.drop n) n listed a' w' (fun j => by simp [List.getElem?_drop]) (by rw [hdl]; exact hL.1) (hL.2 w' hI)
    rwa [hdl] at this) _ _ _ _ _ w.drew ⟨Ext.refl _, fun _ => trivial, fun _ h => h.elim, fun _ _ _ _ h => h⟩ H
  rw [htl, show n + (l.toArray.size - n) = l.toArray.size by omega] at this
  exact this

theorem wp_region_front {id : Nat} {Q : Exit → Act → World → Prop} {a : Act} {w : World} {l : List Oper} (n : Nat) (kind : Nat → Kind) (dep : Nat → List Nat) (hm : P.follows .mixedOrders = true)
    (hB : frontB .any l.toArray n dep = true)
    (h : ∀ w0 : World, Ext w w0 → w0.heap.size = w.heap.size → (∀ p, w0.cell? p = w.cell? p) → (∀ p, w0.frozen? p = w.frozen? p) →
      wpF P l.toArray w0 kind dep (fun a' Γ B => ∀ w', Inv w0 Γ B w' → wpList P l.toArray Q (l.drop n) a' w') (l.take n) 0 a (fun _ _ => True) (fun _ => False)) :
    (Code.region id l.toArray true).wp P Q a w :=
  wp_front n kind dep hm hB (h w.drew (Ext.drew w) rfl (fun _ => rfl) (fun _ => rfl))

/-! ### Steps of the walk -/
section
variable {Q : Cont} {o : Oper} {rest : List Oper} {k : Nat} {a : Act} {Γ : Fac} {B : Own}
def valueOp : Op → Bool
  | .move _ | .assign _ | .pick .. | .build .. | .load .. | .binOp .. | .unOp .. | .convert .. | .makeFunc .. | .slice .. | .fieldAddr .. | .field .. | .indexAddr .. | .index .. | .extract .. => true
  | .call { callee := .builtin .len, .. } => true
  | _ => false
def ValueOnly (P : Program) (o : Oper) (a : Act) : Prop := ∀ w nx w', (execOp a.eval o).run P w = .ok nx w' → ∃ v, nx = .value v
theorem bind_value {α : Type} (s : Sem α) (g : α → Value) (w : World) (nx : Next) (w' : World) : (s >>= fun x => (pure (.value (g x)) : Sem Next)).run P w = .ok nx w' → ∃ v, nx = Next.value v := by
  rw [Sem.run_bind]
  cases s.run P w with
  | ok x w1 => intro h; cases h; exact ⟨_, rfl⟩
  | halt x w1 => intro h; cases h
theorem valueOnly_of (h : valueOp o.op = true) : ValueOnly P o a := by
  intro w nx w' hr
  obtain ⟨dst, op, type, pos, after, guard⟩ := o
  cases op <;> first | (simp [valueOp] at h; done) | skip
  case call c =>
    obtain ⟨callee, args, argTypes⟩ := c
    cases callee <;> first | (simp [valueOp] at h; done) | skip
    rename_i b
    cases b <;> first | (simp [valueOp] at h; done) | skip
    have : execOp a.eval { dst, op := Op.call { callee := .builtin .len, args, argTypes }, type, pos, after, guard } = (do pure (.value (← Builtin.len_ argTypes type (args.map a.eval)))) := rfl
    rw [this] at hr
    exact bind_value _ _ w nx w' hr
  all_goals first
    | (simp only [execOp] at hr; exact bind_value _ _ w nx w' hr)
    | (simp only [execOp] at hr; simp only [Sem.run, pure] at hr; cases hr; exact ⟨_, rfl⟩)

theorem wpF_quiet (hk : kind k = .quiet) (hg : Region.wanted o (yielded ops a.tmps) = true) (hv : valueOp o.op = true)
    (h : ∀ K : Act → Prop, (∀ a', wpF P ops w0 kind dep Q rest (k + 1) a' Γ B → K a') → o.quiet P a (Cls w0) K) : wpF P ops w0 kind dep Q (o :: rest) k a Γ B := by
  obtain ⟨v, hq, hn⟩ := h _ (fun _ h => h)
  have run : ∀ w, Ext w0 w → (execOp a.eval o).run P w = .ok (.value v) w := by
    intro w hw
    have := hq w (Cls.of hw)
    unfold Oper.quietAt at this
    have hne := valueOnly_of (P := P) (a := a) hv w
    generalize (execOp a.eval o).run P w = r at *
    cases r with
    | ok nx w' =>
      obtain ⟨u, rfl⟩ := hne nx w' rfl
      simp only [Oper.quietUpon] at this
      obtain ⟨rfl, rfl⟩ := this; rfl
    | halt x w' => simp only [Oper.quietUpon] at this
  have hval : valOf P o a w0 = v := by unfold valOf; rw [run w0 (Ext.refl _)]
  unfold wpF
  rw [if_pos hg]
  refine ⟨?_, fun u p c hc => ?_⟩
  · unfold Obl; rw [hk]; simp only [hval]; exact run
  · unfold Can at hc; rw [hk] at hc; obtain ⟨rfl, rfl, rfl⟩ := hc; rw [hval]; exact hn
theorem wpF_run (v : Value) (hk : kind k = .quiet) (hg : Region.wanted o (yielded ops a.tmps) = true) (run : ∀ w, Ext w0 w → (execOp a.eval o).run P w = .ok (.value v) w)
    (h : wpF P ops w0 kind dep Q rest (k + 1) (a.put o.dst v) Γ B) : wpF P ops w0 kind dep Q (o :: rest) k a Γ B := by
  have hval : valOf P o a w0 = v := by unfold valOf; rw [run w0 (Ext.refl _)]
  unfold wpF
  rw [if_pos hg]
  refine ⟨?_, fun u p c hc => ?_⟩
  · unfold Obl; rw [hk]; simp only [hval]; exact run
  · unfold Can at hc; rw [hk] at hc; obtain ⟨rfl, rfl, rfl⟩ := hc; rw [hval]; exact h
theorem wpF_nilCheck {x : Operand} {p : Addr} (hk : kind k = .quiet) (hg : Region.wanted o (yielded ops a.tmps) = true) (ho : o.op = .nilCheck x) (hx : a.eval x = .pointer (some p))
    (h : wpF P ops w0 kind dep Q rest (k + 1) (a.put o.dst (.pointer (some p))) Γ B) : wpF P ops w0 kind dep Q (o :: rest) k a Γ B := by
  refine wpF_run _ hk hg (fun w _ => ?_) h
  obtain ⟨dst, op, type, pos, after, guard⟩ := o
  simp only at ho
  subst ho
  simp only [execOp, hx]
  rfl
theorem wpF_skip (hg : Region.wanted o (yielded ops a.tmps) = false) (h : wpF P ops w0 kind dep Q rest (k + 1) (a.put o.dst undef) Γ B) : wpF P ops w0 kind dep Q (o :: rest) k a Γ B := by
  unfold wpF; rw [if_neg (by rw [hg]; exact Bool.false_ne_true)]; exact h
theorem wpF_spec {α : Type} {x0 : α} {mk : α → Value} {φ : α → World → Prop} (hk : kind k = .spec α x0 mk φ) (hg : Region.wanted o (yielded ops a.tmps) = true)
    (h1 : ∀ w, Ext w0 w → (∀ j ∈ dep k, Γ j w) → specAt P o a w mk φ) (h2 : ∀ x, wpF P ops w0 kind dep Q rest (k + 1) (a.put o.dst (mk x)) (upd Γ k (Since (φ x))) B) :
    wpF P ops w0 kind dep Q (o :: rest) k a Γ B := by
  unfold wpF
  rw [if_pos hg]
  refine ⟨?_, fun u p c hc => ?_⟩
  · unfold Obl; rw [hk]; exact h1
  · unfold Can at hc; rw [hk] at hc; obtain ⟨x, rfl, rfl, rfl⟩ := hc; exact h2 x
theorem wpF_alloc {T : TypeId} {cs : Array Value} (hk : kind k = .alloc T cs) (hg : Region.wanted o (yielded ops a.tmps) = true)
    (h1 : ∀ w, (execOp a.eval o).run P w = .ok (.value (ptr w.heap.size)) (w.alloc (.cells cs T)))
    (h2 : ∀ b, ¬ B b → w0.heap.size ≤ b → wpF P ops w0 kind dep Q rest (k + 1) (a.put o.dst (ptr b)) (upd Γ k (blk b cs T)) (fun c => c = b ∨ B c)) :
    wpF P ops w0 kind dep Q (o :: rest) k a Γ B := by
  unfold wpF
  rw [if_pos hg]
  refine ⟨?_, fun u p c hc => ?_⟩
  · unfold Obl; rw [hk]; exact fun w _ => h1 w
  · unfold Can at hc; rw [hk] at hc; obtain ⟨b, hb, hs, rfl, rfl, rfl⟩ := hc; exact h2 b hb hs
theorem wpF_nil (h : Q a Γ B) : wpF P ops w0 kind dep Q [] k a Γ B := h
theorem run_callFunc {f : FuncId} {fn : Func} {args : Array Value} {w : World} (hf : P.funcs[f]? = some fn) (hn : (fn.name == "runtime.NumGoroutine") = false) (hb : fn.body.isNone = false) :
    (callFunc f args).run P w = .ok (.enter f args) w := by
  unfold callFunc
  rw [Sem.run_bind]
  show (match P.funcs[f]? with | none => _ | some fn => _ : Sem Next).run P w = _
  rw [hf]
  simp only [hn, hb, if_false, Bool.false_eq_true]
  rfl
/-- A call of a function that is named, by its contract. -/
theorem spec_call {α : Type} {mk : α → Value} {φ : α → World → Prop} {w : World} {f : FuncId} {fn : Func} {xs : Array Operand} {ats : Array TypeId} (args : List Value)
    (ho : o.op = .call { callee := .value (.func f), args := xs, argTypes := ats }) (ha : xs.toList.map a.eval = args)
    (hf : P.funcs[f]? = some fn) (hn : (fn.name == "runtime.NumGoroutine") = false) (hb : fn.body.isNone = false)
    (h : Calls P f args.toArray w (fun e w'' => ∃ x, e = .returned (mk x) ∧ Ext w w'' ∧ φ x w'')) : specAt P o a w mk φ := by
  obtain ⟨dst, op, type, pos, after, guard⟩ := o
  simp only at ho
  subst ho
  unfold specAt
  have ha' : #[] ++ xs.map a.eval ++ #[] = args.toArray := by
    rw [← ha, Array.append_empty, Array.empty_append]; apply Array.ext'; simp
  rw [execOp_call_go, ha', run_callFunc hf hn hb]
  exact ⟨Ext.refl _, h⟩
/-- An operation that makes a new block and hands back a value of its number. -/
theorem spec_new {mkv : Nat → Value} {obj : Obj} {w : World} (hrun : (execOp a.eval o).run P w = .ok (.value (mkv w.heap.size)) (w.alloc obj)) : specAt P o a w mkv (fun b w' => w'.heap[b]? = some obj) := by
  unfold specAt
  rw [hrun]
  exact ⟨Ext.alloc _ _, w.heap.size, rfl, heap_alloc_new w _⟩
/-- A call of a function value. -/
theorem spec_callv {α : Type} {mk : α → Value} {φ : α → World → Prop} {w : World} {f : FuncId} {fn : Func} {t : Operand} {xs : Array Operand} {ats : Array TypeId} (cap : Array Value) (args : List Value)
    (ho : o.op = .call { callee := .value t, args := xs, argTypes := ats }) (ht : a.eval t = .func (.func f) #[] cap) (ha : xs.toList.map a.eval ++ cap.toList = args)
    (hf : P.funcs[f]? = some fn) (hn : (fn.name == "runtime.NumGoroutine") = false) (hb : fn.body.isNone = false)
    (h : Calls P f args.toArray w (fun e w'' => ∃ x, e = .returned (mk x) ∧ Ext w w'' ∧ φ x w'')) : specAt P o a w mk φ := by
  obtain ⟨dst, op, type, pos, after, guard⟩ := o
  simp only at ho
  subst ho
  unfold specAt
  have ha' : #[] ++ xs.map a.eval ++ cap = args.toArray := by
    rw [← ha, Array.empty_append]; apply Array.ext'; simp
  have : execOp a.eval { dst, op := .call { callee := .value t, args := xs, argTypes := ats }, type, pos, after, guard } = callFunc f (#[] ++ xs.map a.eval ++ cap) := by
    simp only [execOp, resolve, ht, Deferred.ofValue]
    rfl
  rw [this, ha', run_callFunc hf hn hb]
  exact ⟨Ext.refl _, h⟩
end
end
end Go.Front
