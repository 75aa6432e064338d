import Derived.WalkKit
import Derived.StillTail
import Derived.BigQuiet
import Derived.Below
import Derived.Lib.Hide
import Derived.Deep.LoopGhost
import Derived.Test.YtkcpmclnocmalaaGreatRows
import Derived.WalkSpells
import Derived.WalkLawsBesides
import Derived.Deep.DeepCutAuto
import Derived.Shelf.Small.Bits
import Derived.KernelRfl
import Derived.Test.YtkcpmclnocmalaaGreatProg
import Derived.Lib.ItoaNum
import Derived.Laws.BitsAllLaws
import Derived.Deep.CutBlock
set_option linter.unusedVariables false
set_option maxRecDepth 8000
set_option maxHeartbeats 4000000
namespace Go
theorem nXa:type_of% @bodyPost_ret:=@bodyPost_ret
theorem nXb:type_of% @Array.getElem?_eq_some_iff:=@Array.getElem?_eq_some_iff
theorem nXc:type_of% @World.size_alloc:=@World.size_alloc
theorem nXd:type_of% @List.getD_eq_getElem?_getD:=@List.getD_eq_getElem?_getD
theorem nXe:type_of% @Nat.le_refl:=@Nat.le_refl
theorem nXf:type_of% @Nat.le_trans:=@Nat.le_trans
theorem nXg:type_of% @Nat.mul_le_mul_left:=@Nat.mul_le_mul_left
theorem nXh:type_of% @Nat.mul_le_mul_right:=@Nat.mul_le_mul_right
theorem nXi:type_of% @List.length_append:=@List.length_append
theorem nXj:type_of% @List.length_eq_zero_iff:=@List.length_eq_zero_iff
theorem nXk:type_of% @List.length_take:=@List.length_take
theorem nXl:type_of% @List.length_map:=@List.length_map
theorem nXm:type_of% @List.take_of_length_le:=@List.take_of_length_le
theorem nXn:type_of% @Nat.lt_of_lt_of_le:=@Nat.lt_of_lt_of_le
theorem nXo:type_of% @List.length_set:=@List.length_set
theorem nXp:type_of% @Nat.pow_le_pow_right:=@Nat.pow_le_pow_right
theorem nXq:type_of% @World.block_lt_of_cell?:=@World.block_lt_of_cell?
theorem nXr:type_of% @Rat.mul_eq_zero:=@Rat.mul_eq_zero
theorem nXs:type_of% @beq_eq_false_iff_ne:=@beq_eq_false_iff_ne
theorem nXt:type_of% @List.length_range:=@List.length_range
theorem nXu:type_of% @Nat.pow_succ:=@Nat.pow_succ
theorem nXv:type_of% @List.mem_singleton:=@List.mem_singleton
theorem nXw:type_of% @List.getElem?_map:=@List.getElem?_map
theorem nXx:type_of% @List.length_replicate:=@List.length_replicate
theorem nXy:type_of% @Nat.mul_le_mul:=@Nat.mul_le_mul
theorem nXz:type_of% @Nat.succ_mul:=@Nat.succ_mul
theorem nYa:type_of% @List.length_drop:=@List.length_drop
theorem nYb:type_of% @Rat.zero_mul:=@Rat.zero_mul
theorem nYc:type_of% @Rat.mul_zero:=@Rat.mul_zero
theorem nYd:type_of% @Rat.mul_comm:=@Rat.mul_comm
theorem nYe:type_of% @Rat.mul_assoc:=@Rat.mul_assoc
theorem nYf:type_of% @Nat.mul_comm:=@Nat.mul_comm
theorem nYg:type_of% @List.mem_map:=@List.mem_map
theorem nYh:type_of% @List.length_pos_iff:=@List.length_pos_iff
theorem nYi:type_of% @Int.natAbs_natCast:=@Int.natAbs_natCast
theorem nYj:type_of% @Nat.add_comm:=@Nat.add_comm
theorem nYk:type_of% @Rat.mul_inv_cancel:=@Rat.mul_inv_cancel
theorem nYl:type_of% @Nat.lt_of_le_of_lt:=@Nat.lt_of_le_of_lt
theorem nYm:type_of% @Nat.le_of_lt:=@Nat.le_of_lt
theorem nYn:type_of% @Nat.pow_pos:=@Nat.pow_pos
theorem zo{p:Prop}(h:p:=by omega):p:=h
theorem dZ{p:Prop}(h:p:=by decide):p:=h
theorem kZ{p:Prop}(h:p:=by kernel_rfl):p:=h
theorem Hi{p:Prop}(h:p):RowKit.Hid p:=h
theorem pS:(∀ (a:Act) (v:Value),a.put none v=a)∧(∀ (a:Act) (t:Tmp) (v:Value),a.put (some t) v={ a with tmps:=a.tmps.setIfInBounds t v })∧(∀ (l:List Value) (i:Nat) (v:Value),l.toArray.setIfInBounds i v=(l.set i v).toArray)∧(∀ (x:Value) (l:List Value) (i:Nat) (v:Value),(x :: l).set (i+1) v=x :: l.set i v)∧∀ (x:Value) (l:List Value) (v:Value),(x :: l).set 0 v=v :: l:=⟨fun _ _=>rfl,fun _ _ _=>rfl,fun _ _ _=>List.setIfInBounds_toArray ..,fun _ _ _ _=>rfl,fun _ _ _=>rfl⟩
theorem pT:(∀ (x:Oper) (l:List Oper) (i:Nat),(x :: l).take (i+1)=x :: l.take i)∧∀ l:List Oper,l.take 0=[]:=⟨fun _ _ _=>rfl,fun _=>rfl⟩
theorem pD:(∀ (x:Oper) (l:List Oper) (i:Nat),(x :: l).drop (i+1)=l.drop i)∧∀ l:List Oper,l.drop 0=l:=⟨fun _ _ _=>rfl,fun _=>rfl⟩
theorem nle{a b:Nat}(h:a=b):a≤b:=Nat.le_of_eq h
end Go
namespace Go.Front
open Go Go.RowKit
def Ext(w w':World):Prop:=Below w.heap.size w w'
theorem Ext.refl(w:World):Ext w w:=Below.refl _ _
theorem Ext.size{w w':World}(h:Ext w w'):w.heap.size≤w'.heap.size:=Below.size h
theorem Ext.trans{a b c:World}(h:Ext a b)(k:Ext b c):Ext a c:=Below.trans h (Below.mono k h.size)
theorem Ext.block{w w':World}(h:Ext w w'){b:Nat}{o:Obj}(hb:w.heap[b]?=some o):w'.heap[b]?=some o:=by
 have hlt:b<w.heap.size:=(nXb.1 hb).1;rw [Below.block h b hlt];exact hb
theorem Ext.bl{w w':World}(h:Ext w w'){b:Nat}{o:Obj}(hb:Hid (w.heap[b]?=some o)):Hid (w'.heap[b]?=some o):=h.block hb
theorem Ext.tr{a b c:World}(k:Ext b c)(h:Hid (Ext a b)):Hid (Ext a c):=Ext.trans h k
theorem Ext.alloc(w:World)(o:Obj):Ext w (w.alloc o):=(Below.refl _ _).alloc (nXe _) _
theorem Ext.drew(w:World):Ext w w.drew:=⟨rfl,rfl,rfl,nXe _,fun _ _=>rfl⟩
theorem Ext.drewN(w:World)(n:Nat):Ext w (w.drewN n):=⟨rfl,rfl,rfl,nXe _,fun _ _=>rfl⟩
theorem Ext.cell{w w':World}(h:Ext w w'){p:Addr}{v:Value}(hv:w.cell? p=some v):w'.cell? p=some v:=by
 have hlt:p.block<w.heap.size:=by
  unfold World.cell? at hv;cases hb:w.heap[p.block]? with
  | none=>rw [hb] at hv;cases hv
  | some o=>exact (nXb.1 hb).1
 rw [Below.cell h hlt];exact hv

structure XW (w0:World) where
 w:World
 h:Ext w0 w
instance (w0:World):Nonempty (XW w0):=⟨⟨w0,Ext.refl _⟩⟩
theorem XW.cell{w0:World}(x:XW w0){b o:Nat}(hb:b<w0.heap.size):x.w.cell? ⟨b,o,none⟩=w0.cell? ⟨b,o,none⟩:=Below.cell x.h hb
theorem XW.frozen{w0:World}(x:XW w0){b o:Nat}(hb:b<w0.heap.size):x.w.frozen? ⟨b,o,none⟩=w0.frozen? ⟨b,o,none⟩:=Below.frozen x.h hb
abbrev Cls(w0:World):World→Prop:=fun w=>∃ x:XW w0,w=x.w
theorem Cls.of{w0 w:World}(h:Ext w0 w):Cls w0 w:=⟨⟨w,h⟩,rfl⟩

def lJ(φ:World→Prop)(w:World):Prop:=∃ w1,Ext w1 w∧φ w1
theorem lJ.get{φ:World→Prop}{w:World}{p:Prop}(h:lJ φ w)(k:∀ w1,Ext w1 w→φ w1→p):p:=let ⟨w1,h1,h2⟩:=h;k w1 h1 h2
class Mv (w w':World) (p:Prop) (q:outParam Prop):Prop where
 mv:Ext w w'→p→q
instance {w w':World} {p q:Prop} [i:Mv w w' p q]:Mv w w' (RowKit.Hid p) (RowKit.Hid q):=⟨fun e h=>i.mv e h⟩
instance {x w w':World}:Mv w w' (Ext x w) (Ext x w'):=⟨fun e h=>h.trans e⟩
instance {w w':World} {b:Nat} {o:Obj}:Mv w w' (w.heap[b]?=some o) (w'.heap[b]?=some o):=⟨fun e h=>e.block h⟩
theorem mV{w w':World}(e:Ext w w'){p q:Prop}[i:Mv w w' p q](h:p):q:=i.mv e h
theorem mV2{w w':World}(e:Ext w w'){p1 q1 p2 q2 P:Prop}[Mv w w' p1 q1][Mv w w' p2 q2](h:q1→q2→P)(a1:p1)(a2:p2):P:=h (mV e a1) (mV e a2)
theorem mV3{w w':World}(e:Ext w w'){p1 q1 p2 q2 p3 q3 P:Prop}[Mv w w' p1 q1][Mv w w' p2 q2][Mv w w' p3 q3](h:q1→q2→q3→P)(a1:p1)(a2:p2)(a3:p3):P:=h (mV e a1) (mV e a2) (mV e a3)
theorem mV4{w w':World}(e:Ext w w'){p1 q1 p2 q2 p3 q3 p4 q4 P:Prop}[Mv w w' p1 q1][Mv w w' p2 q2][Mv w w' p3 q3][Mv w w' p4 q4](h:q1→q2→q3→q4→P)(a1:p1)(a2:p2)(a3:p3)(a4:p4):P:=h (mV e a1) (mV e a2) (mV e a3) (mV e a4)
theorem mV5{w w':World}(e:Ext w w'){p1 q1 p2 q2 p3 q3 p4 q4 p5 q5 P:Prop}[Mv w w' p1 q1][Mv w w' p2 q2][Mv w w' p3 q3][Mv w w' p4 q4][Mv w w' p5 q5](h:q1→q2→q3→q4→q5→P)(a1:p1)(a2:p2)(a3:p3)(a4:p4)(a5:p5):P:=h (mV e a1) (mV e a2) (mV e a3) (mV e a4) (mV e a5)
theorem mV6{w w':World}(e:Ext w w'){p1 q1 p2 q2 p3 q3 p4 q4 p5 q5 p6 q6 P:Prop}[Mv w w' p1 q1][Mv w w' p2 q2][Mv w w' p3 q3][Mv w w' p4 q4][Mv w w' p5 q5][Mv w w' p6 q6](h:q1→q2→q3→q4→q5→q6→P)(a1:p1)(a2:p2)(a3:p3)(a4:p4)(a5:p5)(a6:p6):P:=h (mV e a1) (mV e a2) (mV e a3) (mV e a4) (mV e a5) (mV e a6)
theorem mV7{w w':World}(e:Ext w w'){p1 q1 p2 q2 p3 q3 p4 q4 p5 q5 p6 q6 p7 q7 P:Prop}[Mv w w' p1 q1][Mv w w' p2 q2][Mv w w' p3 q3][Mv w w' p4 q4][Mv w w' p5 q5][Mv w w' p6 q6][Mv w w' p7 q7](h:q1→q2→q3→q4→q5→q6→q7→P)(a1:p1)(a2:p2)(a3:p3)(a4:p4)(a5:p5)(a6:p6)(a7:p7):P:=h (mV e a1) (mV e a2) (mV e a3) (mV e a4) (mV e a5) (mV e a6) (mV e a7)
theorem mV8{w w':World}(e:Ext w w'){p1 q1 p2 q2 p3 q3 p4 q4 p5 q5 p6 q6 p7 q7 p8 q8 P:Prop}[Mv w w' p1 q1][Mv w w' p2 q2][Mv w w' p3 q3][Mv w w' p4 q4][Mv w w' p5 q5][Mv w w' p6 q6][Mv w w' p7 q7][Mv w w' p8 q8](h:q1→q2→q3→q4→q5→q6→q7→q8→P)(a1:p1)(a2:p2)(a3:p3)(a4:p4)(a5:p5)(a6:p6)(a7:p7)(a8:p8):P:=h (mV e a1) (mV e a2) (mV e a3) (mV e a4) (mV e a5) (mV e a6) (mV e a7) (mV e a8)
theorem gT{φ:World→Prop}{w:World}{q:Prop}(h:lJ φ w)[i:∀ w1,Mv w1 w (φ w1) q]:RowKit.Hid q:=let ⟨w1,h1,h2⟩:=h;(i w1).mv h1 h2
theorem gS{φ:World→Prop}{w:World}{q:Prop}(h:lJ φ w)[i:∀ w1,Mv w1 w (φ w1) q]:q:=let ⟨w1,h1,h2⟩:=h;(i w1).mv h1 h2
theorem zs2{n m:Nat}(h:n+1+1≤m):n<m∧n+1<m:=zo
theorem zs3{n m:Nat}(h:n+1+1+1≤m):n<m∧n+1<m∧n+2<m:=zo
theorem zs4{n m:Nat}(h:n+1+1+1+1≤m):n<m∧n+1<m∧n+2<m∧n+3<m:=zo
structure Bx (q:Prop):Type where
 out:q
theorem lJ.mono{φ:World→Prop}{w w':World}(h:lJ φ w)(he:Ext w w'):lJ φ w':=let ⟨w1,h1,h2⟩:=h;⟨w1,h1.trans he,h2⟩

inductive Kind where
 | quiet
 | spec (α:Type) (x0:α) (mk:α→Value) (φ:α→World→Prop)
 | alloc (T:TypeId) (cs:Array Value)

abbrev Fac:=Nat→World→Prop
abbrev Own:=Nat→Prop
def upd(Γ:Fac)(i:Nat)(p:World→Prop):Fac:=fun k w=>if k=i then p w else Γ k w
theorem tH{Γ:Fac}{i k:Nat}{p:World→Prop}(h:k≠i):upd Γ i p k=Γ k:=by funext w;simp [upd,h]
theorem jS{Γ:Fac}{i:Nat}{p:World→Prop}:upd Γ i p i=p:=by funext w;simp [upd]
theorem xy{Γ:Fac}{i j:Nat}{p q:World→Prop}(h:i≠j):upd (upd Γ i p) j q=upd (upd Γ j q) i p:=by
 funext k w;unfold upd
 by_cases h1:k=j
 ·subst h1;rw [if_pos rfl,if_neg (Ne.symm h),if_pos rfl]
 ·rw [if_neg h1,if_neg h1]
def xz(Γ:Fac)(i:Nat):Option (World→Prop)→Fac
 | none=>Γ
 | some p=>upd Γ i p
def yQ(B:Own):Option Nat→Own
 | none=>B
 | some b=>fun c=>c=b∨B c
theorem tJ{Γ:Fac}{i j:Nat}{p q:Option (World→Prop)}(h:i≠j):xz (xz Γ i p) j q=xz (xz Γ j q) i p:=by
 cases p <;> cases q <;> first|rfl|exact xy h
theorem vA{B:Own}{p q:Option Nat}:yQ (yQ B p) q=yQ (yQ B q) p:=by
 cases p <;> cases q <;> first|rfl|(funext c;simp only [yQ,eq_iff_iff];constructor <;> (rintro (h|h|h) <;> simp [h]))
theorem tI{Γ:Fac}{i k:Nat}{p:Option (World→Prop)}(h:k≠i):xz Γ i p k=Γ k:=by cases p <;> first|rfl|exact tH h

def blk(b:Nat)(cs:Array Value)(T:TypeId)(w:World):Prop:=w.heap[b]?=some (.cells cs T (0,0))
def ptr(b:Nat):Value:=.pointer (some ⟨b,0,none⟩)

section
variable {P:Program} {ops:Array Oper} {md:Region.Mode} {w0:World} {kind:Nat→Kind} {dep:Nat→List Nat}

def mF(P:Program){α:Type}(w:World)(mk:α→Value)(φ:α→World→Prop):Result Next→Prop
 | .ok (.value u) w'=>Ext w w'∧∃ x,u=mk x∧φ x w'
 | .ok (.enter f args) w'=>Ext w w'∧Calls P f args w' (fun e w''=>∃ x,e=.returned (mk x)∧Ext w' w''∧φ x w'')
 | _=>False
def bV(P:Program)(o:Oper)(a:Act){α:Type}(w:World)(mk:α→Value)(φ:α→World→Prop):Prop:=mF P w mk φ ((execOp a.eval o).run P w)
def nN(P:Program)(o:Oper)(a:Act)(w:World):Value :=
 match (execOp a.eval o).run P w with
 | .ok (.value v) _=>v
 | _=>undef

def Obl(P:Program)(w0:World)(kind:Nat→Kind)(dep:Nat→List Nat)(i:Nat)(o:Oper)(a:Act)(Γ:Fac):Prop :=
 match kind i with
 | .quiet=>∀ w,Ext w0 w→(execOp a.eval o).run P w=.ok (.value (nN P o a w0)) w
 | .spec _ _ mk φ=>∀ w,Ext w0 w→(∀ k ∈ dep i,Γ k w)→bV P o a w mk φ
 | .alloc T cs=>∀ w,Ext w0 w→(execOp a.eval o).run P w=.ok (.value (ptr w.heap.size)) (w.alloc (.cells cs T))
def Can(P:Program)(w0:World)(kind:Nat→Kind)(i:Nat)(o:Oper)(a:Act)(B:Own)(v:Value)(p:Option (World→Prop))(c:Option Nat):Prop :=
 match kind i with
 | .quiet=>v=nN P o a w0∧p=none∧c=none
 | .spec _ _ mk φ=>∃ x,v=mk x∧p=some (lJ (φ x))∧c=none
 | .alloc T cs=>∃ b,¬ B b∧w0.heap.size≤b∧v=ptr b∧p=some (blk b cs T)∧c=some b
abbrev st:=Act→Fac→Own→Prop
def fOp(P:Program)(ops:Array Oper)(w0:World)(kind:Nat→Kind)(dep:Nat→List Nat)(i:Nat)(K:st)(a:Act)(Γ:Fac)(B:Own):Prop :=
 match ops[i]? with
 | none=>K a Γ B
 | some o=>if Region.wanted o (yielded ops a.tmps) then
   Obl P w0 kind dep i o a Γ∧∀ v p c,Can P w0 kind i o a B v p c→K (a.put o.dst v) (xz Γ i p) (yQ B c)
  else K (a.put o.dst undef) Γ B

theorem zh{i:Nat}{K K':st}{a:Act}{Γ:Fac}{B:Own}(h:∀ a Γ B,K a Γ B→K' a Γ B)(hh:fOp P ops w0 kind dep i K a Γ B):fOp P ops w0 kind dep i K' a Γ B:=by
 unfold fOp at *
 cases ho:ops[i]? with
 | none=>simp only [ho] at *;exact h _ _ _ hh
 | some o =>
  simp only [ho] at *
  by_cases hw:Region.wanted o (yielded ops a.tmps)=true
  ·rw [if_pos hw] at hh ⊢;exact ⟨hh.1,fun v p c hc=>h _ _ _ (hh.2 v p c hc)⟩
  ·rw [if_neg hw] at hh ⊢;exact h _ _ _ hh

def Ae(B:Own):Prop:=∃ N,∀ b,B b→b<N
theorem Ae.ins{B:Own}(h:Ae B)(c:Option Nat):Ae (yQ B c):=by
  obtain ⟨N,hN⟩:=h;cases c with
  | none=>exact ⟨N,hN⟩
  | some b => exact ⟨N + b + 1, fun d hd => by rcases hd with hd | hd; · omega
                                               · have:=hN d hd;omega⟩
theorem r7{B:Own}(hB:Ae B)(i:Nat)(o:Oper)(a:Act):∃ v p c,Can P w0 kind i o a B v p c:=by
 unfold Can;cases kind i with
 | quiet=>exact ⟨_,_,_,rfl,rfl,rfl⟩
 | spec α x0 mk φ=>exact ⟨_,_,_,x0,rfl,rfl,rfl⟩
 | alloc T cs =>
  obtain ⟨N,hN⟩:=hB;exact ⟨_,_,_,N+w0.heap.size,fun h=>by have:=hN _ h;omega,zo,rfl,rfl,rfl⟩

theorem ja{i:Nat}{o:Oper}{a a':Act}{Γ Γ':Fac}(he:execOp a'.eval o=execOp a.eval o)(hΓ:∀ k ∈ dep i,Γ' k=Γ k)
 (h:Obl P w0 kind dep i o a Γ):Obl P w0 kind dep i o a' Γ':=by
 unfold Obl bV nN at *
 rw [he];cases hk:kind i with
 | quiet=>simp only [hk] at *;exact h
 | spec α x0 mk φ=>simp only [hk] at *;exact fun w hw hd=>h w hw (fun k hk'=>by rw [←hΓ k hk'];exact hd k hk')
 | alloc T cs=>simp only [hk] at *;exact h

theorem jn{i:Nat}{o:Oper}{a a':Act}{B B':Own}{v:Value}{p:Option (World→Prop)}{c:Option Nat}(he:execOp a'.eval o=execOp a.eval o)
 (hB:∀ b,c=some b→¬ B b→¬ B' b)(h:Can P w0 kind i o a B v p c):Can P w0 kind i o a' B' v p c:=by
 unfold Can nN at *
 rw [he];cases hk:kind i with
 | quiet=>simp only [hk] at *;exact h
 | spec α x0 mk φ=>simp only [hk] at *;exact h
 | alloc T cs=>simp only [hk] at *;obtain ⟨b,h1,h2,h3,h4,h5⟩:=h;exact ⟨b,hB b h5 h1,h2,h3,h4,h5⟩
theorem wP{i:Nat}{o:Oper}{a:Act}{B:Own}{v:Value}{p:Option (World→Prop)}{c:Option Nat}(h:Can P w0 kind i o a B v p c):∀ b,c=some b→¬ B b:=by
 unfold Can at h;cases hk:kind i with
 | quiet=>simp only [hk] at h;obtain ⟨-,-,rfl⟩:=h;intro b hb;cases hb
 | spec α x0 mk φ=>simp only [hk] at h;obtain ⟨x,-,-,rfl⟩:=h;intro b hb;cases hb
 | alloc T cs=>simp only [hk] at h;obtain ⟨b,h1,h2,h3,h4,rfl⟩:=h;intro d hd;cases hd;exact h1

theorem vS{i:Nat}{K K':st}{a:Act}{Γ:Fac}{B:Own}(hB:Ae B)(h:∀ a Γ B,Ae B→K a Γ B→K' a Γ B)(hh:fOp P ops w0 kind dep i K a Γ B):fOp P ops w0 kind dep i K' a Γ B:=by
 unfold fOp at *
 cases ho:ops[i]? with
 | none=>simp only [ho] at *;exact h _ _ _ hB hh
 | some o =>
  simp only [ho] at *
  by_cases hw:Region.wanted o (yielded ops a.tmps)=true
  ·rw [if_pos hw] at hh ⊢;exact ⟨hh.1,fun v p c hc=>h _ _ _ (hB.ins c) (hh.2 v p c hc)⟩
  ·rw [if_neg hw] at hh ⊢;exact h _ _ _ hB hh

theorem ze{i j:Nat}{oi oj:Oper}(hi:ops[i]?=some oi)(hj:ops[j]?=some oj)(hij:i≠j)(hap:oi.apart ops oj=true)
 (hsi:∀ cs b,oi.op≠.select cs b)(hsj:∀ cs b,oj.op≠.select cs b)(hdi:j ∉ dep i)(hdj:i ∉ dep j){K:st}{a:Act}{Γ:Fac}{B:Own}(hB:Ae B)
 (h:fOp P ops w0 kind dep i (fun a Γ B=>fOp P ops w0 kind dep j K a Γ B) a Γ B):fOp P ops w0 kind dep j (fun a Γ B=>fOp P ops w0 kind dep i K a Γ B) a Γ B:=by
 obtain ⟨h1,h2,h3⟩:=Oper.apart_spec hap;have ej:∀ (a:Act) v,execOp (a.put oi.dst v).eval oj=execOp a.eval oj:=fun a v=>execOp_put oj hsj a oi.dst v h1
 have ei:∀ (a:Act) v,execOp (a.put oj.dst v).eval oi=execOp a.eval oi:=fun a v=>execOp_put oi hsi a oj.dst v h3
 have wj:∀ (a:Act) v,Region.wanted oj (yielded ops (a.put oi.dst v).tmps)=Region.wanted oj (yielded ops a.tmps):=fun a v=>wanted_put oj a oi.dst v h1
 have wi:∀ (a:Act) v,Region.wanted oi (yielded ops (a.put oj.dst v).tmps)=Region.wanted oi (yielded ops a.tmps):=fun a v=>wanted_put oi a oj.dst v h3
 have dj:∀ (Γ:Fac) p,∀ k ∈ dep j,xz Γ i p k=Γ k:=fun Γ p k hk=>tI (fun e=>hdj (e ▸ hk))
 have di:∀ (Γ:Fac) p,∀ k ∈ dep i,xz Γ j p k=Γ k:=fun Γ p k hk=>tI (fun e=>hdi (e ▸ hk))
 have pc:∀ (a:Act) v u,(a.put oi.dst v).put oj.dst u=(a.put oj.dst u).put oi.dst v:=fun a v u=>Act.put_comm a v u h2
 unfold fOp at *
 simp only [hi,hj,wj,wi] at *
 by_cases hwi:Region.wanted oi (yielded ops a.tmps)=true <;> by_cases hwj:Region.wanted oj (yielded ops a.tmps)=true <;> simp only [hwi,hwj,if_true,if_false,Bool.false_eq_true] at h ⊢
 ·obtain ⟨ho,hn⟩:=h;refine ⟨?_,fun v p c hc=>⟨ja (ei a v) (di Γ p) ho,fun u q d hd=>?_⟩⟩
  ·obtain ⟨v,p,c,hc⟩:=r7 (P:=P) (w0:=w0) (kind:=kind) hB i oi a;exact ja (ej a v).symm (fun k hk=>(dj Γ p k hk).symm) (hn v p c hc).1
  ·have hd':Can P w0 kind i oi a B u q d:=jn (ei a v).symm (fun b _ hb hB'=>hb (by cases c <;> first|exact hB' | exact Or.inr hB')) hd;have hc':Can P w0 kind j oj (a.put oi.dst u) (yQ B d) v p c:=jn (ej a u) (fun b hb hnb hB'=>by
    cases d with
    | none=>exact hnb hB'
    | some b' =>
     rcases hB' with hB' | hB'
     ·subst hB';subst hb;exact wP hd b rfl (Or.inl rfl)
     ·exact hnb hB') hc
   have:=(hn u q d hd').2 v p c hc';rw [pc,tJ hij,vA] at this;exact this
 ·obtain ⟨ho,hn⟩:=h;refine ⟨ja (ei a _) (fun _ _=>rfl) ho,fun u q d hd=>?_⟩;have:=hn u q d (jn (ei a _).symm (fun _ _ h=>h) hd);rw [pc] at this;exact this
 ·obtain ⟨ho,hn⟩:=h;refine ⟨ja (ej a _).symm (fun _ _=>rfl) ho,fun u q d hd=>?_⟩;have:=hn u q d (jn (ej a _) (fun _ _ h=>h) hd);rw [pc] at this;exact this
 ·rw [pc] at h;exact h

def lM(P:Program)(md:Region.Mode)(ops:Array Oper)(w0:World)(kind:Nat→Kind)(dep:Nat→List Nat)(n:Nat)(L:Array Bool→st):Nat→Array Bool→st
 | 0,listed=>L listed
 | f+1,listed=>fun a Γ B=>Region.ready md ops listed≠[]∧∀ i ∈ Region.ready md ops listed,i<n∧fOp P ops w0 kind dep i (lM P md ops w0 kind dep n L f (listed.setIfInBounds i true)) a Γ B

structure Inv (w0:World) (Γ:Fac) (B:Own) (w:World):Prop where
 ext:Ext w0 w
 facts:∀ k,Γ k w
 own:∀ b,B b→b<w.heap.size
 mono:∀ k w w',Ext w w'→Γ k w→Γ k w'

theorem Inv.step{Γ:Fac}{B:Own}{w w':World}(h:Inv w0 Γ B w)(he:Ext w w')(i:Nat)(p:World→Prop)(hp:p w')(hm:∀ w w',Ext w w'→p w→p w'):Inv w0 (upd Γ i p) B w' where
 ext:=h.ext.trans he
 facts k:=by
  by_cases hk:k=i
  ·subst hk;rw [jS];exact hp
  ·rw [tH hk];exact h.mono _ _ _ he (h.facts k)
 own b hb:=nXn (h.own b hb) he.size
 mono k w w' he hk:=by
  by_cases hk':k=i
  ·subst hk';rw [jS] at *;exact hm _ _ he hk
  ·rw [tH hk'] at *;exact h.mono _ _ _ he hk

theorem oY{i:Nat}{a:Act}{Γ:Fac}{B:Own}{K:st}{K':Act→World→Prop}{Q':Exit→Act→World→Prop}{w:World}(hI:Inv w0 Γ B w)
   (h:∀ a' Γ' B' w',Inv w0 Γ' B' w'→K a' Γ' B'→K' a' w')(hh:fOp P ops w0 kind dep i K a Γ B):wpOp P ops Q' i K' a w:=by
  unfold fOp at hh;unfold wpOp;cases ho:ops[i]? with
  | none=>simp only [ho] at *;exact h _ _ _ _ hI hh
  | some o =>
    simp only [ho] at *
    by_cases hw:Region.wanted o (yielded ops a.tmps)=true
    · rw [if_pos hw] at hh ⊢
      obtain ⟨hob,hn⟩:=hh;refine Or.inl ?_;unfold Oper.wp;unfold Obl at hob;unfold Can at hn;cases hk:kind i with
      | quiet =>
        simp only [hk] at hob hn;rw [hob w hI.ext];exact h _ _ _ _ hI (hn _ _ _ ⟨rfl,rfl,rfl⟩)
      | spec α x0 mk φ =>
        simp only [hk] at hob hn;have hs:=hob w hI.ext (fun k _=>hI.facts k);unfold bV at hs;generalize (execOp a.eval o).run P w=r at *
        cases r with
        | ok nx w' =>
          cases nx <;> simp only [mF] at hs <;> simp only [Oper.upon]
          case value u =>
            obtain ⟨he,x,rfl,hx⟩:=hs;exact h _ _ _ _ (hI.step he i _ ⟨w',Ext.refl _,hx⟩ (fun _ _ he hh=>hh.mono he)) (hn _ _ _ ⟨x,rfl,rfl,rfl⟩)
          case enter f args =>
            obtain ⟨he,hc⟩:=hs;refine hc.mono fun e w'' ⟨x,hx,he',hφ⟩=>?_
            subst hx;exact h _ _ _ _ (hI.step (he.trans he') i _ ⟨w'',Ext.refl _,hφ⟩ (fun _ _ he hh=>hh.mono he)) (hn _ _ _ ⟨x,rfl,rfl,rfl⟩)
        | halt x w'=>simp only [mF] at hs
      | alloc T cs =>
        simp only [hk] at hob hn;rw [hob w hI.ext];refine h _ _ _ _ ?_ (hn _ _ _ ⟨w.heap.size,fun hb=>Nat.lt_irrefl _ (hI.own _ hb),hI.ext.size,rfl,rfl,rfl⟩);have hI':=hI.step (Ext.alloc w (.cells cs T)) i (blk w.heap.size cs T) (by show (w.heap.push _)[w.heap.size]?=_;simp) (fun _ _ he hh=>he.block hh)
        exact ⟨hI'.ext, hI'.facts, fun b hb => by rcases hb with rfl | hb; · simp
                                                  · exact hI'.own b hb,hI'.mono⟩
    · rw [if_neg hw] at hh ⊢
      exact h _ _ _ _ hI hh

theorem fg{n g:Nat}{L:Array Bool→st}{Q':Exit→Act→World→Prop}(hL:∀ listed a Γ B w,Inv w0 Γ B w→L listed a Γ B→wpAny P md ops Q' g listed a w) :
  ∀ (f:Nat) (listed:Array Bool) (a:Act) (Γ:Fac) (B:Own) (w:World),Inv w0 Γ B w→lM P md ops w0 kind dep n L f listed a Γ B→wpAny P md ops Q' (f+g) listed a w
 | 0,listed,a,Γ,B,w,hI,h=>by rw [Nat.zero_add];exact hL _ _ _ _ _ hI h
 | f+1,listed,a,Γ,B,w,hI,h=>by
  rw [show f+1+g=(f+g)+1 by omega];exact ⟨fun h0=>absurd h0 h.1,fun i hi=>oY hI (fun a' Γ' B' w' hI' h'=>fg hL f _ a' Γ' B' w' hI' h') (h.2 i hi).2⟩

def D9(md:Region.Mode)(ops:Array Oper)(dep:Nat→List Nat):Bool :=
 (List.range ops.size).all fun i=>match ops[i]? with
  | some oi=>(dep i).all fun k=>oi.after.any fun e=>Region.binds md e && decide (e.on<i) && (e.on == k || (dep e.on).contains k)
  | none=>true
theorem wA(h:D9 md ops dep=true){i:Nat}{oi:Oper}(hi:ops[i]?=some oi){k:Nat}(hk:k ∈ dep i) :
  ∃ e ∈ oi.after,Region.binds md e=true∧e.on<i∧(e.on=k∨k ∈ dep e.on):=by
 have h1:=List.all_eq_true.1 h i (List.mem_range.2 (nXb.1 hi).1);simp only [hi] at h1;have h2:=List.all_eq_true.1 h1 k hk;obtain ⟨e,he,hb⟩:=Array.any_eq_true'.1 h2;simp only [Bool.and_eq_true,Bool.or_eq_true,decide_eq_true_eq,beq_iff_eq,List.contains_iff_mem] at hb;exact ⟨e,he,hb.1.1,hb.1.2,hb.2⟩
theorem mj{n:Nat}(hd:D9 md ops dep=true){listed:Array Bool}(inv:HeadInv md ops n listed) :
  ∀ (i:Nat) (oi:Oper),ops[i]?=some oi→(∀ e ∈ oi.after,Region.binds md e=true→listed.getD e.on false=true)→∀ k ∈ dep i,listed.getD k false=true:=by
 intro i;induction i using Nat.strongRecOn with
 | _ i ih =>
  intro oi hi hall k hk;obtain ⟨e,he,hb,hlt,hor⟩:=wA hd hi hk;have hl:=hall e he hb;rcases hor with rfl|hor
  ·exact hl
  ·have hsz:e.on<ops.size:=by
    have:i<ops.size:=(nXb.1 hi).1;omega
   have hoe:ops[e.on]?=some ops[e.on]:=Array.getElem?_eq_getElem hsz;exact ih e.on hlt _ hoe (inv.closed e.on _ hoe hl) k hor

theorem nK{n i:Nat}{oi:Oper}{L:Array Bool→st}(hi:ops[i]?=some oi)(hsel:∀ (j:Nat) (o:Oper) cs b,ops[j]?=some o→o.op≠.select cs b)
 (hd:D9 md ops dep=true)
 (hT:∀ listed,HeadInv md ops n listed→∀ i,i<n→listed.getD i true=false→∀ t,n≤t→t ∉ Region.ready md ops listed)(hin:i<n)
 (hdone:∀ listed a Γ B,L listed a Γ B→∀ j ∈ Region.ready md ops listed,n≤j) :
  ∀ (f:Nat) (listed:Array Bool) (a:Act) (Γ:Fac) (B:Own),Ae B→HeadInv md ops n listed →
   (∀ j oj,ops[j]?=some oj→j≠i→listed.getD j true=false→(∀ e ∈ oj.after,Region.binds md e=true→e.on≠i)→oi.apart ops oj=true) →
   i ∈ Region.ready md ops listed →
   fOp P ops w0 kind dep i (lM P md ops w0 kind dep n L f (listed.setIfInBounds i true)) a Γ B→lM P md ops w0 kind dep n L (f+1) listed a Γ B:=by
 intro f;induction f with
 | zero =>
  intro listed a Γ B hB inv _ hr H;have hun:=(mem_ready.1 hr).1;refine ⟨fun h=>(by rw [h] at hr;cases hr),fun j hj=>?_⟩;have hjn:j<n:=by
   rcases Nat.lt_or_ge j n with h|h
   ·exact h
   ·exact absurd hj (hT listed inv i hin hun j h)
  refine ⟨hjn,?_⟩;by_cases hji:j=i
  ·subst hji;exact H
  ·exfalso;have hex:∃ a Γ B,L (listed.setIfInBounds i true) a Γ B:=by
    unfold fOp at H;simp only [hi] at H;by_cases hw:Region.wanted oi (yielded ops a.tmps)=true
    ·rw [if_pos hw] at H;obtain ⟨v,p,c,hc⟩:=r7 (P:=P) (w0:=w0) (kind:=kind) hB i oi a;exact ⟨_,_,_,H.2 v p c hc⟩
    ·rw [if_neg hw] at H;exact ⟨_,_,_,H⟩
   obtain ⟨a',Γ',B',hL⟩:=hex;have:=hdone _ _ _ _ hL j (ready_mono hj hji);omega
 | succ f ih =>
  intro listed a Γ B hB inv hfree hr H;have hun:=(mem_ready.1 hr).1;refine ⟨fun h=>(by rw [h] at hr;cases hr),fun j hj=>?_⟩;have hjn:j<n:=by
   rcases Nat.lt_or_ge j n with h|h
   ·exact h
   ·exact absurd hj (hT listed inv i hin hun j h)
  refine ⟨hjn,?_⟩;by_cases hji:j=i
  ·subst hji;exact H
  ·have h1:fOp P ops w0 kind dep i (fun a Γ B=>fOp P ops w0 kind dep j (lM P md ops w0 kind dep n L f ((listed.setIfInBounds i true).setIfInBounds j true)) a Γ B) a Γ B :=
    zh (fun a' Γ' B' h'=>(h'.2 j (ready_mono hj hji)).2) H
   obtain ⟨hjun,oj,hoj,hall⟩:=mem_ready.1 hj;obtain ⟨_,oi',hoi',halli⟩:=mem_ready.1 hr;have:oi'=oi:=Option.some.inj (hoi'.symm.trans hi);subst this;have hnot:∀ e ∈ oj.after,Region.binds md e=true→e.on≠i:=fun e he hb heq=>by
    have h1:=hall e he hb;rw [heq,getD_both hun] at h1;cases h1
   have hdi:j ∉ dep i:=fun hm=>by
    have:=mj hd inv i _ hi halli j hm;rw [getD_both hjun] at this;cases this
   have hdj:i ∉ dep j:=fun hm=>by
    have:=mj hd inv j _ hoj hall i hm;rw [getD_both hun] at this;cases this
   have h2:=ze hi hoj (Ne.symm hji) (hfree j oj hoj hji hjun hnot) (fun cs b=>hsel i _ cs b hi) (fun cs b=>hsel j oj cs b hoj) hdi hdj hB h1;have hfree':∀ k ok,ops[k]?=some ok→k≠i→(listed.setIfInBounds j true).getD k true=false →
     (∀ e ∈ ok.after,Region.binds md e=true→e.on≠i)→oi'.apart ops ok=true:=fun k ok hk hki hun hno=>by
    refine hfree k ok hk hki ?_ hno;by_cases hjk:j=k
    ·subst hjk;exact hjun
    ·rw [getD_set_ne true hjk] at hun;exact hun
   rw [Array.setIfInBounds_comm _ _ (Ne.symm hji)] at h2;refine vS hB (fun a' Γ' B' hB' h3=>ih (listed.setIfInBounds j true) a' Γ' B' hB' (inv.set hj hjn) hfree' (ready_mono hr (Ne.symm hji)) h3) h2

def wpF(P:Program)(ops:Array Oper)(w0:World)(kind:Nat→Kind)(dep:Nat→List Nat)(Q:st):List Oper→Nat→st
 | [],_,a,Γ,B=>Q a Γ B
 | o :: rest,k,a,Γ,B=>if Region.wanted o (yielded ops a.tmps) then
   Obl P w0 kind dep k o a Γ∧∀ v p c,Can P w0 kind k o a B v p c→wpF P ops w0 kind dep Q rest (k+1) (a.put o.dst v) (xz Γ k p) (yQ B c)
  else wpF P ops w0 kind dep Q rest (k+1) (a.put o.dst undef) Γ B

theorem js{n g:Nat}{Lq:st}(hsel:Region.noSelect ops=true)(hd:D9 md ops dep=true)
 (hT:∀ listed,HeadInv md ops n listed→∀ i,i<n→listed.getD i true=false→∀ t,n≤t→t ∉ Region.ready md ops listed) :
  ∀ (l:List Oper) (k:Nat) (listed:Array Bool) (a:Act) (Γ:Fac) (B:Own),Ae B→(∀ j,j<l.length→l[j]?=ops[k+j]?)→k+l.length=n→HeadInv md ops n listed →
  Region.lexHead md ops g l.length k listed=true→wpF P ops w0 kind dep Lq l k a Γ B →
  lM P md ops w0 kind dep n (fun listed' a' Γ' B'=>Region.seqB md ops g n listed'=true∧Lq a' Γ' B') l.length listed a Γ B
 | [],k,listed,a,Γ,B,_,_,hk,_,hB,h=>by
  have:k=n:=by simpa using hk
  subst this;exact ⟨by simpa [Region.lexHead] using hB,h⟩
 | o :: l,k,listed,a,Γ,B,hfin,hl,hk,inv,hB,h=>by
  have h0:ops[k]?=some o:=by simpa using (hl 0 (by simp)).symm
  simp only [List.length_cons,Region.lexHead,Bool.and_eq_true] at hB;obtain ⟨⟨hr,hf⟩,hB'⟩:=hB;have hkn:k<n:=by simp only [List.length_cons] at hk;omega
  have hr':k ∈ Region.ready md ops listed:=by simpa using hr
  have hst:fOp P ops w0 kind dep k (wpF P ops w0 kind dep Lq l (k+1)) a Γ B:=by unfold fOp;simp only [h0];exact h
  exact nK h0 (Region.noSelect_spec hsel) hd hT hkn (fun listed' a' Γ' B' hL=>seqB_ready hL.1) l.length listed a Γ B hfin inv (Region.free_spec h0 hf) hr'
   (vS hfin (fun a' Γ' B' hfin' h'=>js hsel hd hT l (k+1) _ a' Γ' B' hfin' (fun j hj=>by have:=hl (j+1) (by simp;omega);simpa [Nat.add_assoc,nYj 1 j] using this) (by simp only [List.length_cons] at hk;omega) (inv.set hr' hkn) hB' h') hst)

def lg(md:Region.Mode)(ops:Array Oper)(n:Nat)(dep:Nat→List Nat):Bool :=
 Region.noSelect ops && (n == ops.size || (decide (n<ops.size) && Region.sinkB md ops n && Region.chainB md ops n)) && D9 md ops dep && Region.lexHead md ops (ops.size-n) n 0 (Array.replicate ops.size false)

theorem xv{id:Nat}{Q:Exit→Act→World→Prop}{a:Act}{w:World}{l:List Oper}(n:Nat)(kind:Nat→Kind)(dep:Nat→List Nat)(hm:P.follows .mixedOrders=true)
 (hB:lg .any l.toArray n dep=true)
 (h:wpF P l.toArray w.drew kind dep (fun a' Γ B=>∀ w',Inv w.drew Γ B w'→wpList P l.toArray Q (l.drop n) a' w') (l.take n) 0 a (fun _ _=>True) (fun _=>False)) :
  (Code.region id l.toArray true).wp P Q a w:=by
 simp only [lg,Bool.and_eq_true,Bool.or_eq_true,beq_iff_eq,decide_eq_true_eq] at hB;obtain ⟨⟨⟨hsel,hor⟩,hd⟩,hlex⟩:=hB;have hn':n≤l.length:=by
  rcases hor with h|h
  ·simp at h;omega
  ·have:=h.1.1;simp at this;omega
 have hT:∀ listed,HeadInv .any l.toArray n listed→∀ i,i<n→listed.getD i true=false→∀ t,n≤t→t ∉ Region.ready .any l.toArray listed:=by
  intro listed inv i hi hun t ht hr;rcases hor with h|h
  ·obtain ⟨_,ot,hot,_⟩:=mem_ready.1 hr;have:=(nXb.1 hot).1;omega
  ·exact tail_waits h.1.2 h.2 h.1.1 inv _ i rfl hi hun t ht hr
 have htl:(l.take n).length=n:=by simp;omega
 have hdl:(l.drop n).length=l.toArray.size-n:=by simp
 have inv0:HeadInv .any l.toArray n (Array.replicate l.toArray.size false) :=
  ⟨by simp,fun j oj _ hl=>(by rw [getD_replicate_false] at hl;cases hl),fun t _ ht=>getD_in (by simpa using ht) (getD_replicate_false _ _)⟩
 have H:=js (md:=.any) (g:=l.toArray.size-n) hsel hd hT (l.take n) 0 _ a _ _ ⟨0,fun _ h=>h.elim⟩ (fun j hj=>by
  have hj':j<n:=by rw [htl] at hj;exact hj
  simp [hj']) (by simpa using htl) inv0 (by rw [htl];exact hlex) h
 refine wp_region_any hm ?_;have:=fg (Q':=Q) (g:=l.toArray.size-n) (fun listed a' Γ B w' hI hL=>by
  have:=wpAny_of_seq (md:=.any) (Q':=Q) (l.drop n) n listed a' w' (fun j=>by simp [List.getElem?_drop]) (by rw [hdl];exact hL.1) (hL.2 w' hI)
  rwa [hdl] at this) _ _ _ _ _ w.drew ⟨Ext.refl _,fun _=>trivial,fun _ h=>h.elim,fun _ _ _ _ h=>h⟩ H
 rw [htl,show n+(l.toArray.size-n)=l.toArray.size by omega] at this;exact this

theorem ah{id:Nat}{Q:Exit→Act→World→Prop}{a:Act}{w:World}{l:List Oper}(n:Nat)(kind:Nat→Kind)(dep:Nat→List Nat)(hm:P.follows .mixedOrders=true)
 (hB:lg .any l.toArray n dep=true)
 (h:∀ w0:World,Ext w w0→w0.heap.size=w.heap.size→(∀ p,w0.cell? p=w.cell? p)→(∀ p,w0.frozen? p=w.frozen? p) →
   wpF P l.toArray w0 kind dep (fun a' Γ B=>∀ w',Inv w0 Γ B w'→wpList P l.toArray Q (l.drop n) a' w') (l.take n) 0 a (fun _ _=>True) (fun _=>False)) :
  (Code.region id l.toArray true).wp P Q a w :=
 xv n kind dep hm hB (h w.drew (Ext.drew w) rfl (fun _=>rfl) (fun _=>rfl))

/-! ### Steps of the walk -/
section
variable {Q:st} {o:Oper} {rest:List Oper} {k:Nat} {a:Act} {Γ:Fac} {B:Own}
def jt:Op→Bool
 | .move _ | .assign _ | .pick .. | .build .. | .load .. | .binOp .. | .unOp .. | .convert .. | .makeFunc .. | .slice .. | .fieldAddr .. | .field .. | .indexAddr .. | .index .. | .extract ..=>true
 | .call { callee:=.builtin .len,.. }=>true
 | _=>false
def xe(P:Program)(o:Oper)(a:Act):Prop:=∀ w nx w',(execOp a.eval o).run P w=.ok nx w'→∃ v,nx=.value v
theorem mr{α:Type}(s:Sem α)(g:α→Value)(w:World)(nx:Next)(w':World):(s >>= fun x=>(pure (.value (g x)):Sem Next)).run P w=.ok nx w'→∃ v,nx=Next.value v:=by
 rw [Sem.run_bind];cases s.run P w with
 | ok x w1=>intro h;cases h;exact ⟨_,rfl⟩
 | halt x w1=>intro h;cases h
theorem nL(h:jt o.op=true):xe P o a:=by
 intro w nx w' hr;obtain ⟨dst,op,type,pos,after,guard⟩:=o;cases op <;> first|(simp [jt] at h;done)|skip
 case call c =>
  obtain ⟨callee,args,argTypes⟩:=c;cases callee <;> first|(simp [jt] at h;done)|skip
  rename_i b
  cases b <;> first|(simp [jt] at h;done)|skip
  have:execOp a.eval { dst,op:=Op.call { callee:=.builtin .len,args,argTypes },type,pos,after,guard }=(do pure (.value (←Builtin.len_ argTypes type (args.map a.eval)))):=rfl;rw [this] at hr;exact mr _ _ w nx w' hr
 all_goals first
  | (simp only [execOp] at hr;exact mr _ _ w nx w' hr)
  | (simp only [execOp] at hr;simp only [Sem.run,pure] at hr;cases hr;exact ⟨_,rfl⟩)

theorem tE(hk:kind k=.quiet)(hg:Region.wanted o (yielded ops a.tmps)=true)(hv:jt o.op=true)
 (h:∀ K:Act→Prop,(∀ a',wpF P ops w0 kind dep Q rest (k+1) a' Γ B→K a')→o.quiet P a (Cls w0) K):wpF P ops w0 kind dep Q (o :: rest) k a Γ B:=by
 obtain ⟨v,hq,hn⟩:=h _ (fun _ h=>h);have run:∀ w,Ext w0 w→(execOp a.eval o).run P w=.ok (.value v) w:=by
  intro w hw;have:=hq w (Cls.of hw);unfold Oper.quietAt at this;have hne:=nL (P:=P) (a:=a) hv w;generalize (execOp a.eval o).run P w=r at *
  cases r with
  | ok nx w' =>
   obtain ⟨u,rfl⟩:=hne nx w' rfl;simp only [Oper.quietUpon] at this;obtain ⟨rfl,rfl⟩:=this;rfl
  | halt x w'=>simp only [Oper.quietUpon] at this
 have hval:nN P o a w0=v:=by unfold nN;rw [run w0 (Ext.refl _)]
 unfold wpF;rw [if_pos hg];refine ⟨?_,fun u p c hc=>?_⟩
 ·unfold Obl;rw [hk];simp only [hval];exact run
 ·unfold Can at hc;rw [hk] at hc;obtain ⟨rfl,rfl,rfl⟩:=hc;rw [hval];exact hn
theorem tD(v:Value)(hk:kind k=.quiet)(hg:Region.wanted o (yielded ops a.tmps)=true)(run:∀ w,Ext w0 w→(execOp a.eval o).run P w=.ok (.value v) w)
 (h:wpF P ops w0 kind dep Q rest (k+1) (a.put o.dst v) Γ B):wpF P ops w0 kind dep Q (o :: rest) k a Γ B:=by
 have hval:nN P o a w0=v:=by unfold nN;rw [run w0 (Ext.refl _)]
 unfold wpF;rw [if_pos hg];refine ⟨?_,fun u p c hc=>?_⟩
 ·unfold Obl;rw [hk];simp only [hval];exact run
 ·unfold Can at hc;rw [hk] at hc;obtain ⟨rfl,rfl,rfl⟩:=hc;rw [hval];exact h
theorem jH{x:Operand}{p:Addr}(hk:kind k=.quiet)(hg:Region.wanted o (yielded ops a.tmps)=true)(ho:o.op=.nilCheck x)(hx:a.eval x=.pointer (some p))
 (h:wpF P ops w0 kind dep Q rest (k+1) (a.put o.dst (.pointer (some p))) Γ B):wpF P ops w0 kind dep Q (o :: rest) k a Γ B:=by
 refine tD _ hk hg (fun w _=>?_) h;obtain ⟨dst,op,type,pos,after,guard⟩:=o;simp only at ho;subst ho;simp only [execOp,hx];rfl
theorem wpq(h:∀ K:Act→Prop,(∀ a',wpF P ops w0 kind dep Q rest (k+1) a' Γ B→K a')→o.quiet P a (Cls w0) K)(hk:kind k=.quiet:=by rfl)(hg:Region.wanted o (yielded ops a.tmps)=true:=by rfl)(hv:jt o.op=true:=by rfl):wpF P ops w0 kind dep Q (o :: rest) k a Γ B:=tE hk hg hv h
theorem bN{α:Type}{x0:α}{mk:α→Value}{φ:α→World→Prop}(hk:kind k=.spec α x0 mk φ)(hg:Region.wanted o (yielded ops a.tmps)=true)
 (h1:∀ w,Ext w0 w→(∀ j ∈ dep k,Γ j w)→bV P o a w mk φ)(h2:∀ x,wpF P ops w0 kind dep Q rest (k+1) (a.put o.dst (mk x)) (upd Γ k (lJ (φ x))) B) :
  wpF P ops w0 kind dep Q (o :: rest) k a Γ B:=by
 unfold wpF;rw [if_pos hg];refine ⟨?_,fun u p c hc=>?_⟩
 ·unfold Obl;rw [hk];exact h1
 ·unfold Can at hc;rw [hk] at hc;obtain ⟨x,rfl,rfl,rfl⟩:=hc;exact h2 x
theorem wps{w2:World}(he:RowKit.Hid (Ext w2 w0)){α:Type}{x0:α}{mk:α→Value}{φ:α→World→Prop}(h1:∀ w,Ext w2 w→(∀ j ∈ dep k,Γ j w)→bV P o a w mk φ)(h2:∀ x,wpF P ops w0 kind dep Q rest (k+1) (a.put o.dst (mk x)) (upd Γ k (lJ (φ x))) B)(hk:kind k=.spec α x0 mk φ:=by rfl)(hg:Region.wanted o (yielded ops a.tmps)=true:=by rfl):wpF P ops w0 kind dep Q (o :: rest) k a Γ B:=bN hk hg (fun w hw hd=>h1 w (he.out.trans hw) hd) h2
theorem aW{T:TypeId}{cs:Array Value}(hk:kind k=.alloc T cs)(hg:Region.wanted o (yielded ops a.tmps)=true)
 (h1:∀ w,(execOp a.eval o).run P w=.ok (.value (ptr w.heap.size)) (w.alloc (.cells cs T)))
 (h2:∀ b,¬ B b→w0.heap.size≤b→wpF P ops w0 kind dep Q rest (k+1) (a.put o.dst (ptr b)) (upd Γ k (blk b cs T)) (fun c=>c=b∨B c)) :
  wpF P ops w0 kind dep Q (o :: rest) k a Γ B:=by
 unfold wpF;rw [if_pos hg];refine ⟨?_,fun u p c hc=>?_⟩
 ·unfold Obl;rw [hk];exact fun w _=>h1 w
 ·unfold Can at hc;rw [hk] at hc;obtain ⟨b,hb,hs,rfl,rfl,rfl⟩:=hc;exact h2 b hb hs
theorem aq(h:Q a Γ B):wpF P ops w0 kind dep Q [] k a Γ B:=h
theorem gj{f:FuncId}{fn:Func}{args:Array Value}{w:World}(hf:P.funcs[f]?=some fn)(hn:(fn.name == "runtime.NumGoroutine")=false)(hb:fn.body.isNone=false) :
  (callFunc f args).run P w=.ok (.enter f args) w:=by
 unfold callFunc;rw [Sem.run_bind];show (match P.funcs[f]? with|none=>_|some fn=>_:Sem Next).run P w=_;rw [hf];simp only [hn,hb,if_false,Bool.false_eq_true];rfl
theorem gi{α:Type}{mk:α→Value}{φ:α→World→Prop}{w:World}{f:FuncId}{fn:Func}{xs:Array Operand}{ats:Array TypeId}(args:List Value)
 (ho:o.op=.call { callee:=.value (.func f),args:=xs,argTypes:=ats })(ha:xs.toList.map a.eval=args)
 (hf:P.funcs[f]?=some fn)(hn:(fn.name == "runtime.NumGoroutine")=false)(hb:fn.body.isNone=false)
 (h:Calls P f args.toArray w (fun e w''=>∃ x,e=.returned (mk x)∧Ext w w''∧φ x w'')):bV P o a w mk φ:=by
 obtain ⟨dst,op,type,pos,after,guard⟩:=o;simp only at ho;subst ho;unfold bV;have ha':#[]++xs.map a.eval++#[]=args.toArray:=by
  rw [←ha,Array.append_empty,Array.empty_append];apply Array.ext';simp
 rw [execOp_call_go,ha',gj hf hn hb];exact ⟨Ext.refl _,h⟩
theorem spc{α:Type}{mk:α→Value}{φ:α→World→Prop}{w:World}{f:FuncId}{fn:Func}{xs:Array Operand}{ats:Array TypeId}(args:List Value)(hf:P.funcs[f]?=some fn)(h:Calls P f args.toArray w (fun e w''=>∃ x,e=.returned (mk x)∧Ext w w''∧φ x w''))(ho:o.op=.call { callee:=.value (.func f),args:=xs,argTypes:=ats }:=by rfl)(ha:xs.toList.map a.eval=args:=by rfl)(hn:(fn.name == "runtime.NumGoroutine")=false:=by kernel_rfl)(hb:fn.body.isNone=false:=by kernel_rfl):bV P o a w mk φ:=gi args ho ha hf hn hb h
theorem qQ{p q:Prop}(c:q)(h:Bx q→p:=by intro h;(repeat (refine wpq fun K k=>?_;go_big_quiet_op;refine k _ ?_;clear k K));exact h.out):p:=h ⟨c⟩
theorem qZ{p q:Prop}(c:q)(h:Bx q→p:=by intro h;simp only [pS];(repeat (refine wpq fun K k=>?_;go_big_quiet_op;refine k _ ?_;clear k K));exact h.out):p:=h ⟨c⟩
theorem wpG{P:Program}{id:Nat}{Q:Exit→Act→World→Prop}{a:Act}{w:World}{l:List Oper}{G:World→Prop}(n:Nat)(kind:Nat→Kind)(dep:Nat→List Nat)(h:∀ w0:World,RowKit.Hid (Ext w w0)→w0.heap.size=w.heap.size→(∀ p,w0.cell? p=w.cell? p)→(∀ p,w0.frozen? p=w.frozen? p)→G w0)(hm:P.follows .mixedOrders=true:=by kernel_rfl)(hB:lg .any l.toArray n dep=true:=by kernel_rfl)(hg:∀ w0:World,RowKit.Hid (Ext w w0)→w0.heap.size=w.heap.size→(∀ p,w0.cell? p=w.cell? p)→(∀ p,w0.frozen? p=w.frozen? p)→Bx (G w0)→wpF P l.toArray w0 kind dep (fun a' Γ B=>∀ w',Inv w0 Γ B w'→wpList P l.toArray Q (l.drop n) a' w') (l.take n) 0 a (fun _ _=>True) (fun _=>False):=by intro w0 he0 hz0 hc0 hf0 h;simp only [pT];(repeat (refine wpq fun K k=>?_;go_big_quiet_op;refine k _ ?_;clear k K));exact h.out):(Code.region id l.toArray true).wp P Q a w:=ah n kind dep hm hB fun w0 e1 e2 e3 e4=>hg w0 e1 e2 e3 e4 ⟨h w0 e1 e2 e3 e4⟩
end
end
def mu:List Oper→Nat→Nat→List Oper
 | [],_,_=>[]
 | o :: l,0,p=>{ o with after:=o.after.push { on:=p,ground:=Ground.data } } :: l
 | o :: l,t+1,p=>o :: mu l t p
theorem qg(l:List Oper)(t p j:Nat)(h:j≠t):(mu l t p)[j]?=l[j]?:=by
 induction l generalizing t j with
 | nil=>rfl
 | cons o l ih =>
  cases t with
  | zero=>cases j with
   | zero=>exact absurd rfl h
   | succ j=>rfl
  | succ t=>cases j with
   | zero=>rfl
   | succ j=>exact ih t j (fun e=>h (by rw [e]))
theorem qh(l:List Oper)(t p:Nat):(mu l t p)[t]?=l[t]?.map (fun o=>{ o with after:=o.after.push { on:=p,ground:=Ground.data } }):=by
 induction l generalizing t with
 | nil=>rfl
 | cons o l ih =>
  cases t with
  | zero=>rfl
  | succ t=>exact ih t
theorem ly(l:List Oper)(t p:Nat):(mu l t p).length=l.length:=by
 induction l generalizing t with
 | nil=>rfl
 | cons o l ih =>
  cases t with
  | zero=>rfl
  | succ t=>simp [mu,ih t]
theorem sj(l:List Oper)(t p j:Nat):∃ f:Oper→Array Edge,(mu l t p)[j]?=l[j]?.map (fun o=>{ o with after:=f o }):=by
 by_cases h:j=t
 ·subst h;exact ⟨_,qh l j p⟩
 ·refine ⟨fun o=>o.after,?_⟩;rw [qg l t p j h];cases l[j]? <;> rfl
theorem nI(l:List Oper)(t p:Nat):yielded (mu l t p).toArray=yielded l.toArray:=by
 funext tmps g
 unfold yielded;obtain ⟨f,hf⟩:=sj l t p g;simp only [List.getElem?_toArray];rw [hf];cases l[g]? <;> rfl
theorem oJ(ρ:Operand→Value)(o:Oper)(x:Array Edge):execOp ρ { o with after:=x }=execOp ρ o:=by
 obtain ⟨dst,op,type,pos,after,guard⟩:=o;cases op <;> rfl
section
variable {P:Program} {Q:Exit→Act→World→Prop}
theorem nJ(l:List Oper)(t p i:Nat)(K:Act→World→Prop)(a:Act)(w:World)(h:wpOp P (mu l t p).toArray Q i K a w):wpOp P l.toArray Q i K a w:=by
 unfold wpOp at *
 obtain ⟨f,hf⟩:=sj l t p i;simp only [List.getElem?_toArray] at *
 rw [hf,nI] at h;cases ho:l[i]? with
 | none=>simp only [ho,Option.map_none] at h ⊢;exact h
 | some o =>
  simp only [ho,Option.map_some] at h ⊢;have e1:Region.wanted { o with after:=f o } (yielded l.toArray a.tmps)=Region.wanted o (yielded l.toArray a.tmps):=rfl;rw [e1] at h;by_cases hw:Region.wanted o (yielded l.toArray a.tmps)=true
  ·rw [if_pos hw] at h ⊢;unfold Oper.wp Oper.asks at *
   rw [oJ] at h;exact h
  ·rw [if_neg hw] at h ⊢;exact h
def Cn(l:List Oper)(t p:Nat):Bool :=
 Region.noSelect l.toArray && t != p && match l[p]?,l[t]? with
  | some op,some ot=>op.guard.isNone && (match op.op with | .extract ..=>true | .move _=>true|_=>false) &&
    op.after.all (fun e=>!Region.binds .any e || ot.after.any (fun e'=>Region.binds .any e' && e'.on == e.on)) && (List.range l.length).all (fun j=>j == p || op.after.any (fun e=>Region.binds .any e && e.on == j) || match l[j]? with|some oj=>oj.after.any (fun e=>Region.binds .any e && e.on == p) || op.apart l.toArray oj|none=>true)
  | _,_=>false
theorem jM(a:Act)(dst:Option Tmp)(x:Operand)(i:Nat)(type:TypeId)(pos:String)(after:Array Edge) :
  (∃ u,∀ w,(execOp a.eval { dst,op:=.extract x i,type,pos,after,guard:=none }).run P w=.ok (.value u) w) ∨
   ∃ r,execOp a.eval { dst,op:=.extract x i,type,pos,after,guard:=none }=(stuck r >>= fun v=>pure (.value v)):=by
 have e:execOp a.eval { dst,op:=.extract x i,type,pos,after,guard:=none }=(Instr.extract (a.eval x) i >>= fun v=>pure (.value v)):=rfl;rw [e];unfold Instr.extract;split
 ·split
  ·left;exact ⟨_,fun w=>rfl⟩
  ·right;exact ⟨_,rfl⟩
 ·right;exact ⟨_,rfl⟩
theorem lH{ops:Array Oper}{p:Nat}{o:Oper}{x:Operand}{i:Nat}(hp:ops[p]?=some o)(ho:o.op=.extract x i)(hg:o.guard=none){K:Act→World→Prop}{a:Act}{w:World}(h:wpOp P ops Q p K a w) :
  ∃ v,Yields P ops o v a∧K (a.put o.dst v) w:=by
 obtain ⟨dst,op,type,pos,after,guard⟩:=o;simp only at ho hg;subst ho hg;unfold wpOp at h;simp only [hp] at h;have hw:Region.wanted { dst,op:=.extract x i,type,pos,after,guard:=none } (yielded ops a.tmps)=true:=rfl;rw [if_pos hw] at h;rcases jM (P:=P) a dst x i type pos after with ⟨u,hu⟩|⟨r,hr⟩
 ·refine ⟨u,Or.inl ⟨hw,hu⟩,?_⟩;rcases h with h|h
  ·unfold Oper.wp at h;rw [hu] at h;exact h
  ·exfalso;have:=h.1.1;rcases jM (P:=P) a dst x i type pos after with ⟨u,hu⟩|⟨r,hr⟩
   ·have e:execOp a.eval { dst,op:=.extract x i,type,pos,after,guard:=none }=(Instr.extract (a.eval x) i >>= fun v=>pure (.value v)):=rfl;rw [e] at this;unfold Instr.extract at this;split at this
    ·split at this
     ·exact Array.not_mem_empty _ this
     ·exact Array.not_mem_empty _ this
    ·exact Array.not_mem_empty _ this
   ·rw [hr] at this;exact Array.not_mem_empty _ this
 ·exfalso;rcases h with h|h
  ·unfold Oper.wp at h;rw [hr] at h;exact h
  ·have:=h.1.1;rw [hr] at this;exact Array.not_mem_empty _ this
theorem pE{ops:Array Oper}{p:Nat}{o:Oper}{x:Operand}(hp:ops[p]?=some o)(ho:o.op=.move x)(hg:o.guard=none){K:Act→World→Prop}{a:Act}{w:World}(h:wpOp P ops Q p K a w) :
  ∃ v,Yields P ops o v a∧K (a.put o.dst v) w:=by
 obtain ⟨dst,op,type,pos,after,guard⟩:=o;simp only at ho hg;subst ho hg;unfold wpOp at h;simp only [hp] at h;have hw:Region.wanted { dst,op:=.move x,type,pos,after,guard:=none } (yielded ops a.tmps)=true:=rfl;rw [if_pos hw] at h;refine ⟨a.eval x,Or.inl ⟨hw,fun w=>rfl⟩,?_⟩;rcases h with h|h
 ·exact h
 ·exact absurd h.1.1 (Array.not_mem_empty _)
theorem sL{l:List Oper}{t p i:Nat}{listed:Array Bool}(h:i ∈ Region.ready .any (mu l t p).toArray listed):i ∈ Region.ready .any l.toArray listed:=by
 rw [mem_ready] at *
 obtain ⟨h0,o,ho,hall⟩:=h;refine ⟨h0,?_⟩;by_cases hit:i=t
 ·subst hit;rw [List.getElem?_toArray,qh] at ho;obtain ⟨o',ho',rfl⟩:=Option.map_eq_some_iff.1 ho;exact ⟨o',by rw [List.getElem?_toArray];exact ho',fun e he hb=>hall e (Array.mem_push.2 (Or.inl he)) hb⟩
 ·rw [List.getElem?_toArray,qg l t p i hit] at ho;exact ⟨o,by rw [List.getElem?_toArray];exact ho,hall⟩
theorem jX{l:List Oper}{t p i:Nat}{listed:Array Bool}(h:i ∈ Region.ready .any l.toArray listed)(hor:i≠t∨listed.getD p false=true):i ∈ Region.ready .any (mu l t p).toArray listed:=by
 rw [mem_ready] at *
 obtain ⟨h0,o,ho,hall⟩:=h;refine ⟨h0,?_⟩;rw [List.getElem?_toArray] at ho;by_cases hit:i=t
 ·subst hit;refine ⟨_,by rw [List.getElem?_toArray,qh,ho];rfl,fun e he hb=>?_⟩;rcases Array.mem_push.1 he with he|rfl
  ·exact hall e he hb
  ·rcases hor with h|h
   ·exact absurd rfl h
   ·exact h
 ·exact ⟨o,by rw [List.getElem?_toArray,qg l t p i hit];exact ho,hall⟩
theorem vR{l:List Oper}{p:Nat}{op:Oper}(hp:l[p]?=some op)
 (hf:(List.range l.length).all (fun j=>j == p || op.after.any (fun e=>Region.binds .any e && e.on == j) || match l[j]? with|some oj=>oj.after.any (fun e=>Region.binds .any e && e.on == p) || op.apart l.toArray oj|none=>true)=true)(listed:Array Bool)
 (hr:p ∈ Region.ready .any l.toArray listed) :
  ∀ j oj,l.toArray[j]?=some oj→j≠p→listed.getD j true=false→(∀ e ∈ oj.after,Region.binds .any e=true→e.on≠p)→op.apart l.toArray oj=true:=by
 intro j oj hj hne hun hno;rw [List.getElem?_toArray] at hj;have h1:=List.all_eq_true.1 hf j (List.mem_range.2 (List.getElem?_eq_some_iff.1 hj).1);simp only [hj,Bool.or_eq_true,beq_iff_eq,hne,false_or] at h1;rcases h1 with h1|h1|h1
 ·exfalso;obtain ⟨e,he,hb⟩:=Array.any_eq_true'.1 h1;simp only [Bool.and_eq_true,beq_iff_eq] at hb;obtain ⟨_,o,ho,hall⟩:=mem_ready.1 hr;rw [List.getElem?_toArray,hp] at ho;obtain rfl:op=o:=by simpa using ho
  have h2:=hall e he hb.1;rw [hb.2] at h2;rw [getD_both hun] at h2;cases h2
 ·obtain ⟨e,he,hb⟩:=Array.any_eq_true'.1 h1;simp only [Bool.and_eq_true,beq_iff_eq] at hb;exact absurd hb.2 (hno e he hb.1)
 ·exact h1
theorem su{l:List Oper}{t p:Nat}(hB:Cn l t p=true)(hQ:∀ c a d v w,Q (.panic c) (a.put d v) w→Q (.panic c) a w) :
  ∀ (f:Nat) (listed:Array Bool) (a:Act) (w:World),listed.size=l.length→wpAny P .any (mu l t p).toArray Q f listed a w→wpAny P .any l.toArray Q f listed a w:=by
 unfold Cn at hB;simp only [Bool.and_eq_true] at hB;obtain ⟨⟨hsel,htp⟩,hB⟩:=hB;have htp:t≠p:=by simpa using htp
 cases hp:l[p]? with
 | none=>simp only [hp] at hB;cases hB
 | some op =>
  cases ht:l[t]? with
  | none=>simp only [hp,ht] at hB;cases hB
  | some ot =>
   simp only [hp,ht,Bool.and_eq_true] at hB;obtain ⟨⟨⟨hg,hx⟩,hdep⟩,hfree⟩:=hB;have hop:(∃ x i,op.op=.extract x i)∨∃ x,op.op=.move x:=by
    cases h:op.op <;> simp only [h] at hx <;> first|exact Or.inl ⟨_,_,rfl⟩|exact Or.inr ⟨_,rfl⟩|cases hx
   have hg:op.guard=none:=by simpa using hg
   have hp':l.toArray[p]?=some op:=by rw [List.getElem?_toArray];exact hp
   have hfr:=vR hp hfree
   -- if t is ready and p has not been,then p is ready
   have hpr:∀ listed:Array Bool,t ∈ Region.ready .any l.toArray listed→listed.getD p false=false→listed.size=l.length→p ∈ Region.ready .any l.toArray listed:=by
    intro listed htr hpl hs;rw [mem_ready] at htr ⊢;obtain ⟨_,o,ho,hall⟩:=htr;rw [List.getElem?_toArray,ht] at ho;obtain rfl:ot=o:=by simpa using ho
    have hlt:p<listed.size:=by rw [hs];exact (List.getElem?_eq_some_iff.1 hp).1
    refine ⟨by simpa [hlt] using hpl,op,hp',fun e he hb=>?_⟩;have h1:=Array.all_eq_true'.1 hdep e he;rw [hb] at h1;simp only [Bool.not_true,Bool.false_or] at h1;obtain ⟨e',he',h2⟩:=Array.any_eq_true'.1 h1;simp only [Bool.and_eq_true,beq_iff_eq] at h2;rw [←h2.2];exact hall e' he' h2.1
   intro f;induction f with
   | zero =>
    intro listed a w hs h;refine ⟨List.eq_nil_iff_forall_not_mem.2 fun i hi=>?_,h.2⟩;have h0:=h.1;by_cases hc:i≠t∨listed.getD p false=true
    ·have:=jX hi hc;rw [h0] at this;cases this
    ·obtain rfl:i=t:=Decidable.byContradiction fun h=>hc (Or.inl h)
     have hpl:listed.getD p false=false:=by
      cases hb:listed.getD p false
      ·rfl
      ·exact absurd (Or.inr hb) hc
     have:=jX (t:=i) (p:=p) (hpr listed hi hpl hs) (Or.inl (Ne.symm htp));rw [h0] at this;cases this
   | succ f ih =>
    intro listed a w hs h;by_cases hc:t ∈ Region.ready .any l.toArray listed∧listed.getD p false=false
    ·have hr:=hpr listed hc.1 hc.2 hs;have h1:=nJ _ _ _ _ _ _ _ (h.2 p (jX hr (Or.inl (Ne.symm htp))));obtain ⟨v,hy,h2⟩:=hop.elim (fun ⟨_,_,hop⟩=>lH hp' hop hg h1) (fun ⟨_,hop⟩=>pE hp' hop hg h1);exact wpAny_first hp' (Region.noSelect_spec hsel) (fun c a w=>hQ c a op.dst v w) f listed a w (hfr listed hr) hr hy (ih _ _ _ (by simpa using hs) h2)
    ·refine ⟨fun h0=>h.1 (List.eq_nil_iff_forall_not_mem.2 fun i hi=>by have:=sL hi;rw [h0] at this;cases this),fun i hi=>?_⟩;have hi':=jX (t:=t) (p:=p) hi (by
      by_cases hit:i=t
      ·subst hit
       right
       cases hb:listed.getD p false
       ·exact absurd ⟨hi,hb⟩ hc
       ·rfl
      ·exact Or.inl hit)
     exact wpOp_mono (fun a' w' h3=>ih _ a' w' (by simpa using hs) h3) (nJ _ _ _ _ _ _ _ (h.2 i hi'))
def rM(l:List Oper):List (Nat×Nat)→Bool
 | []=>true
 | (t,p) :: es=>Cn l t p && rM (mu l t p) es
def jG(l:List Oper):List (Nat×Nat)→List Oper
 | []=>l
 | (t,p) :: es=>jG (mu l t p) es
theorem oU(l:List Oper)(es:List (Nat×Nat)):(jG l es).length=l.length:=by
 induction es generalizing l with
 | nil=>rfl
 | cons e es ih=>rw [jG,ih,ly]
theorem oZ{l:List Oper}(es:List (Nat×Nat))(hB:rM l es=true)(hQ:∀ c a d v w,Q (.panic c) (a.put d v) w→Q (.panic c) a w)(f:Nat)(listed:Array Bool)(a:Act)(w:World)(hs:listed.size=l.length)
 (h:wpAny P .any (jG l es).toArray Q f listed a w):wpAny P .any l.toArray Q f listed a w:=by
 induction es generalizing l with
 | nil=>exact h
 | cons e es ih =>
  obtain ⟨t,p⟩:=e;simp only [rM,Bool.and_eq_true] at hB;exact su hB.1 hQ f listed a w hs (ih hB.2 (by rw [ly];exact hs) h)
theorem vQ{a:Act}{w:World}{l:List Oper}(n:Nat)(kind:Nat→Kind)(dep:Nat→List Nat)
 (hB:lg .any l.toArray n dep=true)
 (h:wpF P l.toArray w.drew kind dep (fun a' Γ B=>∀ w',Inv w.drew Γ B w'→wpList P l.toArray Q (l.drop n) a' w') (l.take n) 0 a (fun _ _=>True) (fun _=>False)) :
  wpAny P .any l.toArray Q l.toArray.size (Array.replicate l.toArray.size false) a w.drew:=by
 simp only [lg,Bool.and_eq_true,Bool.or_eq_true,beq_iff_eq,decide_eq_true_eq] at hB;obtain ⟨⟨⟨hsel,hor⟩,hd⟩,hlex⟩:=hB;have hn':n≤l.length:=by
  rcases hor with h|h
  ·simp at h;omega
  ·have:=h.1.1;simp at this;omega
 have hT:∀ listed,HeadInv .any l.toArray n listed→∀ i,i<n→listed.getD i true=false→∀ t,n≤t→t ∉ Region.ready .any l.toArray listed:=by
  intro listed inv i hi hun t ht hr;rcases hor with h|h
  ·obtain ⟨_,ot,hot,_⟩:=mem_ready.1 hr;have:=(nXb.1 hot).1;omega
  ·exact tail_waits h.1.2 h.2 h.1.1 inv _ i rfl hi hun t ht hr
 have htl:(l.take n).length=n:=by simp;omega
 have hdl:(l.drop n).length=l.toArray.size-n:=by simp
 have inv0:HeadInv .any l.toArray n (Array.replicate l.toArray.size false) :=
  ⟨by simp,fun j oj _ hl=>(by rw [getD_replicate_false] at hl;cases hl),fun t _ ht=>getD_in (by simpa using ht) (getD_replicate_false _ _)⟩
 have H:=js (md:=.any) (g:=l.toArray.size-n) hsel hd hT (l.take n) 0 _ a _ _ ⟨0,fun _ h=>h.elim⟩ (fun j hj=>by
  have hj':j<n:=by rw [htl] at hj;exact hj
  simp [hj']) (by simpa using htl) inv0 (by rw [htl];exact hlex) h
 have:=fg (Q':=Q) (g:=l.toArray.size-n) (fun listed a' Γ B w' hI hL=>by
  have:=wpAny_of_seq (md:=.any) (Q':=Q) (l.drop n) n listed a' w' (fun j=>by simp [List.getElem?_drop]) (by rw [hdl];exact hL.1) (hL.2 w' hI)
  rwa [hdl] at this) _ _ _ _ _ w.drew ⟨Ext.refl _,fun _=>trivial,fun _ h=>h.elim,fun _ _ _ _ h=>h⟩ H
 rw [htl,show n+(l.toArray.size-n)=l.toArray.size by omega] at this;exact this

theorem bv{id:Nat}{a:Act}{w:World}{l:List Oper}(es:List (Nat×Nat))(l':List Oper)(hl:jG l es=l')(hQ:∀ c a d v w,Q (.panic c) (a.put d v) w→Q (.panic c) a w)(n:Nat)(kind:Nat→Kind)(dep:Nat→List Nat)(hm:P.follows .mixedOrders=true)
 (hE:rM l es=true)(hB:lg .any l'.toArray n dep=true)
 (h:∀ w0:World,Ext w w0→w0.heap.size=w.heap.size→(∀ p,w0.cell? p=w.cell? p)→(∀ p,w0.frozen? p=w.frozen? p) →
   wpF P l'.toArray w0 kind dep (fun a' Γ B=>∀ w',Inv w0 Γ B w'→wpList P l'.toArray Q (l'.drop n) a' w') (l'.take n) 0 a (fun _ _=>True) (fun _=>False)) :
  (Code.region id l.toArray true).wp P Q a w:=by
 subst hl;have hsz:(jG l es).toArray.size=l.toArray.size:=by simp [oU]
 refine wp_region_any hm (oZ es hE hQ _ _ _ _ (by simp) ?_);have:=vQ n kind dep hB (h w.drew (Ext.drew w) rfl (fun _=>rfl) (fun _=>rfl));rw [hsz] at this;exact this
end
structure aL (S:Nat→Prop) (w w':World):Prop where
 os:w'.os=w.os
 tape:w'.tape=w.tape
 output:w'.output=w.output
 size:w.heap.size≤w'.heap.size
 block:∀ k,k<w.heap.size→¬ S k→w'.heap[k]?=w.heap[k]?
theorem aL.refl(S:Nat→Prop)(w:World):aL S w w:=⟨rfl,rfl,rfl,nXe _,fun _ _ _=>rfl⟩
theorem aL.trans{S:Nat→Prop}{a b c:World}(h:aL S a b)(k:aL S b c):aL S a c :=
 ⟨k.os.trans h.os,k.tape.trans h.tape,k.output.trans h.output,nXf h.size k.size,fun i hi hs=>(k.block i (nXn hi h.size) hs).trans (h.block i hi hs)⟩
theorem aL.mono{S S':Nat→Prop}{a b:World}(h:aL S a b)(hs:∀ k,S k→S' k):aL S' a b :=
 ⟨h.os,h.tape,h.output,h.size,fun i hi hn=>h.block i hi (fun hk=>hn (hs i hk))⟩
theorem aL.of_ext{S:Nat→Prop}{a b:World}(h:Ext a b):aL S a b:=⟨h.os,h.tape,h.output,Below.size h,fun i hi _=>Below.block h i hi⟩
theorem aL.below{S:Nat→Prop}{a b:World}{N:Nat}(h:aL S a b)(hN:N≤a.heap.size)(hs:∀ k,S k→N≤k):Below N a b :=
 ⟨h.os,h.tape,h.output,h.size,fun i hi=>h.block i zo (fun hk=>by have:=hs i hk;omega)⟩
theorem aL.setCell(w:World)(p:Addr)(v:Value):aL (fun k=>k=p.block) w (w.setCell p v) :=
 ⟨rfl,rfl,rfl,by simp [World.setCell],fun k _ hk=>Below.heap_setCell _ _ _ _ hk⟩
theorem aL.cell{S:Nat→Prop}{w w':World}(h:aL S w w'){p:Addr}{v:Value}(hs:¬ S p.block)(hv:w.cell? p=some v):w'.cell? p=some v:=by
 have hlt:p.block<w.heap.size:=by
  unfold World.cell? at hv;cases hb:w.heap[p.block]? with
  | none=>rw [hb] at hv;cases hv
  | some o=>exact (nXb.1 hb).1
 rw [World.cell?_of_block (w:=w) (h.block p.block hlt hs)];exact hv
theorem aL.blk{S:Nat→Prop}{w w':World}(h:aL S w w'){b:Nat}{o:Obj}(hs:¬ S b)(hv:w.heap[b]?=some o):w'.heap[b]?=some o:=by
 rw [h.block b (nXb.1 hv).1 hs];exact hv

def bW(w:World)(ao:Option Addr)(xs:List Int):Prop :=
 xs=[]∨∃ b off,ao=some ⟨b,off,none⟩∧∀ k,k<xs.length→w.cell? ⟨b,off+k,none⟩=some (.int .i64 (xs.getD k 0))
theorem bW.ext{w w':World}{ao:Option Addr}{xs:List Int}(h:bW w ao xs)(he:Ext w w'):bW w' ao xs:=by
 rcases h with h|⟨b,off,h1,h2⟩
 ·exact Or.inl h
 ·exact Or.inr ⟨b,off,h1,fun k hk=>he.cell (h2 k hk)⟩
instance {w w':World} {ao:Option Addr} {xs:List Int}:Go.Front.Mv w w' (bW w ao xs) (bW w' ao xs):=⟨fun e h=>bW.ext h e⟩

theorem bW.at{w:World}{ao:Option Addr}{xs:List Int}(h:bW w ao xs){k:Nat}(hk:k<xs.length):∃ b off,ao=some ⟨b,off,none⟩∧w.cell? ⟨b,off+k,none⟩=some (.int .i64 (xs.getD k 0)):=by
 rcases h with rfl|⟨b,off,h1,h2⟩
 ·simp at hk
 ·exact ⟨b,off,h1,h2 k hk⟩
theorem ae{w:World}{B:Nat}{cs:Array Value}{T:TypeId}{fz:Nat×Nat}(h:w.heap[B]?=some (.cells cs T fz))(i:Nat):w.cell? ⟨B,i,none⟩=cs[i]?:=by
 simp [World.cell?,h]
theorem af{w:World}{B:Nat}{cs:Array Value}{T:TypeId}(h:w.heap[B]?=some (.cells cs T (0,0)))(i:Nat):w.frozen? ⟨B,i,none⟩=false:=by
 simp [World.frozen?,h]
theorem FZ{w:World}{B:Nat}{cs:Array Value}{T:TypeId}(h:w.heap[B]?=some (.cells cs T (0,0))):(∀ i:Nat,w.cell? ⟨B,i,none⟩=cs[i]?)∧(∀ i:Nat,w.frozen? ⟨B,i,none⟩=false)∧B<w.heap.size:=⟨ae h,af h,(nXb.1 h).1⟩
theorem bX3{w:World}{B:Nat}{cs:Array Value}{T:TypeId}(h:RowKit.Hid (w.heap[B]?=some (.cells cs T (0,0)))):(∀ i:Nat,w.cell? ⟨B,i,none⟩=cs[i]?)∧(∀ i:Nat,w.frozen? ⟨B,i,none⟩=false)∧B<w.heap.size:=FZ h
theorem ax{w:World}{B:Nat}{cs:Array Value}{T:TypeId}{fz:Nat×Nat}(h:w.heap[B]?=some (.cells cs T fz))(i:Nat)(v:Value) :
  (w.setCell ⟨B,i,none⟩ v).heap[B]?=some (.cells (cs.setIfInBounds i v) T fz):=by
 have hlt:B<w.heap.size:=(nXb.1 h).1;simp only [World.setCell,Array.getElem?_modify];rw [if_pos trivial,h];rfl
theorem bW.lt{w:World}{ao:Option Addr}{xs:List Int}(h:bW w ao xs)(hne:xs≠[]):∀ p,ao=some p→p.block<w.heap.size:=by
 rcases h with h|⟨b,off,rfl,hc⟩
 ·exact absurd h hne
 ·intro p hp;obtain rfl:⟨b,off,none⟩=p:=by simpa using hp
  have:=hc 0 (nYh.2 hne);exact nXq w _ this
theorem wN(w:World)(cs:Array Value)(T:TypeId)(i:Nat):(w.alloc (.cells cs T)).cell? ⟨w.heap.size,i,none⟩=cs[i]?:=ae (heap_alloc_new w _) i
theorem Ext.of_below{w w1 w2:World}{N:Nat}(h1:Ext w w1)(h:Below N w1 w2)(hN:w.heap.size≤N):Ext w w2 :=
 ⟨h.os.trans h1.os,h.tape.trans h1.tape,h.output.trans h1.output,nXf h1.size h.size,fun k hk=>(h.block k zo).trans (Below.block h1 k hk)⟩
end Go.Front
namespace Go.Num
def W32:Nat:=4294967296
theorem aI:0<W32:=by decide
def val:List Nat→Nat
 | []=>0
 | d :: ds=>d+W32*val ds
def Dig(ds:List Nat):Prop:=∀ d ∈ ds,d<W32
def lD(ds:List Nat):Prop:=ds=[]∨ds.getLast?≠some 0
def strip:List Nat→List Nat
 | []=>[]
 | d :: ds=>if strip ds=[]∧d=0 then [] else d :: strip ds

theorem Dig.nil:Dig []:=fun _ h=>by cases h
theorem Dig.cons{d:Nat}{ds:List Nat}(h:d<W32)(hs:Dig ds):Dig (d :: ds):=fun x hx=>by
 rcases List.mem_cons.1 hx with rfl|hx
 ·exact h
 ·exact hs x hx
theorem Dig.head{d:Nat}{ds:List Nat}(h:Dig (d :: ds)):d<W32:=h d (by simp)
theorem Dig.tail{d:Nat}{ds:List Nat}(h:Dig (d :: ds)):Dig ds:=fun x hx=>h x (by simp [hx])
theorem Dig.take{ds:List Nat}(h:Dig ds)(k:Nat):Dig (ds.take k):=fun x hx=>h x (List.mem_of_mem_take hx)
theorem Dig.drop{ds:List Nat}(h:Dig ds)(k:Nat):Dig (ds.drop k):=fun x hx=>h x (List.mem_of_mem_drop hx)
theorem Dig.at{ds:List Nat}(h:Dig ds)(k:Nat):ds.getD k 0<W32:=by
 by_cases hk:k<ds.length
 ·have:=h ds[k] (List.getElem_mem hk);simpa [hk] using this
 ·simp [List.getElem?_eq_none (Nat.le_of_not_lt hk),W32]
theorem Dig.append{a b:List Nat}(ha:Dig a)(hb:Dig b):Dig (a++b):=fun x hx=>by
 rcases List.mem_append.1 hx with h|h
 ·exact ha x h
 ·exact hb x h
theorem Dig.set{ds:List Nat}(h:Dig ds)(k d:Nat)(hd:d<W32):Dig (ds.set k d):=fun x hx=>by
 rcases List.mem_or_eq_of_mem_set hx with h' | h'
 ·exact h x h'
 ·subst h';exact hd
theorem Dig.replicate(n:Nat):Dig (List.replicate n 0):=fun x hx=>by
 rw [List.eq_of_mem_replicate hx];decide

theorem cw(a b:List Nat):val (a++b)=val a+W32 ^ a.length*val b:=by
 induction a with
 | nil=>simp [val]
 | cons d ds ih=>simp only [List.cons_append,val,ih,List.length_cons,nXu];rw [Nat.mul_add,Nat.add_assoc,←Nat.mul_assoc,nYf (W32 ^ ds.length) W32]
theorem bE{ds:List Nat}(h:Dig ds):val ds<W32 ^ ds.length:=by
 induction ds with
 | nil=>simp [val]
 | cons d ds ih =>
  have h1:=ih h.tail;have h2:=h.head;simp only [val,List.length_cons,nXu]
  calc d+W32*val ds<W32+W32*val ds:=by omega
   _=W32*(val ds+1):=by rw [Nat.mul_add,Nat.mul_one,nYj]
   _≤W32*W32 ^ ds.length:=nXg _ h1
   _=W32 ^ ds.length*W32:=nYf _ _
theorem fI(n:Nat):val (List.replicate n 0)=0:=by
 induction n with
 | zero=>rfl
 | succ n ih=>simp [List.replicate_succ,val,ih]
theorem bp(a:List Nat)(d:Nat):val (a++[d])=val a+W32 ^ a.length*d:=by rw [cw];simp [val]
theorem au{ds:List Nat}{k:Nat}(hk:k<ds.length):val (ds.take (k+1))=val (ds.take k)+W32 ^ k*ds.getD k 0:=by
 rw [List.take_succ_eq_append_getElem hk,bp];simp [hk,Nat.min_eq_left (nYm hk)]
theorem aw{ds:List Nat}{k:Nat}(hk:ds.length≤k):val (ds.take k)=val ds:=by rw [nXm hk]
theorem bY(ds:List Nat)(k:Nat)(hk:k≤ds.length):val ds=val (ds.take k)+W32 ^ k*val (ds.drop k):=by
 have:=cw (ds.take k) (ds.drop k);rw [List.take_append_drop] at this;rw [this,nXk,Nat.min_eq_left hk]

theorem kg(ds:List Nat):val (strip ds)=val ds:=by
 induction ds with
 | nil=>rfl
 | cons d ds ih =>
  unfold strip;split
  ·rename_i h
   simp [val,←ih,h.1,h.2]
  ·simp [val,ih]
theorem jv(ds:List Nat):lD (strip ds):=by
  induction ds with
  | nil=>exact Or.inl rfl
  | cons d ds ih =>
    unfold strip;split
    · exact Or.inl rfl
    · rename_i h
      right
      rcases ih with h1|h1
      · rw [h1]
        have:d≠0:=fun hd=>h ⟨h1,hd⟩
        simp [this]
      · cases hs:strip ds with
        | nil => have : d ≠ 0 := fun hd => h ⟨hs, hd⟩
                 simp [this]
        | cons e es=>rw [hs] at h1;simpa using h1
theorem kh(ds:List Nat):strip ds=ds.take (strip ds).length∧(strip ds).length≤ds.length:=by
 induction ds with
 | nil=>simp [strip]
 | cons d ds ih =>
  unfold strip;split
  ·simp
  ·simp only [List.length_cons,List.take_succ_cons];exact ⟨by rw [←ih.1],zo⟩
theorem mC{ds:List Nat}(h:lD ds):strip ds=ds:=by
 induction ds with
 | nil=>rfl
 | cons d ds ih =>
  have hn:lD ds:=by
   rcases h with h|h
   ·cases h
   ·cases ds with
    | nil=>exact Or.inl rfl
    | cons e es=>right;simpa using h
  unfold strip;rw [ih hn];split
  ·rename_i h2
   rcases h with h|h
   ·cases h
   ·rw [h2.1,h2.2] at h;simp at h
  ·rfl
theorem lO{ds:List Nat}{n:Nat}(hn:n<ds.length)(hz:ds.getD n 0=0):strip (ds.take (n+1))=strip (ds.take n):=by
 induction ds generalizing n with
 | nil=>simp at hn
 | cons d ds ih =>
  cases n with
  | zero=>simp at hz;simp [strip,hz]
  | succ n =>
   simp only [List.take_succ_cons,strip];rw [ih (by simpa using hn) (by simpa using hz)]
theorem lP{ds:List Nat}{n:Nat}(hn:n<ds.length)(hz:ds.getD n 0≠0):strip (ds.take (n+1))=ds.take (n+1):=by
 apply mC
 right
 rw [List.take_succ_eq_append_getElem hn,List.getLast?_append];simp [hn] at hz;simpa using hz
theorem Dig.strip{ds:List Nat}(h:Dig ds):Dig (strip ds):=by rw [(kh ds).1];exact h.take _
theorem lD.nil:lD []:=Or.inl rfl
theorem kM{d:Nat}{ds:List Nat}(h:lD (d :: ds)):lD ds:=by
 rcases h with h|h
 ·cases h
 ·cases ds with
  | nil=>exact Or.inl rfl
  | cons e es=>right;simpa using h
theorem gU{ds:List Nat}(h:lD ds)(hne:ds≠[]):W32 ^ (ds.length-1)≤val ds:=by
 induction ds with
 | nil=>exact absurd rfl hne
 | cons d ds ih =>
  cases ds with
  | nil =>
   rcases h with h|h
   ·cases h
   ·simp at h;simp [val];omega
  | cons e es =>
   have:=ih (kM h) (by simp);simp only [List.length_cons,Nat.add_sub_cancel] at this ⊢;show W32 ^ (es.length+1)≤d+W32*val (e :: es);rw [nXu,nYf];exact nXf (nXg _ this) (Nat.le_add_left _ _)
theorem qu{ds:List Nat}(h:lD ds):val ds=0↔ds=[]:=by
 constructor
 ·intro h0;by_cases hne:ds=[]
  ·exact hne
  ·have:=gU h hne;have:=nYn (n:=ds.length-1) aI;omega
 ·rintro rfl;rfl
theorem ri:∀ {a b:List Nat},Dig a→Dig b→lD a→lD b→val a=val b→a=b
 | [],b,_,_,_,hb,h=>by
  have:val b=0:=by rw [←h];rfl
  exact ((qu hb).1 this).symm
 | d :: a,[],_,_,ha,_,h=>by
  have:val (d :: a)=0:=by rw [h];rfl
  exact (qu ha).1 this
 | d :: a,e :: b,da,db,ha,hb,h=>by
  have h1:=da.head;have h2:=db.head;simp only [val] at h;have hd:d=e:=by
   have:=congrArg (· % W32) h;simpa [Nat.add_mul_mod_self_left,Nat.mod_eq_of_lt h1,Nat.mod_eq_of_lt h2] using this
  subst hd;have hv:val a=val b:=Nat.eq_of_mul_eq_mul_left aI zo;rw [ri da.tail db.tail (kM ha) (kM hb) hv]
theorem mS{ds:List Nat}(h:lD ds){k:Nat}(hk:val ds<W32 ^ k):ds.length≤k:=by
 rcases Nat.lt_or_ge k ds.length with hlt|hge
 ·have hne:ds≠[]:=by intro h;subst h;simp at hlt
  have h1:=gU h hne;have h2:W32 ^ k≤W32 ^ (ds.length-1):=nXp aI zo;omega
 ·exact hge
theorem iu{a b:List Nat}(da:Dig a)(hb:lD b)(h:a.length<b.length):val a<val b:=by
 have h1:=bE da;have hne:b≠[]:=by intro e;subst e;simp at h
 have h2:=gU hb hne;have h3:W32 ^ a.length≤W32 ^ (b.length-1):=nXp aI zo;omega
theorem j8{a b:List Nat}(da:Dig a){k:Nat}(hka:k<a.length)(hkb:k<b.length)(hd:a.drop (k+1)=b.drop (k+1))(h:a.getD k 0<b.getD k 0):val a<val b:=by
 have ha:=bY a (k+1) hka;have hb:=bY b (k+1) hkb;rw [au hka] at ha;rw [au hkb] at hb;have h1:=bE (da.take k);rw [nXk,Nat.min_eq_left (nYm hka)] at h1;have h2:W32 ^ k*(a.getD k 0+1)≤W32 ^ k*b.getD k 0:=nXg _ h;rw [Nat.mul_add,Nat.mul_one] at h2;rw [ha,hb,hd];omega
def digs(v:Nat):List Nat:=if _h:v=0 then [] else v % W32 :: digs (v / W32)
termination_by v
decreasing_by exact Nat.div_lt_self zo dZ
theorem aS:digs 0=[]:=by rw [digs];simp
theorem hZ{v:Nat}(h:v≠0):digs v=v % W32 :: digs (v / W32):=by rw [digs];simp [h]
theorem ag(v:Nat):val (digs v)=v:=by
 induction v using Nat.strongRecOn with
 | _ v ih =>
  by_cases h:v=0
  ·subst h;rw [aS];rfl
  ·rw [hZ h,val,ih _ (Nat.div_lt_self zo dZ)];exact Nat.mod_add_div v W32
theorem cF(v:Nat):Dig (digs v):=by
 induction v using Nat.strongRecOn with
 | _ v ih =>
  by_cases h:v=0
  ·subst h;rw [aS];exact Dig.nil
  ·rw [hZ h];exact Dig.cons (Nat.mod_lt _ aI) (ih _ (Nat.div_lt_self zo dZ))
theorem ce(v:Nat):lD (digs v):=by
 induction v using Nat.strongRecOn with
 | _ v ih =>
  by_cases h:v=0
  ·subst h;rw [aS];exact lD.nil
  ·rw [hZ h]
   right
   by_cases h2:v / W32=0
   ·rw [h2,aS];have:=Nat.mod_add_div v W32;rw [h2] at this;simp;omega
   ·have:=ih _ (Nat.div_lt_self zo (show 1<W32 by decide));rcases this with e|e
    ·rw [hZ h2] at e;cases e
    ·rw [List.getLast?_cons];cases hg:(digs (v / W32)).getLast? with
     | none=>rw [List.getLast?_eq_none_iff,hZ h2] at hg;cases hg
     | some z=>rw [hg] at e;simpa using e
theorem rO{ds:List Nat}(h:Dig ds)(hn:lD ds):digs (val ds)=ds:=ri (cF _) h (ce _) hn (ag _)
theorem Cs{ds:List Nat}{v:Nat}(h:Dig ds)(hn:lD ds)(hv:val ds=v):ds=digs v:=by rw [←hv,rO h hn]
theorem et{ds:List Nat}(h:Dig ds):strip ds=digs (val ds):=Cs h.strip (jv _) (kg _)
theorem bI{v k:Nat}(h:v<W32 ^ k):(digs v).length≤k:=mS (ce _) (by rw [ag];exact h)
theorem bD{v:Nat}:digs v=[]↔v=0:=by
 constructor
 ·intro h;have:=ag v;rw [h] at this;exact this.symm
 ·intro h;subst h;exact aS
theorem aE{ds:List Nat}(h:Dig ds):(digs (val ds)).length≤ds.length:=bI (bE h)
end Go.Num
namespace Go.Front
open Go Go.RowKit
section
variable {P:Program} {w:World} {ops:Array Oper} {rest:List Oper} {o:Oper} {a:Act} {Q:Exit→Act→World→Prop}
theorem kw{t ty e:TypeId}{i:TypeInfo}(ht:P.underlying t=some (.slice e))(hi:P.info? e=some i)(s ao:Option Addr)(n cap c:Nat)(hn:n≤cap) :
  (Builtin.append_ #[t,t] ty #[.slice s n cap,.slice ao 0 c]).run P w=.ok (.slice s n cap) w:=by
 have h0:∀ (a:Addr),(loadCells a 0).run P w=.ok #[] w:=fun a=>by simp [loadCells,loadCellsFrom]
 cases s <;> cases ao <;> simp [Builtin.append_,run_underlying ht,sizeOf,typeInfo,hi,Builtin.lenOf,Builtin.firstCells,hn,storeCells,h0]
theorem eS(hgd:o.guard=none)(s x:Operand)(t:TypeId)
 (ho:o.op=.call { callee:=.builtin .append,args:=#[s,x],argTypes:=#[t,t] })
 (e:TypeId)(i:TypeInfo)(ht:P.underlying t=some (.slice e))(hi:P.info? e=some i)(so ao:Option Addr)(n cap c:Nat)(hn:n≤cap)
 (hs:a.eval s=.slice so n cap)(hx:a.eval x=.slice ao 0 c)
 (h:wpList P ops Q rest (a.put o.dst (.slice so n cap)) w):wpList P ops Q (o :: rest) a w:=by
 refine wpList_plain hgd fun K hK=>?_
 have hrun:=kw (P:=P) (w:=w) (ty:=o.type) ht hi so ao n cap c hn;unfold Oper.wp;simp [execOp,ho,resolve,invoke,builtin,hs,hx,hrun,Result.andThen];exact hK _ _ h
theorem cH(N j:Nat):(⟨N,0,none⟩:Addr).add j=⟨N,j,none⟩:=by unfold Addr.add;split <;> simp_all
theorem ie(b off j:Nat):(⟨b,off,none⟩:Addr).add j=⟨b,off+j,none⟩:=by unfold Addr.add;split <;> simp_all
theorem ir(hgd:o.guard=none)(s x:Operand)(t:TypeId)
 (ho:o.op=.call { callee:=.builtin .append,args:=#[s,x],argTypes:=#[t,t] })(e:TypeId)(i:TypeInfo)(z:Value)(size bytes:Nat)
 (ht:P.underlying t=some (.slice e))(hi:P.info? e=some i)(hz:i.zero=some z)(hsize:i.size=size)(hby:i.bytes=bytes)(hzc:z.cells.size=size)(hsz:0<size)
 (N:Nat)(vs:List Value)(bo:Option Addr)(n c:Nat)(hs:a.eval s=.slice (some ⟨N,0,none⟩) 0 0)(hN:w.heap[N]?=some (.cells #[] e (0,0)))(B0:Nat)(hB0:B0≤N)(hx:a.eval x=.slice bo n c)(hn:vs.length=n*size)
 (hsrc:n=0∨∃ b off,bo=some ⟨b,off,none⟩∧∀ k u,vs[k]?=some u→w.cell? ⟨b,off+k,none⟩=some u)(hone:∀ u ∈ vs,u.oneCell'=true)(hlen:n≤4611686018427387904)(hbytes:n*bytes≤140737488355328)
 (h:∀ L lcap re w1,B0≤L→w1.heap[L]?=some (.cells (vs.toArray++re) e (0,0))→n≤lcap→lcap≤9223372036854775807→Below B0 w w1→wpList P ops Q rest (a.put o.dst (.slice (some ⟨L,0,none⟩) n lcap)) w1):wpList P ops Q (o :: rest) a w:=by
 have hNs:N<w.heap.size:=(nXb.1 hN).1;by_cases h0:n=0
 ·subst h0;have hv:vs=[]:=nXj.1 (by simpa using hn);subst hv;exact eS hgd s x t ho e i ht hi (some ⟨N,0,none⟩) bo 0 0 c (nXe _) hs hx (h N 0 #[] w hB0 (by rw [hN];rfl) (nXe _) dZ (Below.refl _ _))
 ·obtain ⟨b,off,rfl,hc⟩:=hsrc.resolve_left h0;have hvn:vs≠[]:=by
   intro hv;subst hv;have:0<n*size:=Nat.mul_pos zo hsz;simp at hn;omega
  refine wpList_append_own w hgd s x t ho B0 e i z size bytes ht hi hz hsize hby hzc hsz (.slice (some ⟨N,0,none⟩) 0 0) 0 [] hs
   ⟨by simp,.inr ⟨N,0,#[],rfl,hB0,hN,nXe _,by simp [maxLen],by simp,by simp⟩⟩ ⟨b,off,none⟩ n c vs hx hn ?_ hone (by simp [maxLen];omega) (by rw [Nat.zero_add];exact hbytes) zo ?_
  ·intro j u hj;rw [ie];exact hc j u hj
  ·intro v' w' hown hgrow _;rcases hown.2 with ⟨rfl,hnil⟩|⟨g,cap,cur,rfl,hg,hgg,hle,hmx,hcs,htake⟩
   ·omega
   ·simp only [Nat.zero_add,List.nil_append] at *
    refine h g cap (cur.extract vs.length cur.size) w' hg ?_ hle (by simpa [maxLen] using hmx) (by
     refine (Below.refl _ _).grown hgrow zo ?_;intro k hk;simp [Value.ownBlock] at hk;omega)
    rw [hgg]
    congr 2
    apply Array.ext';simp only [Array.toList_append,Array.toList_extract];have:cur.toList=cur.toList.take vs.length++cur.toList.drop vs.length:=(List.take_append_drop _ _).symm;rw [this];rw [←hn] at htake;rw [htake];simp;rw [nXm (by simp)]
theorem aB(hg:o.guard=none)(l c:Operand)(t:TypeId)(hop:o.op=Op.makeSlice t l c)
 (e:TypeId)(i:TypeInfo)(z:Value)(size:Nat)(h1:P.underlying t=some (.slice e))(h2:P.info? e=some i)(h3:i.zero=some z)(h4:i.size=size)
 (L C:Int)(n:Nat)(hl:a.eval l=.int .i64 L)(hc:a.eval c=.int .i64 C)(hL:L=(n:Int))(hC:C=(n:Int))(b2:i.bytes*n≤281474976710656)(b3:n≤9223372036854775807)
 (hK:∀ w',w'.heap[w.heap.size]?=some (.cells (madeCells z.cells (n*size)) e (0,0))→Ext w w'→wpList P ops Q rest (a.put o.dst (.slice (some ⟨w.heap.size,0,none⟩) n n)) w') :
  wpList P ops Q (o :: rest) a w:=by
 refine wpList_make_full w hg l c t hop 0 e i z size h1 h2 h3 h4 .i64 .i64 L C n hl hc hL hC b2 (by simpa [maxLen] using b3) (Nat.zero_le _) ?_;intro w' hown hgrow;refine hK w' ?_ ⟨hgrow.os,hgrow.tape,hgrow.output,hgrow.size,fun k hk=>hgrow.block k hk (by simp)⟩;rcases hown.2 with ⟨hv,_⟩|⟨g,cap,cur,hv,_,hgg,_,_,hcs,htake⟩
 ·cases hv
 ·obtain ⟨rfl,rfl⟩:w.heap.size=g∧n=cap:=by simpa using hv
  rw [hgg]
  congr 2
  apply Array.ext';rw [←htake,nXm (by rw [Array.length_toList,hcs];exact nXe _)]
theorem ry(v:Value)(hv:v.cells=#[v])(n:Nat):madeCells v.cells (n*1)=(List.replicate n v).toArray:=by
 rw [hv];apply Array.ext (by simp [madeCells]);intro k h1 h2;simp [madeCells,Nat.mod_one]
end
end Go.Front
namespace Go.Proofs.YtkcpmclnocmalaaGreat
open Go.RowKit Go.Front Go.Num
attribute [local go_sem] XW.cell XW.frozen
theorem ak{W w1:World}(hb:Ext W w1):(∀ b o,b<W.heap.size→w1.cell? ⟨b,o,none⟩=W.cell? ⟨b,o,none⟩)∧(∀ b o,b<W.heap.size→w1.frozen? ⟨b,o,none⟩=W.frozen? ⟨b,o,none⟩) :=
 ⟨fun b o h=>Below.cell (p:=⟨b,o,none⟩) hb h,fun b o h=>Below.frozen (p:=⟨b,o,none⟩) hb h⟩
theorem aZ{k:IntKind}{a b:Int}(h:a=b):Ending.returned (.int k a)=.returned (.int k b):=by rw [h]
structure U32 (w:World) (ao:Option Addr) (n cap:Nat) (ds:List Nat):Prop where
 len:ds.length=n
 le:n≤cap
 max:cap≤9223372036854775807
 dig:Dig ds
 at':n=0∨∃ b off,ao=some ⟨b,off,none⟩∧∀ k,k<n→w.cell? ⟨b,off+k,none⟩=some (.int .u32 ((ds.getD k 0:Nat):Int))
theorem U32.ext{w w':World}{ao:Option Addr}{n cap:Nat}{ds:List Nat}(h:U32 w ao n cap ds)(he:Ext w w'):U32 w' ao n cap ds :=
 ⟨h.len,h.le,h.max,h.dig,h.at'.imp id fun ⟨b,off,h1,h2⟩=>⟨b,off,h1,fun k hk=>he.cell (h2 k hk)⟩⟩
instance {w w':World} {ao:Option Addr} {n cap:Nat} {ds:List Nat}:Go.Front.Mv w w' (U32 w ao n cap ds) (U32 w' ao n cap ds):=⟨fun e h=>U32.ext h e⟩

theorem U32.at{w:World}{ao:Option Addr}{n cap:Nat}{ds:List Nat}(h:U32 w ao n cap ds){k:Nat}(hk:k<n):∃ b off d,ao=some ⟨b,off,none⟩∧w.cell? ⟨b,off+k,none⟩=some (.int .u32 ((d:Nat):Int))∧d=ds.getD k 0∧d<4294967296:=by
 rcases h.at' with h0|⟨b,off,h1,h2⟩
 ·omega
 ·exact ⟨b,off,_,h1,h2 k hk,rfl,h.dig.at k⟩
theorem U32.take{w:World}{ao:Option Addr}{n cap:Nat}{ds:List Nat}(h:U32 w ao n cap ds){m:Nat}(hm:m≤n):U32 w ao m cap (ds.take m):=by
 refine ⟨by rw [nXk,h.len];omega,by have:=h.le;omega,h.max,h.dig.take m,?_⟩;rcases h.at' with h0|⟨b,off,h1,h2⟩
 ·left;omega
 ·right
  refine ⟨b,off,h1,fun k hk=>?_⟩;rw [h2 k zo];simp [hk]
theorem U32.strip{w:World}{ao:Option Addr}{n cap:Nat}{ds:List Nat}(h:U32 w ao n cap ds):U32 w ao (strip ds).length cap (strip ds):=by
 have hp:=kh ds;have:=h.take (m:=(Num.strip ds).length) (by rw [←h.len];exact hp.2);rw [←hp.1] at this;exact this
theorem U32.nil(w:World)(ao:Option Addr)(cap:Nat)(h:cap≤9223372036854775807):U32 w ao 0 cap []:=⟨rfl,Nat.zero_le _,h,Dig.nil,Or.inl rfl⟩

theorem nq(ao:Option Addr)(n cap:Nat)(ds:List Nat)(w:World)(h:U32 w ao n cap ds) :
  Calls Tryz.prog 186 #[.slice ao n cap] w fun e w'=>e=.returned (.slice ao (strip ds).length cap)∧w=w':=by
 have H:=Hi h;have hle:=h.le;have hmx:=h.max;have Hlen:=Hi h.len;clear h;go_enter Tryz.func186,Tryz.ntmps186;go_wp2
 go_loopg [3] n (fun g nv wr=>nv=.int .i64 (g:Nat)∧g≤n∧strip ds=strip (ds.take g)∧w=wr)
 case atStart=>exact ⟨rfl,nXe _,by rw [nXm (by rw [Hlen.out];exact nXe _)],rfl⟩
 case round =>
  obtain ⟨rfl,hg,hs,rfl⟩:=hrel;have Hs:=Hi hs;clear hs;by_cases h0:gk=0
  ·subst h0;go_wp2
   go_ret
   refine ⟨?_,rfl⟩;rw [Hs.out];simp [strip]
  ·obtain ⟨m,rfl⟩:∃ m,gk=m+1:=⟨gk-1,zo⟩;obtain ⟨b,off,d,hao,hc,hd,hdl⟩:=H.out.at (k:=m) zo;subst hao;have Hd:=Hi hd;clear hd h0;by_cases hz:d=0
   ·subst hz;go_wp2
    go_roundg m
    case measure=>omega
    case rel=>exact ⟨rfl,zo,by rw [Hs.out,lO (by rw [Hlen.out];omega) Hd.out.symm],rfl⟩
   ·have hz':((d:Int) == 0)=false:=by simp;omega
    go_wp2
    go_ret
    refine ⟨?_,rfl⟩;rw [Hs.out,lP (by rw [Hlen.out];omega) (by rw [←Hd.out];exact hz),nXk,Hlen.out];rw [Nat.min_eq_left zo];rfl
theorem eO:(Tryz.prog.info? 124).map (fun i=>(i.zero,i.size,i.bytes))=some (some (.int .u32 0),1,4):=by kernel_rfl
def ij(ds:List Nat):List Value:=ds.map fun d:Nat=>Value.int .u32 (d:Int)
def DB(w:World)(L:Nat)(ds:List Nat)(re:Array Value):Prop:=w.heap[L]?=some (.cells ((ij ds).toArray++re) 124 (0,0))
theorem DB.u32{w:World}{L:Nat}{ds:List Nat}{re:Array Value}(h:DB w L ds re){n cap:Nat}(hn:ds.length=n)(hle:n≤cap)(hmx:cap≤9223372036854775807)(hd:Dig ds):U32 w (some ⟨L,0,none⟩) n cap ds:=by
 refine ⟨hn,hle,hmx,hd,Or.inr ⟨L,0,rfl,fun k hk=>?_⟩⟩;have hk':k<ds.length:=zo;rw [Nat.zero_add,ae h,Array.getElem?_append_left (by simpa [ij] using hk')];simp [ij,hk']
theorem DB.ext{w w':World}{L:Nat}{ds:List Nat}{re:Array Value}(h:DB w L ds re)(he:Ext w w'):DB w' L ds re:=he.block h
instance {w w':World} {L:Nat} {ds:List Nat} {re:Array Value}:Go.Front.Mv w w' (DB w L ds re) (DB w' L ds re):=⟨fun e h=>DB.ext h e⟩

def iM(ds:List Nat)(w:World)(e:Ending)(w':World):Prop:=∃ ao n cap,e=.returned (.slice ao n cap)∧U32 w' ao n cap ds∧Ext w w'
theorem D3(w:World)(a:Option Addr)(n c:Nat):(binOp .eql 33 (.slice a n c) (.slice none 0 0)).run Tryz.prog w=.ok (.bool a.isNone) w:=by
 have h:∀ d:Nat,(Op.equalIn (d+1) 33 (.slice a n c) (.slice none 0 0)).run Tryz.prog w=.ok a.isNone w:=fun d=>by
  cases a <;> simp [Op.equalIn,run_underlying Tryz.underlying33]
 simp only [binOp];simp [Op.equal,Op.maxDepth,h]
attribute [local go_sem] D3
theorem oS(ao:Option Addr)(n cap:Nat)(ds:List Nat)(w:World)(h:U32 w ao n cap ds)(hsz:n≤4294967296) :
  Calls Tryz.prog 195 #[.slice ao n cap] w (iM ds w):=by
 obtain ⟨i0,hi0,hz0,hz1,hz2⟩:=info_parts eO;have H:=Hi h;have hlen:=Hi h.len;cases ao with
 | none =>
  have hn0:n=0:=by
   rcases h.at' with h0|⟨b,off,h1,_⟩
   ·exact h0
   ·cases h1
  subst hn0;clear h;have hds:Hid (ds=[]):=nXj.1 hlen.out;go_enter Tryz.func195,Tryz.ntmps195;go_wp2
  go_ret
  rw [hds.out];exact ⟨none,0,0,rfl,U32.nil _ _ _ dZ,Ext.refl _⟩
 | some ad =>
  clear h;have hvs:(ij ds).length=n*1:=by simp [ij,hlen.out]
  have hsrc:n=0∨∃ b off,some ad=some ⟨b,off,none⟩∧∀ k u,(ij ds)[k]?=some u→w.cell? ⟨b,off+k,none⟩=some u:=by
   rcases H.out.at' with h0|⟨b,off,h1,h2⟩
   ·exact Or.inl h0
   ·refine Or.inr ⟨b,off,h1,fun k u hu=>?_⟩;have hk:k<ds.length:=by
     rcases Nat.lt_or_ge k ds.length with h|h
     ·exact h
     ·simp [ij,List.getElem?_eq_none h] at hu
    rw [h2 k (by rw [←hlen.out];exact hk)];simp [ij,hk] at hu;simp [hk,hu]
  have Hsrc:=Hi hsrc;have Hvs:=Hi hvs;clear hsrc hvs;go_enter Tryz.func195,Tryz.ntmps195
  go_wp2_with (at_builtin;refine ir rfl (.tmp 5) (.tmp 6) 33 rfl 124 i0 (.int .u32 0) 1 4 Tryz.underlying33 hi0 hz0 hz1 hz2 rfl dZ w.heap.size (ij ds) (some ad) n cap rfl (heap_alloc_new w _) w.heap.size (nXe _) rfl Hvs.out (Hsrc.out.imp id (fun ⟨b,off,h1,h2⟩=>⟨b,off,h1,fun k u hu=>(Ext.alloc _ _).cell (h2 k u hu)⟩)) (fun u hu=>by obtain ⟨d,_,rfl⟩:=nYg.1 hu;rfl) zo zo ?_;intro L lcap re w1 g1 g2 g3 g4 g5)
  go_ret
  exact ⟨_,n,lcap,rfl,DB.u32 (re:=re) g2 hlen.out g3 g4 H.out.dig,Ext.of_below (Ext.alloc _ _) g5 (nXe _)⟩
theorem mA(ao:Option Addr)(n cap:Nat)(ds:List Nat)(w:World)(h:U32 w ao n cap ds)(hsz:n≤4294967296) :
  Calls Tryz.prog 167 #[.slice ao n cap] w (iM (strip ds) w):=by
 have hs:=h.strip;have hl:=(kh ds).2;have hlen:=h.len;have hn:(strip ds).length≤4294967296:=zo;have H:=Hi h;have HS:=Hi hs;have HN:=Hi hn;clear h hs hl hlen hn;go_enter Tryz.func167,Tryz.ntmps167
 go_wp2_with fail
 refine (nq _ _ _ _ _ H.out).mono ?_;rintro e w1 ⟨rfl,rfl⟩
 go_wp2_with fail
 refine (oS _ _ _ _ _ HS.out HN.out).mono ?_;rintro e w1 ⟨ao',n',cap',rfl,hU,hE⟩;go_wp2
 go_ret
 exact ⟨_,_,_,rfl,hU,hE⟩
def bU(a b:Int):Int:=if a<b then -1 else if a=b then 0 else 1
theorem dG{a b:Int}(h:a<b):bU a b=-1:=by simp [bU,h]
theorem dH{a b:Int}(h:a=b):bU a b=0:=by simp [bU,h]
theorem cX{a b:Int}(h:b<a):bU a b=1:=by unfold bU;rw [if_neg zo,if_neg zo]
theorem uP(a:Int)(w:World):Calls Tryz.prog 206 #[.int .i64 a] w fun e w'=>e=.returned (.bool false)∧w=w':=by
 go_enter Tryz.func206,Tryz.ntmps206;go_wp2
 go_ret
 exact ⟨by simp,rfl⟩
theorem uO(a:Int)(w:World):Calls Tryz.prog 207 #[.int .u32 a] w fun e w'=>e=.returned (.bool false)∧w=w':=by
 go_enter Tryz.func207,Tryz.ntmps207;go_wp2
 go_ret
 exact ⟨by simp,rfl⟩
theorem CD(a b:Int)(w:World):Calls Tryz.prog 187 #[.int .i64 a,.int .i64 b] w fun e w'=>e=.returned (.int .i64 (bU a b))∧w'=w:=by
 go_enter Tryz.func187,Tryz.ntmps187
 go_wp2_with fail
 refine (uP _ _).mono ?_;rintro e w1 ⟨rfl,rfl⟩
 go_wp2_with fail
 refine (uP _ _).mono ?_;rintro e w1 ⟨rfl,rfl⟩;rcases Int.lt_trichotomy a b with h|h|h
 ·go_wp2
  go_ret
  exact ⟨aZ (dG h).symm,rfl⟩
 ·subst h;go_wp2
  go_ret
  exact ⟨aZ (dH rfl).symm,rfl⟩
 ·go_wp2
  go_ret
  exact ⟨aZ (cX h).symm,rfl⟩
theorem CC(a b:Int)(w:World):Calls Tryz.prog 188 #[.int .u32 a,.int .u32 b] w fun e w'=>e=.returned (.int .i64 (bU a b))∧w'=w:=by
 go_enter Tryz.func188,Tryz.ntmps188
 go_wp2_with fail
 refine (uO _ _).mono ?_;rintro e w1 ⟨rfl,rfl⟩
 go_wp2_with fail
 refine (uO _ _).mono ?_;rintro e w1 ⟨rfl,rfl⟩;rcases Int.lt_trichotomy a b with h|h|h
 ·go_wp2
  go_ret
  exact ⟨aZ (dG h).symm,rfl⟩
 ·subst h;go_wp2
  go_ret
  exact ⟨aZ (dH rfl).symm,rfl⟩
 ·go_wp2
  go_ret
  exact ⟨aZ (cX h).symm,rfl⟩
theorem rY{x y:List Nat}(dx:Dig x)(dy:Dig y)(nx:lD x)(ny:lD y)(h:x.length≠y.length):bU (x.length:Nat) (y.length:Nat)=bU (val x:Nat) (val y:Nat):=by
 rcases Nat.lt_or_ge x.length y.length with h1|h1
 ·have:=iu dx ny h1;rw [dG zo,dG zo]
 ·have:=iu dy nx zo;rw [cX zo,cX zo]
theorem nw{x y:List Nat}(dx:Dig x)(dy:Dig y){k:Nat}(hx:k<x.length)(hy:k<y.length)(hd:x.drop (k+1)=y.drop (k+1))(h:x.getD k 0≠y.getD k 0) :
  bU (x.getD k 0:Nat) (y.getD k 0:Nat)=bU (val x:Nat) (val y:Nat):=by
 rcases Nat.lt_or_ge (x.getD k 0) (y.getD k 0) with h1|h1
 ·have:=j8 dx hx hy hd h1;rw [dG zo,dG zo]
 ·have:=j8 dy hy hx hd.symm zo;rw [cX zo,cX zo]
abbrev _root_.Go.sU(v : Value) : Go.Front.Kind := .spec Unit () (fun _ => v) (fun _ _ => True)
theorem dQ(ao bo:Option Addr)(n ac m bc:Nat)(ds es:List Nat)(w:World)(ha:U32 w ao n ac ds)(hb:U32 w bo m bc es) :
  Calls Tryz.prog 153 #[.slice ao n ac,.slice bo m bc] w fun e w'=>e=.returned (.int .i64 (bU (val ds:Nat) (val es:Nat)))∧Ext w w':=by
 rw [←kg ds,←kg es];have hx:=ha.strip;have hy:=hb.strip;have nx:=jv ds;have ny:=jv es;have HA:=Hi ha;have HB:=Hi hb;obtain ⟨x,hxe⟩:∃ x,x=strip ds:=⟨_,rfl⟩;obtain ⟨y,hye⟩:∃ y,y=strip es:=⟨_,rfl⟩;rw [←hxe] at hx nx ⊢;rw [←hye] at hy ny ⊢;have hxl:x.length≤9223372036854775807:=nXf hx.le hx.max;have hyl:y.length≤9223372036854775807:=nXf hy.le hy.max;have HX:=Hi hx;have HY:=Hi hy;have NX:=Hi nx;have NY:=Hi ny;have EX:=Hi hxe;have EY:=Hi hye;clear ha hb hx hy nx ny hxe hye;go_enter Tryz.func153,Tryz.ntmps153
 go_wp2_with fail
 refine (nq _ _ _ _ _ HA.out).mono ?_;rintro e w1 ⟨rfl,rfl⟩
 go_wp2_with fail
 refine (nq _ _ _ _ _ HB.out).mono ?_;rintro e w1 ⟨rfl,rfl⟩;rw [←EX.out,←EY.out];by_cases hl:x.length=y.length
 ·rw [hl] at HX hxl ⊢;go_wp2
  go_loopg [7] y.length (fun g i wr=>i=.int .i64 ((g:Int)-1)∧g≤y.length∧x.drop g=y.drop g∧Ext w wr)
  case atStart=>exact ⟨rfl,nXe _,by rw [List.drop_of_length_le zo,List.drop_of_length_le zo],Ext.refl _⟩
  case round =>
   obtain ⟨rfl,hg,hs,hq⟩:=hrel;have Hq:=Hi hq;clear hq;have Hs:=Hi hs;clear hs;by_cases h0:gk=0
   ·subst h0;go_wp2
    go_ret
    have:=Hs.out;simp only [List.drop_zero] at this;subst this;exact ⟨aZ (dH rfl).symm,Hq.out⟩
   ·obtain ⟨k,rfl⟩:∃ k,gk=k+1:=⟨gk-1,zo⟩;obtain ⟨b,off,d,hao,hc,hd,hdl⟩:=HX.out.at (k:=k) zo;obtain ⟨b',off',d',hao',hc',hd',hdl'⟩:=HY.out.at (k:=k) zo;subst hao hao';have hE:=Hq.out;replace hc:=hE.cell hc;replace hc':=hE.cell hc';have hbl:b<wr.heap.size:=nXq _ _ hc;have hbl':b' < wr.heap.size:=nXq _ _ hc';have Hd:=Hi hd;have Hd':=Hi hd';clear hd hd' h0;by_cases he:d=d'
    ·subst he;go_wp2
     go_quiet (fail)
     go_wp2
     go_roundg k
     case measure=>omega
     case rel =>
      refine ⟨rfl,zo,?_,Hq.out.trans (Ext.drewN _ _)⟩;have h1:k<x.length:=zo;have h2:k<y.length:=zo;have e:=Hd.out.symm.trans Hd'.out;simp only [nXd,List.getElem?_eq_getElem h1,List.getElem?_eq_getElem h2,Option.getD_some] at e;rw [List.drop_eq_getElem_cons h1,List.drop_eq_getElem_cons h2,Hs.out,e]
    ·have he':((d:Int) == d')=false:=by simp;omega
     go_wp2
     go_quiet (fail)
     go_wp2;refine ah 9 (fun opIx=>match opIx with
      | 8=>sU (.int .i64 (bU (d:Nat) (d':Nat)))
      | _=>.quiet) (fun _=>[]) kZ kZ (fun w0 he0 hz0 hc0 hf0=>?_)
     simp only [pT];refine qQ ?_;refine bN rfl rfl (fun w1 hw1 hG=>?_) (fun _=>?_)
     ·refine gi [.int .u32 (d:Nat),.int .u32 (d':Nat)] rfl rfl Tryz.func188 kZ kZ ?_;refine (CC _ _ _).mono ?_;rintro e w' ⟨rfl,rfl⟩;exact ⟨(),rfl,Ext.refl _,trivial⟩
     refine qZ ?_;refine aq ?_;intro w' hI;have hx:=Hi (he0.trans hI.ext);clear hI he0 hz0 hc0 hf0;simp only [pD];go_wp2
     go_ret
     refine ⟨aZ ?_,Hq.out.trans ((Ext.drewN _ _).trans hx.out)⟩;rw [Hd.out,Hd'.out];exact nw HX.out.dig HY.out.dig zo zo Hs.out (by rw [←Hd.out,←Hd'.out];exact he)
 ·have hl':((x.length:Int) == y.length)=false:=by simp;omega
  go_wp2_with fail
  refine (CD _ _ _).mono ?_;rintro e w1 ⟨rfl,rfl⟩;go_wp2
  go_ret
  exact ⟨aZ (rY HX.out.dig HY.out.dig NX.out NY.out hl),Ext.refl _⟩
theorem Ext.set{w wr:World}(h:Ext w wr){L i:Nat}(hL:w.heap.size≤L)(v:Value):Ext w (wr.setCell ⟨L,i,none⟩ v) :=
 Ext.of_below h ((aL.setCell wr ⟨L,i,none⟩ v).below (N:=w.heap.size) h.size (fun k hk=>by subst hk;exact hL)) (nXe _)
theorem DB.set{w:World}{L:Nat}{ds:List Nat}{re:Array Value}(h:DB w L ds re){i:Nat}(hi:i<ds.length)(d:Nat):DB (w.setCell ⟨L,i,none⟩ (.int .u32 (d:Int))) L (ds.set i d) re:=by
 have:=ax h i (.int .u32 (d:Int));unfold DB;rw [this,Array.setIfInBounds_append_left (by simpa [ij] using hi)];simp [ij]
theorem DB.cell{w:World}{L:Nat}{ds:List Nat}{re:Array Value}(h:DB w L ds re){i:Nat}(hi:i<ds.length):w.cell? ⟨L,i,none⟩=some (.int .u32 ((ds.getD i 0:Nat):Int)):=by
 rw [ae h,Array.getElem?_append_left (by simpa [ij] using hi)];simp [ij,hi]
theorem DB.frozen{w:World}{L:Nat}{ds:List Nat}{re:Array Value}(h:DB w L ds re)(i:Nat):w.frozen? ⟨L,i,none⟩=false:=af h i
theorem DB.make{w:World}{L n:Nat}{e:TypeId}(he:e=124)(h:w.heap[L]?=some (.cells (madeCells (Value.int .u32 0).cells (n*1)) e (0,0))):DB w L (List.replicate n 0) #[]:=by
 subst he;unfold DB;rw [h,ry _ rfl];simp [ij]
theorem gL(os:List Nat)(r d:Nat):(os++List.replicate (r+1) 0).set os.length d=(os++[d])++List.replicate r 0:=by
 rw [List.set_append_right _ _ (nXe _)];simp [List.replicate_succ]
theorem mD{v vx vy P t d e c:Nat}(ht:t=d+e+c)(hv:v+P*c=vx+vy):(v+P*(t % W32))+P*W32*(t / W32)=(vx+P*d)+(vy+P*e):=by
 have h1:P*t=P*(t % W32)+P*W32*(t / W32):=by
  conv=>lhs;rw [←Nat.mod_add_div t W32]
  rw [Nat.mul_add,Nat.mul_assoc]
 have h2:P*t=P*d+P*e+P*c:=by rw [ht,Nat.mul_add,Nat.mul_add]
 omega
theorem iV{y:List Nat}{i:Nat}(h:y.length≤i):val (y.take (i+1))=val (y.take i)+W32 ^ i*0:=by
 rw [nXm zo,nXm h];simp
theorem U32.digs{w:World}{ao:Option Addr}{n cap:Nat}{ds:List Nat}(h:U32 w ao n cap ds):U32 w ao (Num.digs (val ds)).length cap (Num.digs (val ds)):=by
 have:=h.strip
 rwa [et h.dig] at this
theorem bJ(ao:Option Addr)(n cap:Nat)(ds:List Nat)(w:World)(h:U32 w ao n cap ds) :
  Calls Tryz.prog 186 #[.slice ao n cap] w fun e w'=>e=.returned (.slice ao (digs (val ds)).length cap)∧w=w':=by
 rw [←et h.dig];exact nq ao n cap ds w h
structure EG (x y:List Nat) (w wr:World) (i c:Nat):Prop where
 ext:Ext w wr
 le:i≤x.length
 db:∃ os,DB wr w.heap.size (os++List.replicate (x.length-i+1) 0) #[]∧os.length=i∧Dig os∧val os+W32 ^ i*c=val (x.take i)+val (y.take i)
 c1:c≤1
theorem EG.next{x y:List Nat}{w wr:World}{i c t d e:Nat}(h:EG x y w wr i c)(hi:i<x.length)(ht:t=d+e+c)(hd:d=x.getD i 0)(he:val (y.take (i+1))=val (y.take i)+W32 ^ i*e)(ed:e<4294967296)(dx:Dig x) :
  EG x y w (wr.setCell ⟨w.heap.size,i,none⟩ (.int .u32 ((t % 4294967296:Nat):Int))) (i+1) (t / 4294967296):=by
 obtain ⟨os,h1,h2,h3,h4⟩:=h.db;have hdl:=dx.at i;have hc:=h.c1;unfold W32 at hdl;refine ⟨Ext.set h.ext (nXe _) _,hi,⟨os++[t % 4294967296],?_,by simp [h2],h3.append (Dig.cons (Nat.mod_lt _ dZ) Dig.nil),?_⟩,zo⟩
 ·have h5:=h1.set (i:=i) (by simp [h2]) (t % 4294967296);subst h2;rw [show x.length-os.length+1=x.length-(os.length+1)+1+1 by omega,gL] at h5;exact h5
 ·rw [bp,h2,au hi,he,nXu,←hd];exact mD ht h4
theorem iM.of{v:Nat}{w w':World}{ao:Option Addr}{n cap:Nat}{ds:List Nat}(hU:U32 w' ao n cap ds)(hE:Ext w w')(hv:val ds=v):iM (digs v) w (.returned (.slice ao (digs v).length cap)) w':=by
 subst hv;exact ⟨_,_,_,rfl,hU.digs,hE⟩
theorem CM(ao bo:Option Addr)(n ac m bc:Nat)(ds es:List Nat)(w:World)(ha:U32 w ao n ac ds)(hb:U32 w bo m bc es)(hn:n≤4294967296)(hm:m≤4294967296) :
  Calls Tryz.prog 184 #[.slice ao n ac,.slice bo m bc] w (iM (digs (val ds+val es)) w):=by
 obtain ⟨i0,hi0,hz0,hz1,hz2⟩:=info_parts eO;have hx:=ha.digs;have hy:=hb.digs;have hxl:=aE ha.dig;have hyl:=aE hb.dig;rw [ha.len] at hxl;rw [hb.len] at hyl;have HA:=Hi ha;have HB:=Hi hb;obtain ⟨x,hxe⟩:∃ x,x=digs (val ds):=⟨_,rfl⟩;obtain ⟨y,hye⟩:∃ y,y=digs (val es):=⟨_,rfl⟩;have hvx:val x=val ds:=by rw [hxe,ag]
 have hvy:val y=val es:=by rw [hye,ag]
 rw [←hvx,←hvy];rw [←hxe] at hx hxl;rw [←hye] at hy hyl;replace hxl:=nXf hxl hn;replace hyl:=nXf hyl hm;have HX:=Hi hx;have HY:=Hi hy;have EX:=Hi hxe;have EY:=Hi hye;clear ha hb hx hy hxe hye hvx hvy;go_enter Tryz.func184,Tryz.ntmps184
 go_wp2_with fail
 refine (bJ _ _ _ _ _ HA.out).mono ?_;rintro e w1 ⟨rfl,rfl⟩
 go_wp2_with fail
 refine (bJ _ _ _ _ _ HB.out).mono ?_;rintro e w1 ⟨rfl,rfl⟩;rw [←EX.out,←EY.out]
 go_upto_if 20 with fail
 go_cut [5,6] (fun p q wr=>w=wr∧∃ ao bo ac bc x' y',p=.slice ao x'.length ac∧q=.slice bo y'.length bc∧U32 w ao x'.length ac x'∧U32 w bo y'.length bc y'∧x'.length≤4294967296∧y'.length≤x'.length∧val x'+val y'=val x+val y)
 case first =>
  by_cases hlt:x.length<y.length
  ·go_wp2
   go_meet
   case rel=>exact ⟨rfl,_,_,_,_,y,x,rfl,rfl,HY.out,HX.out,hyl,zo,nYj _ _⟩
  ·go_wp2
   go_meet
   case rel=>exact ⟨rfl,_,_,_,_,x,y,rfl,rfl,HX.out,HY.out,hxl,zo,rfl⟩
 case rest =>
  obtain ⟨rfl,ao,bo,ac,bc,x',y',rfl,rfl,h1,h2,h3,h4,h5⟩:=hcut;clear HX HY EX EY hxl hyl HA HB;have HX:=Hi h1;have HY:=Hi h2;have HV:=Hi h5;clear h1 h2 h5
  go_wp2_with (refine aB rfl (.tmp 25) (.tmp 25) 33 rfl 124 i0 (.int .u32 0) 1 Tryz.underlying33 hi0 hz0 hz1 _ _ (x'.length+1) rfl rfl (by simp) (by simp) (by rw [hz2];omega) zo ?_;intro w1 hnew hE)
  have I0:EG x' y' w w1 0 0:=⟨hE,Nat.zero_le _,⟨[],by have:=DB.make rfl hnew;simpa using this,rfl,Dig.nil,by simp [val]⟩,zo⟩;have HI0:=Hi I0;clear I0 hnew hE;go_wp2
  go_loopg [8,29] x'.length (fun g c i wr=>∃ j k:Nat,j+g=x'.length∧i=.int .i64 j∧c=.int .u64 k∧EG x' y' w wr j k)
  case atStart=>exact ⟨0,0,zo,rfl,rfl,HI0.out⟩
  case round =>
   obtain ⟨j,k,hj,rfl,rfl,hI⟩:=hrel;have hk1:=hI.c1;have HI:=Hi hI;clear hI HI0;have hLw:w.heap.size<wr.heap.size:=by obtain ⟨os,h,_⟩:=HI.out.db;exact (nXb.1 h).1
   by_cases hlt:j<x'.length
   ·obtain ⟨g1,rfl⟩:∃ g1,gk=g1+1:=⟨gk-1,zo⟩;obtain ⟨b,off,d,hao,hc,hd,hdl⟩:=HX.out.at hlt;subst hao;replace hc:=HI.out.ext.cell hc;have hcL:∃ z,wr.cell? ⟨w.heap.size,j,none⟩=some (.int .u32 z):=by obtain ⟨os,h,h2,_⟩:=HI.out.db;exact ⟨_,h.cell (by simp [h2])⟩
    obtain ⟨z,hcL⟩:=hcL;have hfL:wr.frozen? ⟨w.heap.size,j,none⟩=false:=by obtain ⟨os,h,h2,_⟩:=HI.out.db;exact h.frozen _
    have Hd:=Hi hd;clear hd;by_cases hy:j<y'.length
    ·obtain ⟨b',off',d',hao',hc',hd',hdl'⟩:=HY.out.at hy;subst hao';replace hc':=HI.out.ext.cell hc';have Hd':=Hi hd';clear hd';go_wp2
     go_roundg g1
     case measure=>omega
     case rel =>
      refine ⟨j+1,(d+d'+k) / 4294967296,zo,by go_num,?_,?_⟩
      ·exact congrArg _ zo
      ·rw [show ((d:Int)+k+d') % 4294967296=(((d+d'+k) % 4294967296:Nat):Int) by omega];exact HI.out.next hlt rfl Hd.out (by rw [au hy,←Hd'.out]) hdl' HX.out.dig
    ·go_wp2
     go_roundg g1
     case measure=>omega
     case rel =>
      refine ⟨j+1,(d+0+k) / 4294967296,zo,by go_num,?_,?_⟩
      ·exact congrArg _ zo
      ·rw [show ((d:Int)+k) % 4294967296=(((d+0+k) % 4294967296:Nat):Int) by omega];exact HI.out.next hlt rfl Hd.out (iV zo) dZ HX.out.dig
   ·have hj':j=x'.length:=by omega
    subst hj';clear hj;have hcL:∃ z,wr.cell? ⟨w.heap.size,x'.length,none⟩=some (.int .u32 z):=by obtain ⟨os,h,h2,_⟩:=HI.out.db;exact ⟨_,h.cell (by simp [h2])⟩
    obtain ⟨z,hcL⟩:=hcL;have hfL:wr.frozen? ⟨w.heap.size,x'.length,none⟩=false:=by obtain ⟨os,h,h2,_⟩:=HI.out.db;exact h.frozen _
    have hfin:∃ zs,val zs=val x+val y∧U32 (wr.setCell ⟨w.heap.size,x'.length,none⟩ (.int .u32 (k:Int))) (some ⟨w.heap.size,0,none⟩) (x'.length+1) (x'.length+1) zs∧Ext w (wr.setCell ⟨w.heap.size,x'.length,none⟩ (.int .u32 (k:Int))):=by
     obtain ⟨os,h,h2,h6,h7⟩:=HI.out.db;refine ⟨os++[k],?_,?_,Ext.set HI.out.ext (nXe _) _⟩
     ·rw [bp,h2,h7,←HV.out,aw (nXe _),aw h4]
     ·have h9:=h.set (i:=x'.length) (by simp [h2]) k;rw [show x'.length-x'.length+1=0+1 by omega,←h2,gL,h2] at h9;simp only [List.replicate_zero,List.append_nil] at h9;exact h9.u32 (by simp [h2]) (nXe _) zo (h6.append (Dig.cons (by unfold W32;omega) Dig.nil))
    obtain ⟨zs,hz,hU,hEx⟩:=hfin;have HZ:=Hi hz;have HU:=Hi hU;have HE:=Hi hEx;clear hz hU hEx
    go_wp2_with fail
    refine (bJ _ _ _ _ _ HU.out).mono ?_;rintro e w2 ⟨rfl,rfl⟩;go_wp2
    go_ret
    rw [HZ.out];exact iM.of HU.out HE.out HZ.out
structure EA (x y:List Nat) (w wr:World) (i c:Nat):Prop where
 ext:Ext w wr
 le:i≤x.length
 db:∃ os,DB wr w.heap.size (os++List.replicate (x.length-i) 0) #[]∧os.length=i∧Dig os∧val os+val (y.take i)=val (x.take i)+W32 ^ i*c
 c1:c≤1
theorem qC{v vx vy P r d e c c':Nat}(ht:r+e+c=d+W32*c')(hv:v+vy=vx+P*c):(v+P*r)+(vy+P*e)=(vx+P*d)+P*W32*c':=by
 have h1:P*r+P*e+P*c=P*d+P*W32*c':=by rw [←Nat.mul_add,←Nat.mul_add,ht,Nat.mul_add,Nat.mul_assoc]
 omega
theorem bF(x:Int):IntKind.u64.wrap x=x % 18446744073709551616:=by simp [IntKind.wrap,IntKind.bits,IntKind.signed]
theorem sv{d e k:Nat}(hd:d<4294967296)(he:e<4294967296)(hk:k≤1):∃ r c:Nat,r+e+k=d+4294967296*c∧r<4294967296∧c≤1 ∧
  IntKind.u64.wrap (IntKind.u64.wrap (d-k)-e) / 9223372036854775808=c∧IntKind.u64.wrap (IntKind.u64.wrap (d-k)-e) % 4294967296=r:=by
 simp only [bF];by_cases h:e+k≤d
 ·exact ⟨d-e-k,0,zo,zo,zo,zo,zo⟩
 ·exact ⟨d+4294967296-e-k,1,zo,zo,zo,zo,zo⟩
theorem sx{d k:Nat}(hd:d<4294967296)(hk:k≤1):∃ r c:Nat,r+0+k=d+4294967296*c∧r<4294967296∧c≤1 ∧
  IntKind.u64.wrap (d-k) / 9223372036854775808=c∧IntKind.u64.wrap (d-k) % 4294967296=r:=by
 simp only [bF];by_cases h:k≤d
 ·exact ⟨d-k,0,zo,zo,zo,zo,zo⟩
 ·exact ⟨d+4294967296-k,1,zo,zo,zo,zo,zo⟩
theorem EA.next{x y:List Nat}{w wr:World}{i c c' r d e:Nat}(h:EA x y w wr i c)(hi:i<x.length)(ht:r+e+c=d+4294967296*c')(hr:r<4294967296)(hc:c'≤1)(hd:d=x.getD i 0)(he:val (y.take (i+1))=val (y.take i)+W32 ^ i*e) :
  EA x y w (wr.setCell ⟨w.heap.size,i,none⟩ (.int .u32 (r:Int))) (i+1) c':=by
 obtain ⟨os,h1,h2,h3,h4⟩:=h.db;refine ⟨Ext.set h.ext (nXe _) _,hi,⟨os++[r],?_,by simp [h2],h3.append (Dig.cons hr Dig.nil),?_⟩,hc⟩
 ·have h5:=h1.set (i:=i) (by simp [h2];omega) r;subst h2;rw [show x.length-os.length=x.length-(os.length+1)+1 by omega,gL] at h5;exact h5
 ·rw [bp,h2,au hi,he,nXu,←hd];exact qC ht h4
theorem A7(ao bo:Option Addr)(n ac m bc:Nat)(ds es:List Nat)(w:World)(ha:U32 w ao n ac ds)(hb:U32 w bo m bc es)(hn:n≤4294967296)(hm:m≤4294967296) :
  Calls Tryz.prog 185 #[.slice ao n ac,.slice bo m bc] w (iM (digs (val ds-val es)) w):=by
 obtain ⟨i0,hi0,hz0,hz1,hz2⟩:=info_parts eO;have hx:=ha.digs;have hy:=hb.digs;have hxl:=aE ha.dig;have hyl:=aE hb.dig;rw [ha.len] at hxl;rw [hb.len] at hyl;have HA:=Hi ha;have HB:=Hi hb;obtain ⟨x,hxe⟩:∃ x,x=digs (val ds):=⟨_,rfl⟩;obtain ⟨y,hye⟩:∃ y,y=digs (val es):=⟨_,rfl⟩;have hvx:val x=val ds:=by rw [hxe,ag]
 have hvy:val y=val es:=by rw [hye,ag]
 rw [←hxe] at hx hxl;rw [←hye] at hy hyl;replace hxl:=nXf hxl hn;replace hyl:=nXf hyl hm;have hyn:lD y:=by rw [hye];exact ce _
 have HYN:=Hi hyn;have HX:=Hi hx;have HY:=Hi hy;have EX:=Hi hxe;have EY:=Hi hye;have VX:=Hi hvx;have VY:=Hi hvy;clear ha hb hx hy hxe hye hvx hvy hyn;go_enter Tryz.func185,Tryz.ntmps185
 go_wp2_with fail
 refine (dQ _ _ _ _ _ _ _ _ _ HA.out HB.out).mono ?_;rintro e w1 ⟨rfl,hE1⟩;have HE1:=Hi hE1;clear hE1;by_cases hle:val ds≤val es
 ·have hc:bU (val ds:Nat) (val es:Nat)≤0:=by unfold bU;split <;> (try split) <;> omega
  go_wp2
  go_ret
  rw [Nat.sub_eq_zero_of_le hle,aS];exact ⟨none,0,0,rfl,U32.nil _ _ _ dZ,HE1.out⟩
 ·have hc:bU (val ds:Nat) (val es:Nat)=1:=cX zo;rw [hc];have HLT:=Hi hle;clear hc hle;refine mV4 HE1.out ?_ HA HB HX HY;clear HA HB HX HY;intro HA HB HX HY
  go_wp2_with fail
  refine (bJ _ _ _ _ _ HA.out).mono ?_;rintro e w1' ⟨rfl,rfl⟩
  go_wp2_with fail
  refine (bJ _ _ _ _ _ HB.out).mono ?_;rintro e w1' ⟨rfl,rfl⟩;rw [←EX.out,←EY.out]
  go_wp2_with (refine aB rfl (.tmp 21) (.tmp 21) 33 rfl 124 i0 (.int .u32 0) 1 Tryz.underlying33 hi0 hz0 hz1 _ _ x.length rfl rfl (by simp) (by simp) (by rw [hz2];omega) zo ?_;intro w2 hnew hE)
  have I0:EA x y w1 w2 0 0:=⟨hE,Nat.zero_le _,⟨[],by have:=DB.make rfl hnew;simpa using this,rfl,Dig.nil,by simp [val]⟩,zo⟩;have HI0:=Hi I0;clear I0 hnew hE;go_wp2
  go_loopg [8,25] x.length (fun g c i wr=>∃ j k:Nat,j+g=x.length∧i=.int .i64 j∧c=.int .u64 k∧EA x y w1 wr j k)
  case atStart=>exact ⟨0,0,zo,rfl,rfl,HI0.out⟩
  case round =>
   obtain ⟨j,k,hj,rfl,rfl,hI⟩:=hrel;have hk1:=hI.c1;have HI:=Hi hI;clear hI HI0;by_cases hlt:j<x.length
   ·have hLw:w1.heap.size<wr.heap.size:=by obtain ⟨os,h,_⟩:=HI.out.db;exact (nXb.1 h).1
    obtain ⟨g1,rfl⟩:∃ g1,gk=g1+1:=⟨gk-1,zo⟩;obtain ⟨b,off,d,hao,hc,hd,hdl⟩:=HX.out.at hlt;subst hao;replace hc:=HI.out.ext.cell hc;have hcL:∃ z,wr.cell? ⟨w1.heap.size,j,none⟩=some (.int .u32 z):=by obtain ⟨os,h,h2,_⟩:=HI.out.db;exact ⟨_,h.cell (by simp [h2];omega)⟩
    obtain ⟨z,hcL⟩:=hcL;have hfL:wr.frozen? ⟨w1.heap.size,j,none⟩=false:=by obtain ⟨os,h,h2,_⟩:=HI.out.db;exact h.frozen _
    have Hd:=Hi hd;clear hd;by_cases hy:j<y.length
    ·obtain ⟨b',off',d',hao',hc',hd',hdl'⟩:=HY.out.at hy;subst hao';replace hc':=HI.out.ext.cell hc';have Hd':=Hi hd';clear hd';go_wp2
     go_roundg g1
     case measure=>omega
     case rel =>
      obtain ⟨r,c,e1,e2,e3,e4,e5⟩:=sv hdl hdl' hk1;rw [e4,e5];exact ⟨j+1,c,zo,by go_num,rfl,HI.out.next hlt e1 e2 e3 Hd.out (by rw [au hy,←Hd'.out])⟩
    ·go_wp2
     go_roundg g1
     case measure=>omega
     case rel =>
      obtain ⟨r,c,e1,e2,e3,e4,e5⟩:=sx hdl hk1;rw [e4,e5];exact ⟨j+1,c,zo,by go_num,rfl,HI.out.next hlt e1 e2 e3 Hd.out (iV zo)⟩
   ·have hj':j=x.length:=by omega
    subst hj';clear hj;have hfin:∃ zs,val zs=val ds-val es∧U32 wr (some ⟨w1.heap.size,0,none⟩) x.length x.length zs:=by
     obtain ⟨os,h,h2,h6,h7⟩:=HI.out.db;refine ⟨os,?_,?_⟩
     ·have hb:=bE h6;have hle:=HLT.out;have hyx:y.length≤x.length:=by
       rcases Nat.lt_or_ge x.length y.length with h|h
       ·have:=iu HX.out.dig HYN.out h;rw [VX.out,VY.out] at this;omega
       ·exact h
      rw [aw (nXe _),aw hyx,VX.out,VY.out] at h7;rw [h2] at hb;have:k=0:=by
       rcases Nat.lt_or_ge 0 k with h|h
       ·obtain rfl:k=1:=by omega
        omega
       ·omega
      subst this;omega
     ·simp only [Nat.sub_self,List.replicate_zero,List.append_nil] at h;exact h.u32 h2 (nXe _) zo h6
    obtain ⟨zs,hz,hU⟩:=hfin;have HZ:=Hi hz;have HU:=Hi hU;clear hz hU
    go_wp2_with fail
    refine (bJ _ _ _ _ _ HU.out).mono ?_;rintro e w2 ⟨rfl,rfl⟩;go_wp2
    go_ret
    rw [HZ.out];exact iM.of HU.out (HE1.out.trans HI.out.ext) HZ.out
theorem my{ps:List Nat}{k r:Nat}(hk:k<ps.length):val (ps.set k r)+W32 ^ k*ps.getD k 0=val ps+W32 ^ k*r:=by
 induction ps generalizing k with
 | nil=>simp at hk
 | cons p ps ih =>
  cases k with
  | zero=>simp [val];omega
  | succ k =>
   have:=ih (k:=k) (by simpa using hk);simp only [List.set_cons_succ,val,List.getD_cons_succ,nXu];rw [nYf (W32 ^ k) W32,Nat.mul_assoc,Nat.mul_assoc,Nat.add_assoc,Nat.add_assoc,←Nat.mul_add,←Nat.mul_add,this]
theorem oE{ps:List Nat}(k:Nat)(hv:val ps<W32 ^ k):ps.getD k 0=0:=by
 induction ps generalizing k with
 | nil=>simp
 | cons p ps ih =>
  cases k with
  | zero =>
   simp only [Nat.pow_zero,val] at hv;simp;omega
  | succ k =>
   simp only [List.getD_cons_succ];apply ih;simp only [val,nXu] at hv;exact Nat.lt_of_mul_lt_mul_left (a:=W32) (by rw [nYf W32 (W32 ^ k)];omega)
structure AY (x y:List Nat) (w wr:World) (i:Nat):Prop where
 ext:Ext w wr
 db:∃ ps,DB wr w.heap.size ps #[]∧ps.length=x.length+y.length∧Dig ps∧val ps=val (x.take i)*val y
structure CQ (x y:List Nat) (w wr:World) (i d j c:Nat) (ps:List Nat):Prop where
 ext:Ext w wr
 db:DB wr w.heap.size ps #[]
 len:ps.length=x.length+y.length
 dig:Dig ps
 z:ps.getD (i+y.length) 0=0
 v:val ps+W32 ^ (i+j)*c=val (x.take i)*val y+W32 ^ i*d*val (y.take j)
 c1:c<4294967296
theorem AY.start{x y:List Nat}{w wr:World}{i d:Nat}(h:AY x y w wr i)(dx:Dig x)(dy:Dig y)(hi:i<x.length):∃ ps,CQ x y w wr i d 0 0 ps:=by
 obtain ⟨ps,h1,h2,h3,h4⟩:=h.db;refine ⟨ps,h.ext,h1,h2,h3,oE _ ?_,by rw [h4];simp [val],dZ⟩;rw [h4,Nat.pow_add];have a:=bE (dx.take i);have b:=bE dy;rw [nXk,Nat.min_eq_left (nYm hi)] at a;exact Nat.mul_lt_mul_of_lt_of_lt a b
theorem CQ.next{x y ps:List Nat}{w wr:World}{i d j c p e t:Nat}(h:CQ x y w wr i d j c ps)(hi:i<x.length)(hj:j<y.length)(hp:p=ps.getD (i+j) 0)(he:e=y.getD j 0)(ht:t=d*e+p+c)(hb:t<18446744073709551616) :
  CQ x y w (wr.setCell ⟨w.heap.size,i+j,none⟩ (.int .u32 ((t % 4294967296:Nat):Int))) i d (j+1) (t / 4294967296) (ps.set (i+j) (t % 4294967296)):=by
 have hl:=h.len;have hk:i+j<ps.length:=zo;refine ⟨Ext.set h.ext (nXe _) _,h.db.set hk _,by simp [h.len],h.dig.set _ _ (Nat.mod_lt _ dZ),?_,?_,zo⟩
 ·have:=h.z;rw [nXd,List.getElem?_set_ne zo]
  rwa [nXd] at this
 ·have h1:=my (r:=t % 4294967296) hk;have h2:=h.v;have h3:W32 ^ (i+j)*t=W32 ^ (i+j)*(t % 4294967296)+W32 ^ (i+(j+1))*(t / 4294967296):=by
   conv=>lhs;rw [←Nat.mod_add_div t 4294967296]
   rw [Nat.mul_add,←Nat.mul_assoc,←Nat.add_assoc,nXu];rfl
  have h4:W32 ^ (i+j)*t=W32 ^ i*d*(W32 ^ j*e)+W32 ^ (i+j)*p+W32 ^ (i+j)*c:=by
   rw [ht,Nat.mul_add,Nat.mul_add,Nat.pow_add]
   congr 2
   simp only [Nat.mul_assoc,Nat.mul_left_comm,nYf]
  rw [au hj,←he,Nat.mul_add];rw [←hp] at h1;omega
theorem CQ.over{x y ps:List Nat}{w wr:World}{i d c:Nat}(h:CQ x y w wr i d y.length c ps)(hi:i<x.length)(hd:d=x.getD i 0):AY x y w (wr.setCell ⟨w.heap.size,i+y.length,none⟩ (.int .u32 (c:Int))) (i+1):=by
 have hl:=h.len;have hk:i+y.length<ps.length:=zo;refine ⟨Ext.set h.ext (nXe _) _,ps.set (i+y.length) c,h.db.set hk _,by simp [h.len],h.dig.set _ _ h.c1,?_⟩;have h1:=my (r:=c) hk;rw [h.z,Nat.mul_zero,Nat.add_zero,h.v,aw (nXe _)] at h1;rw [h1,au hi,←hd,Nat.add_mul]
theorem AY.skip{x y:List Nat}{w wr:World}{i:Nat}(h:AY x y w wr i)(hi:i<x.length)(hd:x.getD i 0=0):AY x y w wr (i+1):=by
 obtain ⟨ps,h1,h2,h3,h4⟩:=h.db;exact ⟨h.ext,ps,h1,h2,h3,by rw [h4,au hi,hd];simp⟩
theorem fy{d e:Nat}(hd:d<4294967296)(he:e<4294967296):d*e≤18446744065119617025:=by
 have:=nXy (show d≤4294967295 by omega) (show e≤4294967295 by omega);omega
theorem BM(ao bo:Option Addr)(n ac m bc:Nat)(ds es:List Nat)(w:World)(ha:U32 w ao n ac ds)(hb:U32 w bo m bc es)(hn:n≤4294967296)(hm:m≤4294967296) :
  Calls Tryz.prog 155 #[.slice ao n ac,.slice bo m bc] w (iM (digs (val ds*val es)) w):=by
 obtain ⟨i0,hi0,hz0,hz1,hz2⟩:=info_parts eO;have hx:=ha.digs;have hy:=hb.digs;have hxl:=aE ha.dig;have hyl:=aE hb.dig;rw [ha.len] at hxl;rw [hb.len] at hyl;have HA:=Hi ha;have HB:=Hi hb;obtain ⟨x,hxe⟩:∃ x,x=digs (val ds):=⟨_,rfl⟩;obtain ⟨y,hye⟩:∃ y,y=digs (val es):=⟨_,rfl⟩;have hvx:val x=val ds:=by rw [hxe,ag]
 have hvy:val y=val es:=by rw [hye,ag]
 rw [←hxe] at hx hxl;rw [←hye] at hy hyl;rw [←hvx,←hvy];replace hxl:=nXf hxl hn;replace hyl:=nXf hyl hm;have HX:=Hi hx;have HY:=Hi hy;have EX:=Hi hxe;have EY:=Hi hye;clear ha hb hx hy hxe hye hvx hvy;go_enter Tryz.func155,Tryz.ntmps155
 go_wp2_with fail
 refine (bJ _ _ _ _ _ HA.out).mono ?_;rintro e w1' ⟨rfl,rfl⟩
 go_wp2_with fail
 refine (bJ _ _ _ _ _ HB.out).mono ?_;rintro e w1' ⟨rfl,rfl⟩;rw [←EX.out,←EY.out];clear EX EY HA HB;by_cases h0:x.length=0
 ·have hxn:=nXj.1 h0;subst hxn;go_wp2
  go_ret
  rw [show val []=0 from rfl,Nat.zero_mul,aS];exact ⟨none,0,0,rfl,U32.nil _ _ _ dZ,Ext.refl _⟩
 ·have h0b:((x.length:Int) == 0)=false:=by rw [nXs];omega
  by_cases h1:y.length=0
  ·have hyn:=nXj.1 h1;subst hyn;go_wp2
   go_ret
   rw [show val []=0 from rfl,Nat.mul_zero,aS];exact ⟨none,0,0,rfl,U32.nil _ _ _ dZ,Ext.refl _⟩
  ·have h1b:((y.length:Int) == 0)=false:=by rw [nXs];omega
   go_wp2_with (refine aB rfl (.tmp 30) (.tmp 30) 33 rfl 124 i0 (.int .u32 0) 1 Tryz.underlying33 hi0 hz0 hz1 _ _ (x.length+y.length) rfl rfl (by simp) (by simp) (by rw [hz2];omega) zo ?_;intro w2 hnew hE)
   have I0:AY x y w w2 0:=⟨hE,List.replicate (x.length+y.length) 0,DB.make rfl hnew,by simp,Dig.replicate _,by rw [fI];simp [val]⟩;have HI0:=Hi I0;clear I0 hnew hE;go_wp2
   go_loopg [34] x.length (fun g i wr=>∃ j:Nat,j+g=x.length∧i=.int .i64 j∧AY x y w wr j)
   case atStart=>exact ⟨0,zo,rfl,HI0.out⟩
   case round =>
    obtain ⟨i,hi,rfl,hI⟩:=hrel;have HI:=Hi hI;clear hI HI0;by_cases hlt:i<x.length
    ·obtain ⟨g1,rfl⟩:∃ g1,gk=g1+1:=⟨gk-1,zo⟩;obtain ⟨b,off,d,hao,hc,hd,hdl⟩:=HX.out.at hlt;subst hao;replace hc:=HI.out.ext.cell hc;have Hd:=Hi hd;clear hd;by_cases hz:d=0
     ·subst hz;go_wp2
      go_roundg g1
      case measure=>omega
      case rel=>exact ⟨i+1,zo,by go_num,HI.out.skip hlt Hd.out.symm⟩
     ·have hzb:((d:Int) == 0)=false:=by simp;omega
      go_wp2
      go_loopg [10,43] y.length (fun g c k ww=>∃ j cc ps,j+g=y.length∧k=.int .i64 (j:Nat)∧c=.int .u64 (cc:Nat)∧CQ x y w ww i d j cc ps)
      case atStart =>
       obtain ⟨ps,hp⟩:=HI.out.start (d:=d) HX.out.dig HY.out.dig hlt;exact ⟨0,0,ps,zo,rfl,rfl,hp⟩
      case round =>
       obtain ⟨j,cc,ps,hj,rfl,rfl,hJ⟩:=hrel;have hcc:=hJ.c1;have hpl:=hJ.len;have HJ:=Hi hJ
       rename_i ww
       by_cases hjl:j<y.length
       ·obtain ⟨g2,rfl⟩:∃ g2,gk=g2+1:=⟨gk-1,zo⟩;obtain ⟨b',off',e,hao',hc',he,hel⟩:=HY.out.at hjl;subst hao';replace hc':=hJ.ext.cell hc';obtain ⟨p,hp⟩:∃ p,p=ps.getD (i+j) 0:=⟨_,rfl⟩;have hcL:=hJ.db.cell (i:=i+j) zo;have hfL:=hJ.db.frozen (i+j);have hpl2:p<4294967296:=by rw [hp];exact hJ.dig.at _
        rw [←hp] at hcL;have He:=Hi he;have Hp:=Hi hp;have hb:=fy hdl hel;have hde:(d:Int)*e≤18446744065119617025:=by rw [←Int.natCast_mul];exact Int.ofNat_le.2 hb
        have hde0:0≤(d:Int)*e:=Int.mul_nonneg zo zo;clear hJ he hp;go_wp2
        go_roundg g2
        case measure=>omega
        case rel =>
         have e1:((d:Int)*e+p+cc) / 4294967296=(((d*e+p+cc) / 4294967296:Nat):Int):=by simp
         have e2:((d:Int)*e+p+cc) % 4294967296=(((d*e+p+cc) % 4294967296:Nat):Int):=by simp
         rw [e1,e2];exact ⟨j+1,_,_,zo,by go_num,rfl,HJ.out.next hlt hjl Hp.out He.out rfl zo⟩
       ·have hj':j=y.length:=by omega
        subst hj';have hcL:=hJ.db.cell (i:=i+y.length) zo;have hfL:=hJ.db.frozen (i+y.length);clear hJ;go_wp2
        go_roundg g1
        case measure=>omega
        case rel=>exact ⟨i+1,zo,by go_num,HJ.out.over hlt Hd.out⟩
    ·have hj':i=x.length:=by omega
     subst hj';clear hi;have hfin:∃ zs,val zs=val x*val y∧U32 wr (some ⟨w.heap.size,0,none⟩) (x.length+y.length) (x.length+y.length) zs:=by
      obtain ⟨os,h,h2,h6,h7⟩:=HI.out.db;rw [aw (nXe _)] at h7;exact ⟨os,h7,h.u32 h2 (nXe _) zo h6⟩
     obtain ⟨zs,hz,hU⟩:=hfin;have HZ:=Hi hz;have HU:=Hi hU;clear hz hU
     go_wp2_with fail
     refine (bJ _ _ _ _ _ HU.out).mono ?_;rintro e w2 ⟨rfl,rfl⟩;go_wp2
     go_ret
     rw [HZ.out];exact iM.of HU.out HI.out.ext HZ.out
end Go.Proofs.YtkcpmclnocmalaaGreat
namespace Go.Proofs
open Go.Shelf
def Tryz.lays128_ren:Go.Shelf.Ren:=⟨fun|128=>215|n=>n,fun|51=>124|3=>3|4=>4|46=>150|5=>5|9=>9|n=>n,fun|n=>n⟩
theorem Tryz.lays128:Lays.n128 Tryz.prog Tryz.lays128_ren where
 mixed:=by kernel_rfl
 f128:=Tryz.func215.trans (congrArg some kZ)
 t3:=Tryz.underlying3
 a3:=Tryz.isAgg3
 z3:=Tryz.sizeOf3
 v3:=Tryz.zeroValue3
 t4:=Tryz.underlying4
 a4:=Tryz.isAgg4
 z4:=Tryz.sizeOf4
 v4:=Tryz.zeroValue4
 t5:=Tryz.underlying5
 a5:=Tryz.isAgg5
 z5:=Tryz.sizeOf5
 v5:=Tryz.zeroValue5
 t9:=Tryz.underlying9
 a9:=Tryz.isAgg9
 z9:=Tryz.sizeOf9
 v9:=Tryz.zeroValue9
 t46:=Tryz.underlying150
 a46:=Tryz.isAgg150
 z46:=Tryz.sizeOf150
 v46:=Tryz.zeroValue150
 t51:=Tryz.underlying124
 a51:=Tryz.isAgg124
 z51:=Tryz.sizeOf124
 v51:=Tryz.zeroValue124
theorem YtkcpmclnocmalaaGreat.len32_any(d:Nat)(w:World)(hd:d<4294967296):Calls Tryz.prog 215 #[.int .u32 (d:Int)] w fun e w'=>e=.returned (.int .i64 (Lib.bitLen d:Nat))∧w'=w:=by
 have:=Any.bits_Len32 Tryz.lays128 (d:Int) w zo zo
 rwa [Int.toNat_natCast] at this
end Go.Proofs
namespace Go.Proofs.YtkcpmclnocmalaaGreat
open Go.RowKit Go.Front Go.Num
attribute [local go_sem] XW.cell XW.frozen
theorem er{d:Nat}(h0:d≠0)(hd:d<4294967296):1≤Lib.bitLen d∧Lib.bitLen d≤32∧2 ^ (Lib.bitLen d-1)≤d∧d<2 ^ Lib.bitLen d:=by
 have h:=Lib.bitLenAux_bounds 64 d zo h0;refine ⟨h.1,?_,h.2⟩;rcases Nat.lt_or_ge 32 (Lib.bitLen d) with h1|h1
 ·have h2:2 ^ 32≤2 ^ (Lib.bitLenAux 64 d-1):=nXp dZ (by unfold Lib.bitLen at h1;omega);have:=h.2.1;omega
 ·exact h1
theorem rA(d:Nat)(w:World)(h0:d≠0)(hd:d<4294967296):Calls Tryz.prog 208 #[.int .u32 (d:Int)] w fun e w'=>e=.returned (.int .i64 ((32-Lib.bitLen d:Nat):Int))∧w'=w:=by
 obtain ⟨h1,h2,-,-⟩:=er h0 hd;go_enter Tryz.func208,Tryz.ntmps208
 go_wp2_with fail
 refine (len32_any d _ hd).mono ?_;rintro e w1' ⟨rfl,rfl⟩;go_wp2
 go_ret
 exact ⟨aZ zo,rfl⟩
def xi(n v:Nat)(w:World)(e:Ending)(w':World):Prop:=∃ zs,e=.returned (.slice (some ⟨w.heap.size,0,none⟩) n n)∧DB w' w.heap.size zs #[]∧zs.length=n∧Dig zs∧val zs=v∧Ext w w'
structure xj (x:List Nat) (s n:Nat) (w wr:World) (i c:Nat):Prop where
 ext:Ext w wr
 le:i≤x.length
 db:∃ os,DB wr w.heap.size (os++List.replicate (n-i) 0) #[]∧os.length=i∧Dig os∧val os+W32 ^ i*c=val (x.take i)*2 ^ s
 c1:c<2 ^ s
theorem gp{s:Nat}(hs:s≤32):2 ^ s*2 ^ (32-s)=4294967296:=by rw [←Nat.pow_add,show s+(32-s)=32 by omega]
theorem l9{s a b:Nat}(h:b<2 ^ s):2 ^ s*a ||| b=2 ^ s*a+b:=(Nat.two_pow_add_eq_or_of_lt h a).symm
theorem sW{d s k:Nat}(hd:d<4294967296)(hs:s<32)(hk:k<2 ^ s) :
  bits .or .u32 ((d:Int)*2 ^ s % 4294967296) (k:Int)=(((d*2 ^ s+k) % 4294967296:Nat):Int)∧IntKind.u64.wrap ((d:Int)*2 ^ s) / 4294967296 % 4294967296=(((d*2 ^ s+k) / 4294967296:Nat):Int)∧(d*2 ^ s+k) / 4294967296<2 ^ s:=by
 have hP:=gp (nYm hs);have hp:0<2 ^ s:=Nat.two_pow_pos _;have hq:0<2 ^ (32-s):=Nat.two_pow_pos _;have h32:2 ^ s≤2147483648:=by have:=nXp (n:=2) dZ (show s≤31 by omega);omega
 have e0:((d:Int)*2 ^ s)=((d*2 ^ s:Nat):Int):=by push_cast;rfl
 obtain ⟨q,r,hqr,hr⟩:∃ q r,d=2 ^ (32-s)*q+r∧r<2 ^ (32-s):=⟨d / 2 ^ (32-s),d % 2 ^ (32-s),(Nat.div_add_mod ..).symm,Nat.mod_lt _ hq⟩;have e1:d*2 ^ s=4294967296*q+2 ^ s*r:=by
  rw [hqr,Nat.add_mul,←hP]
  congr 1
  ·simp only [Nat.mul_left_comm,nYf]
  ·exact nYf _ _
 have e2:2 ^ s*r+k<4294967296:=by
  have:=nXg (2 ^ s) (show r+1≤2 ^ (32-s) by omega);rw [hP,Nat.mul_add] at this;omega
 have e3:d*2 ^ s % 4294967296=2 ^ s*r:=by omega
 have e4:q<2 ^ s:=by
  rcases Nat.lt_or_ge q (2 ^ s) with h|h
  ·exact h
  ·have h1:=nXg (2 ^ (32-s)) h;rw [nYf,hP] at h1;omega
 rw [e0];refine ⟨?_,?_,?_⟩
 ·have:((d*2 ^ s:Nat):Int) % 4294967296=((d*2 ^ s % 4294967296:Nat):Int):=zo;rw [this,u32_or_nat _ _ zo zo,e3,l9 hk];omega
 ·rw [bF,e1];have:q<4294967296:=zo;omega
 ·rw [e1];omega
theorem xj.next{x:List Nat}{w wr:World}{s n i c d:Nat}(h:xj x s n w wr i c)(hi:i<x.length)(hn:x.length≤n)(hd:d=x.getD i 0)(hc:(d*2 ^ s+c) / 4294967296<2 ^ s) :
  xj x s n w (wr.setCell ⟨w.heap.size,i,none⟩ (.int .u32 (((d*2 ^ s+c) % 4294967296:Nat):Int))) (i+1) ((d*2 ^ s+c) / 4294967296):=by
 obtain ⟨os,h1,h2,h3,h4⟩:=h.db;refine ⟨Ext.set h.ext (nXe _) _,hi,⟨os++[(d*2 ^ s+c) % 4294967296],?_,by simp [h2],h3.append (Dig.cons (Nat.mod_lt _ dZ) Dig.nil),?_⟩,hc⟩
 ·have h5:=h1.set (i:=i) (by simp [h2];omega) ((d*2 ^ s+c) % 4294967296);subst h2;rw [show n-os.length=n-(os.length+1)+1 by omega,gL] at h5;exact h5
 ·rw [bp,h2,au hi,nXu,←hd,Nat.add_mul,←h4];have e:W32 ^ i*(d*2 ^ s+c)=W32 ^ i*((d*2 ^ s+c) % 4294967296)+W32 ^ i*W32*((d*2 ^ s+c) / 4294967296):=by
   conv=>lhs;rw [←Nat.mod_add_div (d*2 ^ s+c) 4294967296]
   rw [Nat.mul_add,Nat.mul_assoc];rfl
  rw [Nat.mul_add,←Nat.mul_assoc] at e;omega
theorem rD(ao:Option Addr)(m ac s n:Nat)(x:List Nat)(w:World)(ha:U32 w ao m ac x)(hs:s<32)(hm:m≤4294967296)(hn:n=m+1∨n=m∧val x*2 ^ s<W32 ^ m) :
  Calls Tryz.prog 212 #[.slice ao m ac,.int .u64 (s:Nat),.int .i64 (n:Nat)] w (xi n (val x*2 ^ s) w):=by
 obtain ⟨i0,hi0,hz0,hz1,hz2⟩:=info_parts eO;have hml:=ha.len;subst hml;have hnb:n≤4294967297∧x.length≤n:=zo;obtain ⟨hnb,hnx⟩:=hnb;have HX:=Hi ha;have HN:=Hi hn;clear ha hn;go_enter Tryz.func212,Tryz.ntmps212
 go_wp2_with (refine aB rfl (.tmp 11) (.tmp 11) 33 rfl 124 i0 (.int .u32 0) 1 Tryz.underlying33 hi0 hz0 hz1 _ _ n rfl rfl (by simp) (by simp) (by rw [hz2];omega) zo ?_;intro w1 hnew hE)
 have I0:xj x s n w w1 0 0:=⟨hE,Nat.zero_le _,⟨[],by have:=DB.make rfl hnew;simpa using this,rfl,Dig.nil,by simp [val]⟩,Nat.two_pow_pos _⟩;have HI0:=Hi I0;clear I0 hnew hE;go_wp2
 go_loopg [8,15] x.length (fun g c i wr=>∃ j k:Nat,j+g=x.length∧i=.int .i64 j∧c=.int .u32 k∧xj x s n w wr j k)
 case atStart=>exact ⟨0,0,zo,rfl,rfl,HI0.out⟩
 case round =>
  obtain ⟨j,k,hj,rfl,rfl,hI⟩:=hrel;have hk1:=hI.c1;have hk2:k<4294967296:=nXn hk1 (nXp (n:=2) dZ (show s≤32 by omega));have HI:=Hi hI;clear hI HI0;have hLw:w.heap.size<wr.heap.size:=by obtain ⟨os,h,_⟩:=HI.out.db;exact (nXb.1 h).1
  by_cases hlt:j<x.length
  ·obtain ⟨g1,rfl⟩:∃ g1,gk=g1+1:=⟨gk-1,zo⟩;obtain ⟨b,off,d,hao,hc,hd,hdl⟩:=HX.out.at hlt;subst hao;replace hc:=HI.out.ext.cell hc;have hcL:∃ z,wr.cell? ⟨w.heap.size,j,none⟩=some (.int .u32 z):=by obtain ⟨os,h,h2,_⟩:=HI.out.db;exact ⟨_,h.cell (by simp [h2];omega)⟩
   obtain ⟨z,hcL⟩:=hcL;have hfL:wr.frozen? ⟨w.heap.size,j,none⟩=false:=by obtain ⟨os,h,h2,_⟩:=HI.out.db;exact h.frozen _
   have Hd:=Hi hd;clear hd;go_wp2
   go_roundg g1
   case measure=>omega
   case rel =>
    obtain ⟨e1,e2,e3⟩:=sW hdl hs hk1;rw [e1,e2];exact ⟨j+1,_,zo,by go_num,rfl,HI.out.next hlt hnx Hd.out e3⟩
  ·have hj':j=x.length:=by omega
   subst hj';clear hj;obtain ⟨os,h1,h2,h6,h7⟩:=HI.out.db;rw [aw (nXe _)] at h7;rcases HN.out with hn|⟨hn,hb⟩
   ·subst hn;have hcL:=h1.cell (i:=x.length) (by simp [h2]);have hfL:=h1.frozen x.length;have h9:=h1.set (i:=x.length) (by simp [h2]) k;rw [show x.length+1-x.length=0+1 by omega,←h2,gL,h2] at h9;simp only [List.replicate_zero,List.append_nil] at h9;have H9:=Hi h9;have H2:=Hi h2;have H6:=Hi h6;have H7:=Hi h7;clear h1 h2 h6 h7 h9;go_wp2
    go_ret
    exact ⟨os++[k],rfl,H9.out,by simp [H2.out],H6.out.append (Dig.cons hk2 Dig.nil),by rw [bp,H2.out,H7.out],Ext.set HI.out.ext (nXe _) _⟩
   ·subst hn;have hk0:k=0:=by
     rcases Nat.eq_zero_or_pos k with h|h
     ·exact h
     ·have:=nXg (W32 ^ x.length) h;omega
    subst hk0;simp only [Nat.sub_self,List.replicate_zero,List.append_nil] at h1;have H9:=Hi h1;have H2:=Hi h2;have H6:=Hi h6;have H7:=Hi h7;clear h1 h2 h6 h7;go_wp2
    go_ret
    exact ⟨os,rfl,H9.out,H2.out,H6.out,by rw [←H7.out];simp,HI.out.ext⟩
structure ED (x:List Nat) (s:Nat) (w wr:World) (i c:Nat):Prop where
 ext:Ext w wr
 le:i≤x.length
 db:∃ os,DB wr w.heap.size (List.replicate i 0++os) #[]∧os.length=x.length-i∧Dig os∧val os=val (x.drop i) / 2 ^ s
 c1:c=val (x.drop i) % 2 ^ s*2 ^ (32-s)
theorem jV(i d:Nat)(os:List Nat):(List.replicate (i+1) 0++os).set i d=List.replicate i 0++(d :: os):=by
 rw [List.replicate_succ',List.append_assoc,List.set_append_right _ _ (by simp)];simp
theorem uZ{d s V:Nat}(hd:d<4294967296)(hs:s<32) :
  bits .or .u32 ((d:Int) / 2 ^ s) ((V % 2 ^ s*2 ^ (32-s):Nat):Int)=((d / 2 ^ s+V % 2 ^ s*2 ^ (32-s):Nat):Int)∧(d / 2 ^ s+V % 2 ^ s*2 ^ (32-s))<4294967296 ∧
  (d / 2 ^ s+V % 2 ^ s*2 ^ (32-s))+4294967296*(V / 2 ^ s)=(d+4294967296*V) / 2 ^ s∧(d+4294967296*V) % 2 ^ s=d % 2 ^ s∧(d*2 ^ (32-s)) % 4294967296=d % 2 ^ s*2 ^ (32-s):=by
 have hP:=gp (nYm hs);have hp:0<2 ^ s:=Nat.two_pow_pos _;have hq:0<2 ^ (32-s):=Nat.two_pow_pos _;have h1:d / 2 ^ s<2 ^ (32-s):=by rw [Nat.div_lt_iff_lt_mul hp,nYf,hP];exact hd
 have h2:V % 2 ^ s<2 ^ s:=Nat.mod_lt _ hp;obtain ⟨R,hR⟩:∃ R,R=V % 2 ^ s:=⟨_,rfl⟩;rw [←hR] at h2 ⊢;have h3:R*2 ^ (32-s)+2 ^ (32-s)≤4294967296:=by
  have:=nXh (2 ^ (32-s)) (show R+1≤2 ^ s by omega);rw [hP,Nat.add_mul] at this;omega
 refine ⟨?_,zo,?_,?_,?_⟩
 ·have:((d:Int) / 2 ^ s)=((d / 2 ^ s:Nat):Int):=by push_cast;rfl
  rw [this,u32_or_nat _ _ zo zo,Nat.or_comm,nYf R,l9 h1,nYj]
 ·have hV:V=2 ^ s*(V / 2 ^ s)+R:=by rw [hR];exact (Nat.div_add_mod ..).symm
  have e:d+4294967296*V=d+2 ^ s*(R*2 ^ (32-s)+4294967296*(V / 2 ^ s)):=by
   have:4294967296*V=4294967296*(2 ^ s*(V / 2 ^ s))+4294967296*R:=by rw [←Nat.mul_add,←hV]
   rw [this,Nat.mul_add,←hP];simp only [Nat.mul_assoc,Nat.mul_left_comm,nYf];omega
  rw [e,Nat.add_mul_div_left _ _ hp,Nat.add_assoc]
 ·rw [←hP,Nat.mul_assoc,Nat.add_mul_mod_self_left]
 ·rw [←hP,Nat.mul_mod_mul_right]
theorem ED.next{x:List Nat}{w wr:World}{s i c d:Nat}(h:ED x s w wr (i+1) c)(hs:s<32)(hd:d=x.getD i 0)(hdl:d<4294967296) :
  ED x s w (wr.setCell ⟨w.heap.size,i,none⟩ (.int .u32 (bits .or .u32 ((d:Int) / 2 ^ s) (c:Int)))) i ((d*2 ^ (32-s)) % 4294967296):=by
 obtain ⟨os,h1,h2,h3,h4⟩:=h.db;have hi:i<x.length:=h.le;have e0:val (x.drop i)=d+4294967296*val (x.drop (i+1)):=by
  rw [List.drop_eq_getElem_cons hi,val,hd];simp [hi,W32]
 obtain ⟨e1,e2,e3,e4,e5⟩:=uZ (V:=val (x.drop (i+1))) hdl hs;rw [h.c1,e1];refine ⟨Ext.set h.ext (nXe _) _,nYm hi,⟨_ :: os,?_,by simp [h2];omega,Dig.cons e2 h3,?_⟩,?_⟩
 ·have h5:=h1.set (i:=i) (by simp;omega) (d / 2 ^ s+val (x.drop (i+1)) % 2 ^ s*2 ^ (32-s));rw [jV] at h5;exact h5
 ·rw [val,h4,e0,←e3];rfl
 ·rw [e0,e4,e5]
theorem uY(ao:Option Addr)(m ac s:Nat)(x:List Nat)(w:World)(ha:U32 w ao m ac x)(hs:s<32)(hm:m≤4294967297) :
  Calls Tryz.prog 214 #[.slice ao m ac,.int .u64 (s:Nat)] w (xi m (val x / 2 ^ s) w):=by
 obtain ⟨i0,hi0,hz0,hz1,hz2⟩:=info_parts eO;have hml:=ha.len;subst hml;have HX:=Hi ha;clear ha;go_enter Tryz.func214,Tryz.ntmps214
 go_wp2_with (refine aB rfl (.tmp 9) (.tmp 9) 33 rfl 124 i0 (.int .u32 0) 1 Tryz.underlying33 hi0 hz0 hz1 _ _ x.length rfl rfl (by simp) (by simp) (by rw [hz2];omega) zo ?_;intro w1 hnew hE)
 have I0:ED x s w w1 x.length 0:=⟨hE,nXe _,⟨[],by have:=DB.make rfl hnew;simpa using this,by simp,Dig.nil,by simp [val]⟩,by simp [val]⟩;have HI0:=Hi I0;clear I0 hnew hE;go_wp2
 go_loopg [6,7] x.length (fun g c i wr=>∃ k:Nat,g≤x.length∧i=.int .i64 ((g:Int)-1)∧c=.int .u32 k∧k<4294967296∧ED x s w wr g k)
 case atStart=>exact ⟨0,nXe _,rfl,rfl,dZ,HI0.out⟩
 case round =>
  obtain ⟨k,hj,rfl,rfl,hk2,hI⟩:=hrel;have HI:=Hi hI;clear hI HI0;by_cases h0:gk=0
  ·subst h0;go_wp2
   go_ret
   obtain ⟨os,h1,h2,h3,h4⟩:=HI.out.db;exact ⟨os,rfl,by simpa using h1,by simpa using h2,h3,by simpa using h4,HI.out.ext⟩
  ·obtain ⟨j,rfl⟩:∃ j,gk=j+1:=⟨gk-1,zo⟩;have hlt:j<x.length:=zo;have hLw:w.heap.size<wr.heap.size:=by obtain ⟨os,h,_⟩:=HI.out.db;exact (nXb.1 h).1
   obtain ⟨b,off,d,hao,hc,hd,hdl⟩:=HX.out.at hlt;have hbw:b<w.heap.size:=nXq _ _ hc;subst hao;replace hc:=HI.out.ext.cell hc;have hcL:∃ z,wr.cell? ⟨w.heap.size,j,none⟩=some (.int .u32 z):=by obtain ⟨os,h,h2,_⟩:=HI.out.db;exact ⟨_,h.cell (by simp [h2];omega)⟩
   obtain ⟨z,hcL⟩:=hcL;have hfL:wr.frozen? ⟨w.heap.size,j,none⟩=false:=by obtain ⟨os,h,h2,_⟩:=HI.out.db;exact h.frozen _
   have Hd:=Hi hd;clear hd;go_wp2
   go_roundg j
   case measure=>omega
   case rel =>
    refine ⟨(d*2 ^ (32-s)) % 4294967296,zo,rfl,?_,Nat.mod_lt _ dZ,HI.out.next hs Hd.out hdl⟩;rw [bF,show ((d:Int)*2 ^ (32-s))=((d*2 ^ (32-s):Nat):Int) by push_cast;rfl];exact congrArg _ zo
end Go.Proofs.YtkcpmclnocmalaaGreat
namespace Go.Num
structure AX (n:Nat) (u v:List Nat) (u1 u0 u2 v1 v2:Nat):Prop where
 hu:W32 ^ n*((u1*W32+u0)*W32+u2)≤val u
 hu':val u<W32 ^ n*((u1*W32+u0)*W32+u2+1)
 hv:W32 ^ n*(v1*W32+v2)≤val v
 hv':val v<W32 ^ n*(v1*W32+v2+1)
theorem FJ{v:List Nat}(hd:Dig v){n:Nat}(hl:v.length=n+2):W32 ^ n*(v.getD (n+1) 0*W32+v.getD n 0)≤val v∧val v<W32 ^ n*(v.getD (n+1) 0*W32+v.getD n 0+1):=by
 have e1:=au (ds:=v) (k:=n+1) zo;have e2:=au (ds:=v) (k:=n) zo;rw [aw zo] at e1;have b:=bE (hd.take n);rw [nXk,Nat.min_eq_left zo] at b;have e3:W32 ^ n*(v.getD (n+1) 0*W32+v.getD n 0)=W32 ^ (n+1)*v.getD (n+1) 0+W32 ^ n*v.getD n 0:=by
  rw [Nat.mul_add,nXu];simp only [Nat.mul_assoc,nYf,Nat.mul_left_comm]
 rw [Nat.mul_add _ _ 1,e3,Nat.mul_one];omega
theorem FI{u:List Nat}(hd:Dig u){n:Nat}(hl:u.length=n+3):W32 ^ n*((u.getD (n+2) 0*W32+u.getD (n+1) 0)*W32+u.getD n 0)≤val u∧val u<W32 ^ n*((u.getD (n+2) 0*W32+u.getD (n+1) 0)*W32+u.getD n 0+1):=by
 have e0:=au (ds:=u) (k:=n+2) zo;have e1:val (u.take (n+2))=val (u.take (n+1))+W32 ^ (n+1)*u.getD (n+1) 0:=au (ds:=u) (k:=n+1) zo;have e2:=au (ds:=u) (k:=n) zo;rw [aw zo] at e0;have b:=bE (hd.take n);rw [nXk,Nat.min_eq_left zo] at b;have e3:W32 ^ n*((u.getD (n+2) 0*W32+u.getD (n+1) 0)*W32+u.getD n 0)=W32 ^ (n+2)*u.getD (n+2) 0+W32 ^ (n+1)*u.getD (n+1) 0+W32 ^ n*u.getD n 0:=by
  rw [show W32 ^ (n+2)=W32 ^ n*W32*W32 by rw [nXu,nXu],nXu];generalize W32 ^ n=P;generalize W32=Q;grind
 rw [show ∀ X,W32 ^ n*(X+1)=W32 ^ n*X+W32 ^ n from fun X=>by rw [Nat.mul_add,Nat.mul_one],e3];omega
theorem AX.of{u v:List Nat}(du:Dig u)(dv:Dig v){n:Nat}(hu:u.length=n+3)(hv:v.length=n+2):AX n u v (u.getD (n+2) 0) (u.getD (n+1) 0) (u.getD n 0) (v.getD (n+1) 0) (v.getD n 0) :=
 ⟨(FI du hu).1,(FI du hu).2,(FJ dv hv).1,(FJ dv hv).2⟩
section
variable {n:Nat} {u v:List Nat} {u1 u0 u2 v1 v2 q r:Nat}
structure jp (u v:List Nat) (u1 u0 v1 q r:Nat):Prop where
 eq:q*v1+r=u1*W32+u0
 ge:val u<(q+1)*val v
theorem jp.big(T:AX n u v u1 u0 u2 v1 v2)(g:jp u v u1 u0 v1 q r)(h:r*W32+u2<q*v2):val u<q*val v:=by
 have h1:(u1*W32+u0)*W32+u2<q*(v1*W32+v2):=by
  rw [←g.eq,Nat.mul_add,Nat.add_mul,←Nat.mul_assoc];omega
 calc val u<W32 ^ n*((u1*W32+u0)*W32+u2+1):=T.hu'
  _≤W32 ^ n*(q*(v1*W32+v2)):=nXg _ h1
  _=q*(W32 ^ n*(v1*W32+v2)):=by rw [Nat.mul_left_comm]
  _≤q*val v:=nXg _ T.hv
theorem jp.step(g:jp u v u1 u0 v1 q r)(hq:0<q)(h:val u<q*val v):jp u v u1 u0 v1 (q-1) (r+v1):=by
 obtain ⟨p,rfl⟩:∃ p,q=p+1:=⟨q-1,zo⟩;refine ⟨?_,by simpa using h⟩;have:=g.eq;rw [Nat.add_mul,Nat.one_mul] at this;simp only [Nat.add_sub_cancel];omega
theorem jp.fine(T:AX n u v u1 u0 u2 v1 v2)(g:jp u v u1 u0 v1 q r)(h:q*v2≤r*W32+u2)(hq:q<W32)(hv1:0<v1):q*val v<val u+val v:=by
 have h1:q*(v1*W32+v2)≤(u1*W32+u0)*W32+u2:=by
  rw [←g.eq,Nat.mul_add,Nat.add_mul,←Nat.mul_assoc];omega
 have h2:W32 ^ n*(q*(v1*W32+v2))≤val u:=nXf (nXg _ h1) T.hu;have h3:W32 ^ n*W32≤val v:=by
  refine nXf (nXg _ ?_) T.hv;have:=nXh W32 hv1;omega
 rcases Nat.eq_zero_or_pos q with h0|h0
 ·subst h0;have:0<W32 ^ n*W32:=Nat.mul_pos (nYn aI) aI;omega
 ·have h4:q*val v<q*(W32 ^ n*(v1*W32+v2+1)):=Nat.mul_lt_mul_of_pos_left T.hv' h0;have h5:q*(W32 ^ n*(v1*W32+v2+1))=W32 ^ n*(q*(v1*W32+v2))+W32 ^ n*q:=by
   rw [Nat.mul_left_comm,Nat.mul_add q,Nat.mul_add,Nat.mul_one]
  have h6:W32 ^ n*q<W32 ^ n*W32:=Nat.mul_lt_mul_of_pos_left hq (nYn aI);omega
theorem jp.first(T:AX n u v u1 u0 u2 v1 v2)(hv1:0<v1)(h2:u2<W32):jp u v u1 u0 v1 ((u1*W32+u0) / v1) ((u1*W32+u0) % v1):=by
 refine ⟨by rw [nYf];exact Nat.div_add_mod _ _,?_⟩;have h1:u1*W32+u0<((u1*W32+u0) / v1+1)*v1:=by rw [nYf (_+1)];exact Nat.lt_mul_div_succ _ hv1
 calc val u<W32 ^ n*((u1*W32+u0)*W32+u2+1):=T.hu'
  _≤W32 ^ n*((((u1*W32+u0) / v1+1)*v1)*W32):=by
   apply nXg;have:=nXh W32 h1;rw [nXz] at this;omega
  _≤((u1*W32+u0) / v1+1)*(W32 ^ n*(v1*W32+v2)):=by
   rw [Nat.mul_assoc,Nat.mul_left_comm];apply nXg;apply nXg;omega
  _≤_:=nXg _ T.hv
theorem Ag(T:AX n u v u1 u0 u2 v1 v2)(hlt:val u<W32*val v)(h2:v2<W32):u1≤v1:=by
 rcases Nat.lt_or_ge v1 u1 with h|h
 ·exfalso;have h1:W32 ^ n*(W32*(v1*W32+v2+1))≤val u:=by
   refine nXf (nXg _ ?_) T.hu;have h3:=nXh W32 h;have h4:W32*(v1*W32+v2+1)=(v1*W32+v2+1)*W32:=nYf _ _;rw [h4];have h5:(v1*W32+v2+1)≤u1*W32+u0:=by
    have:(v1+1)*W32=v1*W32+W32:=by rw [Nat.add_mul,Nat.one_mul]
    rw [Nat.succ_eq_add_one] at h3;omega
   have:=nXh W32 h5;omega
  rw [Nat.mul_left_comm] at h1;have h2':=Nat.mul_lt_mul_of_pos_left T.hv' aI;omega
 ·exact h
theorem kY(g:jp u v u1 u0 v1 q r)(h1:u1≤v1)(hv1:2147483648≤v1)(h0:u0<W32):q≤W32+1∧(q=W32+1→r+v1<W32)∧(W32≤q→r<W32):=by
 have e:=g.eq;have h2:=nXh W32 h1;have hw:W32=4294967296:=rfl;refine ⟨?_,?_,?_⟩
 ·rcases Nat.lt_or_ge (W32+1) q with h|h
  ·exfalso;have h3:=nXh v1 h;rw [Nat.succ_eq_add_one,Nat.add_mul,Nat.add_mul,nYf W32 v1] at h3;omega
  ·exact h
 ·intro hq;subst hq;rw [Nat.add_mul,nYf W32 v1] at e;omega
 ·intro hq;have h3:=nXh v1 hq;rw [nYf W32 v1] at h3;omega
end
theorem dP{U V q O:Nat}(hV:0<V)(h1:U<(q+1)*V)(h:O+q*V=U):q=U / V∧O=U % V:=by
 have hq:U / V=q:=by
  rw [Nat.div_eq_iff hV];rw [Nat.add_mul,Nat.one_mul] at h1;omega
 refine ⟨hq.symm,?_⟩;have:=Nat.div_add_mod U V;rw [hq,nYf] at this;omega
theorem mi{U V q O B R c:Nat}(hV:0<V)(hf:q*V<U+V)(hO:O<B)(hR:R<B)(h:O+q*V=U+B)(h2:R+B*c=O+V)(hc:c≤1):0<q∧q-1=U / V∧R=U % V:=by
 rcases Nat.eq_zero_or_pos q with h0|h0
 ·subst h0;omega
 ·obtain ⟨p,rfl⟩:∃ p,q=p+1:=⟨q-1,zo⟩;rw [Nat.add_mul,Nat.one_mul] at h hf;have hc1:c=1:=by
   rcases Nat.eq_zero_or_pos c with h3|h3
   ·subst h3;omega
   ·omega
  subst hc1;have e:R+p*V=U:=by omega
  have:=dP (q:=p) (O:=R) hV (by rw [Nat.add_mul,Nat.one_mul];omega) e;exact ⟨h0,this.1,this.2⟩
end Go.Num
namespace Go.Proofs.YtkcpmclnocmalaaGreat
open Go.RowKit Go.Front Go.Num
attribute [local go_sem] XW.cell XW.frozen
structure MS (U:Nat) (pre u post:List Nat) (re:Array Value) (v:List Nat) (q:Nat) (w wr:World) (i c b:Nat):Prop where
 mods:aL (·=U) w wr
 db:∃ os,DB wr U (pre++(os++(u.drop i++post))) re∧os.length=i∧Dig os∧val os+q*val (v.take i)=val (u.take i)+W32 ^ i*(c+b)
 c1:c<4294967296
 b1:b≤1
structure AB (U:Nat) (pre m post:List Nat) (re:Array Value) (v:List Nat) (w wr:World) (i c:Nat):Prop where
 mods:aL (·=U) w wr
 db:∃ os,DB wr U (pre++(os++(m.drop i++post))) re∧os.length=i∧Dig os∧val os+W32 ^ i*c=val (m.take i)+val (v.take i)
 c1:c≤1
def xk(U:Nat)(pre u post:List Nat)(re:Array Value)(v:List Nat)(w:World)(e:Ending)(w':World):Prop :=
 ∃ rs,e=.returned (.int .u32 ((val u / val v:Nat):Int))∧DB w' U (pre++(rs++post)) re∧rs.length=u.length∧Dig rs∧val rs=val u % val v∧aL (·=U) w w'
theorem m9{pre os u post:List Nat}{j i:Nat}(hj:pre.length=j)(hi:os.length=i)(hu:i<u.length):(pre++(os++(u.drop i++post))).getD (j+i) 0=u.getD i 0:=by
 subst hj hi;rw [nXd,List.getElem?_append_right zo,List.getElem?_append_right zo,List.getElem?_append_left (by simp;omega)];simp
theorem iD{pre os u post:List Nat}{j i d:Nat}(hj:pre.length=j)(hi:os.length=i)(hu:i<u.length):(pre++(os++(u.drop i++post))).set (j+i) d=pre++((os++[d])++(u.drop (i+1)++post)):=by
 subst hj hi;rw [List.set_append_right _ _ zo,List.set_append_right _ _ zo,show pre.length+os.length-pre.length-os.length=0 by omega,List.drop_eq_getElem_cons hu,List.cons_append,List.set_cons_zero];simp
theorem eM{pre os u post:List Nat}{j i:Nat}(hj:pre.length=j)(hi:os.length=i)(hu:i<u.length):j+i<(pre++(os++(u.drop i++post))).length:=by
 simp;omega
theorem MS.next{U:Nat}{pre u post:List Nat}{re:Array Value}{v:List Nat}{q:Nat}{w wr:World}{i c b d x r p b':Nat}(h:MS U pre u post re v q w wr i c b)(hu:i<u.length)(hv:i<v.length)
 (hd:d=v.getD i 0)(hx:x=u.getD i 0)(hp:p=q*d+c)(hpb:p / 4294967296<4294967296)(hr:r+p % 4294967296+b=x+4294967296*b')(hrl:r<4294967296)(hb:b'≤1) :
  MS U pre u post re v q w (wr.setCell ⟨U,pre.length+i,none⟩ (.int .u32 (r:Int))) (i+1) (p / 4294967296) b':=by
 obtain ⟨os,h1,h2,h3,h4⟩:=h.db;refine ⟨h.mods.trans (aL.setCell _ ⟨U,_,none⟩ _),⟨os++[r],?_,by simp [h2],h3.append (Dig.cons hrl Dig.nil),?_⟩,hpb,hb⟩
 ·have h5:=h1.set (i:=pre.length+i) (eM rfl h2 hu) r;rw [iD rfl h2 hu] at h5;exact h5
 ·rw [bp,h2,au hu,au hv,←hd,←hx,nXu];have e:c+b+r+q*d=x+4294967296*(p / 4294967296+b'):=by omega
  have e2:W32 ^ i*(c+b)+W32 ^ i*r+q*(W32 ^ i*d)=W32 ^ i*x+W32 ^ i*W32*(p / 4294967296+b'):=by
   have e3:W32 ^ i*(c+b+r+q*d)=W32 ^ i*(x+W32*(p / 4294967296+b')):=by rw [e];rfl
   generalize W32 ^ i=P at *
   generalize p / 4294967296=K at *
   generalize W32=Z at *
   grind
  rw [Nat.mul_add q];omega
theorem AB.next{U:Nat}{pre m post:List Nat}{re:Array Value}{v:List Nat}{w wr:World}{i c d x t:Nat}(h:AB U pre m post re v w wr i c)(hu:i<m.length)(hv:i<v.length)
 (hd:d=v.getD i 0)(hx:x=m.getD i 0)(hdl:d<4294967296)(hxl:x<4294967296)(ht:t=x+d+c) :
  AB U pre m post re v w (wr.setCell ⟨U,pre.length+i,none⟩ (.int .u32 ((t % 4294967296:Nat):Int))) (i+1) (t / 4294967296):=by
 obtain ⟨os,h1,h2,h3,h4⟩:=h.db;have hc:=h.c1;refine ⟨h.mods.trans (aL.setCell _ ⟨U,_,none⟩ _),⟨os++[t % 4294967296],?_,by simp [h2],h3.append (Dig.cons (Nat.mod_lt _ dZ) Dig.nil),?_⟩,zo⟩
 ·have h5:=h1.set (i:=pre.length+i) (eM rfl h2 hu) (t % 4294967296);rw [iD rfl h2 hu] at h5;exact h5
 ·rw [bp,h2,au hu,au hv,←hd,←hx,nXu];exact mD ht h4
theorem lN{d e k:Nat}(hd:d<4294967296)(he:e<4294967296)(hk:k≤1):∃ r c:Nat,r+e+k=d+4294967296*c∧r<4294967296∧c≤1 ∧
  IntKind.u64.wrap (IntKind.u64.wrap (d-e)-k) / 9223372036854775808=c∧IntKind.u64.wrap (IntKind.u64.wrap (d-e)-k) % 4294967296=r:=by
 simp only [bF];by_cases h:e+k≤d
 ·exact ⟨d-e-k,0,zo,zo,zo,zo,zo⟩
 ·exact ⟨d+4294967296-e-k,1,zo,zo,zo,zo,zo⟩
theorem Ay{P Z vo r q V U0 x c b b':Nat}(h4:vo+q*V=U0+P*(c+b))(e6:P*(r+c+b)=P*(x+Z*b')):vo+P*r+q*V=U0+P*x+P*Z*b':=by
 rw [Nat.mul_add,Nat.mul_add,Nat.mul_add,←Nat.mul_assoc P Z] at e6;rw [Nat.mul_add] at h4;omega
theorem kH{a b:Nat}(ha:a<4294967296)(hb:b<4294967296):bits .or .u64 ((a:Int)*4294967296) (b:Int)=((a*4294967296+b:Nat):Int):=by
 rw [show (a:Int)*4294967296=((a*4294967296:Nat):Int) by omega,u64_or_nat _ _ zo zo,nYf,show (4294967296:Nat)=2 ^ 32 from rfl,l9 zo]
theorem qP(a b v:Nat):((a:Int)*4294967296+b) / v=(((a*4294967296+b) / v:Nat):Int):=by
 rw [show (a:Int)*4294967296+b=((a*4294967296+b:Nat):Int) by omega];exact (Int.natCast_ediv _ _).symm
theorem qN(a b v:Nat):((a:Int)*4294967296+b) % v=(((a*4294967296+b) % v:Nat):Int):=by
 rw [show (a:Int)*4294967296+b=((a*4294967296+b:Nat):Int) by omega];exact (Int.natCast_emod _ _).symm
theorem gZ{q v2 r u2:Nat}(hq:q≤4294967296)(hv2:v2<4294967296)(hr:4294967296≤r):q*v2≤r*W32+u2:=by
 have h1:=nXy hq (show v2≤4294967295 by omega);have h2:=nXh W32 hr;unfold W32 at *
 omega
theorem si{n o c y M V:Nat}(h:o+W32 ^ (n+2)*c=M+V):o+W32 ^ (n+2)*((y+c) % 4294967296)+W32 ^ (n+3)*((y+c) / 4294967296)=M+W32 ^ (n+2)*y+V:=by
 have e:W32 ^ (n+2)*(y+c)=W32 ^ (n+2)*((y+c) % 4294967296)+W32 ^ (n+3)*((y+c) / 4294967296):=by
  conv=>lhs;rw [←Nat.mod_add_div (y+c) 4294967296]
  rw [Nat.mul_add,nXu W32 (n+2),Nat.mul_assoc];rfl
 rw [Nat.mul_add] at e;omega
theorem wu(U j ucap:Nat)(pre u post:List Nat)(re:Array Value)(vo:Option Addr)(vc n:Nat)(v:List Nat)(w:World)
   (hU:DB w U (pre++(u++post)) re)(hj:pre.length=j)(hul:u.length=n+3)(hv:U32 w vo (n+2) vc v)(hvU:∀ p,vo=some p→p.block≠U)(hlt:val u<W32*val v)
   (hv1:2147483648≤v.getD (n+1) 0)(du:Dig u)(hn:n≤4294967296) :
    Calls Tryz.prog 213 #[.slice (some ⟨U,j,none⟩) (n+3:Nat) ucap,.slice vo (n+2:Nat) vc] w (xk U pre u post re v w):=by
  obtain ⟨vb,voff,v1,hvo,hcv1,hev1,hvl1⟩:=hv.at (k:=n+1) zo;obtain ⟨vb',voff',v2,hvo',hcv2,hev2,hvl2⟩:=hv.at (k:=n) zo;subst hvo;obtain ⟨rfl,rfl⟩:vb=vb'∧voff=voff':=by cases hvo';exact ⟨rfl,rfl⟩
  clear hvo';have hvbU:vb≠U:=hvU _ rfl;have hcell:∀ i,i<n+3→w.cell? ⟨U,j+i,none⟩=some (.int .u32 ((u.getD i 0:Nat):Int)):=fun i hi=>by
    have h1:=hU.cell (i:=j+i) (by simp;omega);rw [h1,←hj,nXd,List.getElem?_append_right zo,List.getElem?_append_left zo];simp
  obtain ⟨u1,hu1⟩:∃ x,x=u.getD (n+2) 0:=⟨_,rfl⟩;obtain ⟨u0,hu0⟩:∃ x,x=u.getD (n+1) 0:=⟨_,rfl⟩;obtain ⟨u2,hu2⟩:∃ x,x=u.getD n 0:=⟨_,rfl⟩;have hcu1:=hcell (n+2) zo;have hcu0:=hcell (n+1) zo;have hcu2:=hcell n zo;rw [←hu1] at hcu1;rw [←hu0] at hcu0;rw [←hu2] at hcu2;have hul1:u1<4294967296:=by rw [hu1];exact du.at _
  have hul0:u0<4294967296:=by rw [hu0];exact du.at _
  have hul2:u2<4294967296:=by rw [hu2];exact du.at _
  rw [←hev1] at hv1;have T:=AX.of du hv.dig hul hv.len;rw [←hu1,←hu0,←hu2,←hev1,←hev2] at T;have hle:=Ag T hlt hvl2;have G0:=jp.first T zo hul2;have HT:=Hi T;have HU:=Hi hU;have HV:=Hi hv;have HG0:=Hi G0;have HLT:=Hi hlt;have DU:=Hi du;have HJ:=Hi hj;have HUL:=Hi hul;clear hvU hcell hu1 hu0 hu2 hev1 hev2 T hU hv hlt du hj hul G0;have hv0:((v1:Int) == 0)=false:=by simp;omega
  go_enter Tryz.func213,Tryz.ntmps213;go_wp2
  go_quiet (fail)
  rw [kH hul1 hul0];obtain ⟨t,ht⟩:∃ t,t=u1*4294967296+u0:=⟨_,rfl⟩;rw [←ht];have htb:t<18446744073709551616:=zo;go_wp2
  go_quiet (fail)
  go_upto_block 0 with fail
  go_cut [7] (fun q wr=>Ext w wr∧∃ qq:Nat,q=.int .u64 qq∧qq<4294967296∧val u<(qq+1)*val v∧qq*val v<val u+val v)
  case first =>
    go_wp2_with fail
    go_loopg [7,8] (t / v1) (fun g q r wr=>∃ rr:Nat,q=.int .u64 (g:Nat)∧r=.int .u64 (rr:Nat)∧rr<4294967296∧jp u v u1 u0 v1 g rr∧Ext w wr)
    case atStart =>
      subst ht;have:(u1*4294967296+u0) % v1<v1:=Nat.mod_lt _ zo;exact ⟨(u1*4294967296+u0) % v1,congrArg _ (qP ..),congrArg _ (qN ..),zo,HG0.out,(Ext.drewN _ _).trans (Ext.drewN _ _)⟩
    case round =>
      obtain ⟨rr,rfl,rfl,hrr,hG,hE⟩:=hrel;obtain ⟨hb1,hb2,hb3⟩:=kY hG hle hv1 hul0;unfold W32 at hb1 hb2 hb3;have hcv1:=hE.cell hcv1;have hcv2:=hE.cell hcv2;have hcu2:=hE.cell hcu2;have HG:=Hi hG;have HE:=Hi hE;clear hG hE;by_cases hgW:4294967296≤gk
      · have hgd:decide ((4294967296:Int)≤gk)=true:=by simp;omega
        have hstep:=HG.out.step zo (nXn HLT.out (nXh _ hgW));have HSt:=Hi hstep;clear hstep;have hgt:gk≤4294967297:=hb1;by_cases hrW:4294967296≤rr+v1
        · have hrd:decide ((4294967296:Int)≤rr+v1)=true:=by simp;omega
          go_wp2
          go_quiet (fail)
          go_wp2
          go_meet
          case rel =>
            have hg1:=HSt.out.ge;exact ⟨HE.out.trans (Ext.drewN _ _),gk-1,congrArg _ zo,zo,hg1,HSt.out.fine HT.out (gZ zo hvl2 hrW) (by unfold W32;omega) zo⟩
        · have hrd:decide ((4294967296:Int)≤rr+v1)=false:=by simp;omega
          go_wp2
          go_quiet (fail)
          go_wp2
          go_roundg (gk-1)
          case measure=>omega
          case rel=>exact ⟨rr+v1,congrArg _ zo,rfl,zo,HSt.out,HE.out.trans (Ext.drewN _ _)⟩
      · have hgd:decide ((4294967296:Int)≤gk)=false:=by simp;omega
        have hbm:=fy (show gk<4294967296 by omega) hvl2;have hgv:(gk:Int)*v2≤18446744065119617025:=by rw [←Int.natCast_mul];exact Int.ofNat_le.2 hbm
        have hgv0:0≤(gk:Int)*v2:=Int.mul_nonneg zo zo;have hor:=kH hrr hul2;by_cases hcmp:rr*4294967296+u2<gk*v2
        · have hcd:decide (bits BinOp.or IntKind.u64 ((rr:Int)*4294967296) (u2:Int)<(gk:Int)*v2)=true:=by
            rw [hor,←Int.natCast_mul];simp only [decide_eq_true_eq];exact Int.ofNat_lt.2 hcmp
          have hg0 : 0 < gk := by rcases Nat.eq_zero_or_pos gk with h | h
                                  · subst h;simp at hcmp
                                  · exact h
          have hstep:=HG.out.step hg0 (HG.out.big HT.out hcmp);have HSt:=Hi hstep;clear hstep hor;by_cases hrW:4294967296≤rr+v1
          · have hrd:decide ((4294967296:Int)≤rr+v1)=true:=by simp;omega
            go_wp2
            go_quiet (fail)
            go_wp2
            go_meet
            case rel =>
              have hg1:=HSt.out.ge;exact ⟨HE.out.trans (Ext.drewN _ _),gk-1,congrArg _ zo,zo,hg1,HSt.out.fine HT.out (gZ zo hvl2 hrW) (by unfold W32;omega) zo⟩
          · have hrd:decide ((4294967296:Int)≤rr+v1)=false:=by simp;omega
            go_wp2
            go_quiet (fail)
            go_wp2
            go_roundg (gk-1)
            case measure=>omega
            case rel=>exact ⟨rr+v1,congrArg _ zo,rfl,zo,HSt.out,HE.out.trans (Ext.drewN _ _)⟩
        · have hcd:decide (bits BinOp.or IntKind.u64 ((rr:Int)*4294967296) (u2:Int)<(gk:Int)*v2)=false:=by
            rw [hor,←Int.natCast_mul];simp only [decide_eq_false_iff_not];intro h;exact hcmp (Int.ofNat_lt.1 h)
          have hcm:=Hi hcmp;clear hor hcmp;go_wp2
          go_quiet (fail)
          go_wp2
          go_meet
          case rel=>exact ⟨HE.out.trans (Ext.drewN _ _),gk,rfl,zo,HG.out.ge,HG.out.fine HT.out (by have:=hcm.out;unfold W32;omega) (by unfold W32;omega) zo⟩
  case rest =>
    obtain ⟨hE,q,rfl,hq,hq1,hq2⟩:=hcut;have HQ1:=Hi hq1;have HQ2:=Hi hq2;have hj:=HJ.out;subst hj;have S0:MS U pre u post re v q w wc 0 0 0:=⟨aL.of_ext hE,⟨[],by simpa using HU.out.ext hE,rfl,Dig.nil,by simp [val]⟩,dZ,dZ⟩;have HS0:=Hi S0;clear hq1 hq2 hE S0 HG0 HU;go_wp2
    go_loopg [9,10,86] (n+2) (fun g c b k wr=>∃ i cc bb:Nat,i+g=n+2∧k=.int .i64 (i:Nat)∧c=.int .u64 (cc:Nat)∧b=.int .u64 (bb:Nat)∧MS U pre u post re v q w wr i cc bb)
    case atStart=>exact ⟨0,0,0,zo,rfl,rfl,rfl,HS0.out⟩
    case round =>
      obtain ⟨i,cc,bb,hi,rfl,rfl,rfl,hS⟩:=hrel;have hcc:=hS.c1;have hbb:=hS.b1;have HS:=Hi hS;clear hS HS0;have hcU:wr.cell? ⟨U,pre.length+i,none⟩=some (.int .u32 ((u.getD i 0:Nat):Int)):=by
        obtain ⟨os,h1,h2,_⟩:=HS.out.db;rw [h1.cell (eM rfl h2 (by rw [HUL.out];omega)),m9 rfl h2 (by rw [HUL.out];omega)]
      have hfU:wr.frozen? ⟨U,pre.length+i,none⟩=false:=by obtain ⟨os,h1,h2,_⟩:=HS.out.db;exact h1.frozen _
      obtain ⟨x,hx⟩:∃ x,x=u.getD i 0:=⟨_,rfl⟩;have hxl:x<4294967296:=by rw [hx];exact DU.out.at _
      rw [←hx] at hcU;have HX:=Hi hx;clear hx;by_cases hlt:i<n+2
      · obtain ⟨g1,rfl⟩:∃ g1,gk=g1+1:=⟨gk-1,zo⟩
        obtain ⟨vb2,voff2,d,hvo2,hcv,hd,hdl⟩:=HV.out.at hlt;obtain ⟨rfl,rfl⟩:vb=vb2∧voff=voff2:=by cases hvo2;exact ⟨rfl,rfl⟩
        clear hvo2;replace hcv:=HS.out.mods.cell (p:=⟨vb,voff+i,none⟩) hvbU hcv;have Hd:=Hi hd;clear hd;have hbm:=fy hq hdl;have hgv:(q:Int)*d≤18446744065119617025:=by rw [←Int.natCast_mul];exact Int.ofNat_le.2 hbm
        have hgv0:0≤(q:Int)*d:=Int.mul_nonneg zo zo;go_wp2
        go_roundg g1
        case measure=>omega
        case rel =>
          have e0:((q:Int)*d+cc)=((q*d+cc:Nat):Int):=by rw [Int.natCast_add,Int.natCast_mul]
          obtain ⟨p,hp⟩:∃ p,p=q*d+cc:=⟨_,rfl⟩;rw [e0,←hp];obtain ⟨r,b',e1,e2,e3,e4,e5⟩:=lN hxl (Nat.mod_lt p (show 0<4294967296 by decide)) hbb;rw [show ((p:Int) % 4294967296)=((p % 4294967296:Nat):Int) by omega,e4,e5];exact ⟨i+1,p / 4294967296,b',zo,by go_num,congrArg _ zo,rfl,HS.out.next (by rw [HUL.out];omega) (by rw [HV.out.len];omega) Hd.out HX.out hp zo e1 e2 e3⟩
      · obtain rfl:i=n+2:=by omega
        obtain ⟨r,b',e1,e2,e3,e4,e5⟩:=lN hxl hcc hbb;obtain ⟨os,h1,h2,h3,h4⟩:=HS.out.db;have hv0':0<val v:=by
          rcases Nat.eq_zero_or_pos (val v) with h|h
          · have:=HLT.out;rw [h] at this;omega
          · exact h
        have hD:=h1.set (i:=pre.length+(n+2)) (eM rfl h2 (by rw [HUL.out];omega)) r;rw [iD rfl h2 (by rw [HUL.out];omega),List.drop_of_length_le (by rw [HUL.out];omega),List.nil_append] at hD;have hML:(os++[r]).length=n+3:=by simp [h2]
        have hMD:Dig (os++[r]):=h3.append (Dig.cons e2 Dig.nil);have hM:val (os++[r])+q*val v=val u+W32 ^ (n+3)*b':=by
          have hu:=au (ds:=u) (k:=n+2) (by rw [HUL.out];omega);rw [aw (by rw [HUL.out];omega),←HX.out] at hu;rw [aw (by rw [HV.out.len];omega)] at h4;rw [bp,h2,show n+3=n+2+1 from rfl,nXu,hu];have e6:W32 ^ (n+2)*(r+cc+bb)=W32 ^ (n+2)*(x+W32*b'):=by rw [e1];rfl
          exact Ay h4 e6
        obtain ⟨m,hm⟩:∃ m,m=os++[r]:=⟨_,rfl⟩;have hmr:m.getD (n+2) 0=r:=by rw [hm,←h2];simp
        rw [←hm] at hM hML hMD hD;have HM:=Hi hM;have HML:=Hi hML;have HMD:=Hi hMD;have HD:=Hi hD;have HMR:=Hi hmr;have E1:=Hi e1;have E4:=Hi e4;have E5:=Hi e5;clear hM hML hMD hD hm h1 h2 h3 h4 hmr e1 e4 e5;by_cases hb0:b'=0
        · subst hb0
          have hdec:(IntKind.u64.wrap (IntKind.u64.wrap ((x:Int)-cc)-bb) / 9223372036854775808 == 0)=true:=by rw [E4.out];rfl
          go_wp2
          go_ret
          rw [E5.out];have hfin:=dP hv0' HQ1.out (HM.out.trans (by rw [Nat.mul_zero,Nat.add_zero]));exact ⟨m,by rw [←hfin.1];rfl,HD.out,by rw [HML.out,HUL.out],HMD.out,hfin.2,HS.out.mods.trans (aL.setCell _ ⟨U,_,none⟩ _)⟩
        · obtain rfl:b'=1:=by omega
          have hdec:(IntKind.u64.wrap (IntKind.u64.wrap ((x:Int)-cc)-bb) / 9223372036854775808 == 0)=false:=by rw [E4.out];rfl
          have HMods:=Hi (HS.out.mods.trans (aL.setCell _ ⟨U,pre.length+(n+2),none⟩ (.int .u32 (r:Int))));obtain ⟨w3,hw3⟩:∃ w3,w3=wr.setCell ⟨U,pre.length+(n+2),none⟩ (.int .u32 (r:Int)):=⟨_,rfl⟩;rw [←hw3] at HMods HD;have HW3:=Hi hw3;clear hw3;go_wp2;rw [E5.out,←HW3.out];have A0:AB U pre m post re v w w3 0 0:=⟨HMods.out,⟨[],by simpa using HD.out,rfl,Dig.nil,by simp [val]⟩,dZ⟩;have HA0:=Hi A0;clear HMods HW3 HD HS;clear A0 hcU hfU hcu1 hcu0 hcu2 hcv1 hcv2 hdec E1 E4 E5;go_wp2
          go_loopg [9,139] (n+2) (fun g c k wr=>∃ i cc:Nat,i+g=n+2∧k=.int .i64 (i:Nat)∧c=.int .u64 (cc:Nat)∧AB U pre m post re v w wr i cc)
          case atStart=>exact ⟨0,0,zo,rfl,rfl,HA0.out⟩
          case round =>
            obtain ⟨i,ca,hi,rfl,rfl,hA⟩:=hrel;clear HA0;have hca:=hA.c1;have HA:=Hi hA;clear hA;have hcU:wr.cell? ⟨U,pre.length+i,none⟩=some (.int .u32 ((m.getD i 0:Nat):Int)):=by
              obtain ⟨os,h1,h2,_⟩:=HA.out.db;rw [h1.cell (eM rfl h2 (by rw [HML.out];omega)),m9 rfl h2 (by rw [HML.out];omega)]
            have hfU:wr.frozen? ⟨U,pre.length+i,none⟩=false:=by obtain ⟨os,h1,h2,_⟩:=HA.out.db;exact h1.frozen _
            obtain ⟨y,hy⟩:∃ y,y=m.getD i 0:=⟨_,rfl⟩;have hyl:y<4294967296:=by rw [hy];exact HMD.out.at _
            rw [←hy] at hcU;have HY:=Hi hy;clear hy;by_cases hlt:i<n+2
            · obtain ⟨g1,rfl⟩:∃ g1,gk=g1+1:=⟨gk-1,zo⟩
              obtain ⟨vb2,voff2,d,hvo2,hcv,hd,hdl⟩:=HV.out.at hlt;obtain ⟨rfl,rfl⟩:vb=vb2∧voff=voff2:=by cases hvo2;exact ⟨rfl,rfl⟩
              clear hvo2;replace hcv:=HA.out.mods.cell (p:=⟨vb,voff+i,none⟩) hvbU hcv;have Hd:=Hi hd;clear hd;go_wp2
              go_roundg g1
              case measure=>omega
              case rel =>
                rw [show ((y:Int)+d+ca) % 4294967296=(((y+d+ca) % 4294967296:Nat):Int) by omega];exact ⟨i+1,(y+d+ca) / 4294967296,zo,by go_num,congrArg _ zo,HA.out.next (by rw [HML.out];omega) (by rw [HV.out.len];omega) Hd.out HY.out hdl hyl rfl⟩
            · obtain rfl:i=n+2:=by omega
              obtain ⟨os,h1,h2,h3,h4⟩:=HA.out.db;have hyr:y=r:=by rw [HY.out,HMR.out]
              have hDD:=h1.set (i:=pre.length+(n+2)) (eM rfl h2 (by rw [HML.out];omega)) ((y+ca) % 4294967296);rw [iD rfl h2 (by rw [HML.out];omega),List.drop_of_length_le (by rw [HML.out];omega),List.nil_append] at hDD;have hR:val (os++[(y+ca) % 4294967296])+W32 ^ (n+3)*((y+ca) / 4294967296)=val m+val v:=by
                have hmm:=au (ds:=m) (k:=n+2) (by rw [HML.out];omega);rw [aw (by rw [HML.out];omega),←HY.out] at hmm;rw [aw (ds:=v) (by rw [HV.out.len];omega)] at h4;rw [bp,h2,hmm];exact si h4
              have hRD:Dig (os++[(y+ca) % 4294967296]):=h3.append (Dig.cons (Nat.mod_lt _ dZ) Dig.nil);have hRL:(os++[(y+ca) % 4294967296]).length=n+3:=by simp [h2]
              have hfin:=mi (B:=W32 ^ (n+3)) hv0' HQ2.out (by have:=bE HMD.out;rwa [HML.out] at this) (by have:=bE hRD;rwa [hRL] at this) (by have:=HM.out;rwa [Nat.mul_one] at this) hR zo;obtain ⟨rs,hrs⟩:∃ rs,rs=os++[(y+ca) % 4294967296]:=⟨_,rfl⟩;rw [←hrs] at hDD hRD hRL hfin;have HDD:=Hi hDD;have HRD:=Hi hRD;have HRL:=Hi hRL;have hq0:1≤q:=hfin.1;have HF:=Hi hfin.2;clear hDD hRD hRL hfin hR h1 h2 h3 h4 hrs hyr;go_wp2
              go_ret
              rw [show ((y:Int)+ca) % 4294967296=(((y+ca) % 4294967296:Nat):Int) by omega];exact ⟨rs,aZ (by rw [←HF.out.1];omega),HDD.out,by rw [HRL.out,HUL.out],HRD.out,HF.out.2,HA.out.mods.trans (aL.setCell _ ⟨U,_,none⟩ _)⟩
end Go.Proofs.YtkcpmclnocmalaaGreat
