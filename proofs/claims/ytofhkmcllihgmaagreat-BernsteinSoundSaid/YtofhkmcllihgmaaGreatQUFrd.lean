/- A region that draws its order and holds one operation that changes old blocks: as in XFront, with a relation that lets these blocks change. -/
import Derived.Test.YtofhkmcllihgmaaGreatQUM7
import Derived.WalkKit
import Derived.StillTail
import Derived.BigQuiet
import Derived.Below
set_option linter.unusedVariables false
namespace Go.Frd
open Go Go.RowKit Go.Front Go.Num Go.Proofs.YtofhkmcllihgmaaGreat
/-- Of the old blocks only those of D may have changed; digits stay. -/
def Exd(D:Nat→Prop)(w w':World):Prop:=aJ D w w'∧dB w w'
theorem Exd.of{D:Nat→Prop}{w w':World}(h:Ext w w'):Exd D w w':=⟨aJ.of_ext h,bD h⟩
theorem Exd.refl(D:Nat→Prop)(w:World):Exd D w w:=Exd.of (Ext.refl w)
theorem Exd.trans{D:Nat→Prop}{a b c:World}(h:Exd D a b)(k:Exd D b c):Exd D a c:=⟨h.1.trans k.1,dB.trans h.2 k.2⟩
theorem Exd.size{D:Nat→Prop}{w w':World}(h:Exd D w w'):w.heap.size≤w'.heap.size:=h.1.size
theorem Exd.block{D:Nat→Prop}{w w':World}(h:Exd D w w'){b:Nat}{o:Obj}(hd:¬ D b)(hb:w.heap[b]?=some o):w'.heap[b]?=some o:=h.1.blk hd hb
structure XWd (D:Nat→Prop) (w0:World) where
  w:World
  h:Exd D w0 w
instance (D:Nat→Prop) (w0:World):Nonempty (XWd D w0):=⟨⟨w0,Exd.refl D _⟩⟩
theorem tO{w w':World}{b o:Nat}(h:w'.heap[b]?=w.heap[b]?):w'.cell? ⟨b,o,none⟩=w.cell? ⟨b,o,none⟩:=by unfold World.cell?;rw [h]
theorem oC{w w':World}{b o:Nat}(h:w'.heap[b]?=w.heap[b]?):w'.frozen? ⟨b,o,none⟩=w.frozen? ⟨b,o,none⟩:=by unfold World.frozen?;rw [h]
theorem XWd.cell{D:Nat→Prop}{w0:World}(x:XWd D w0){b o:Nat}(hb:b<w0.heap.size)(hd:¬ D b):x.w.cell? ⟨b,o,none⟩=w0.cell? ⟨b,o,none⟩:=tO (x.h.1.block b hb hd)
theorem XWd.frozen{D:Nat→Prop}{w0:World}(x:XWd D w0){b o:Nat}(hb:b<w0.heap.size)(hd:¬ D b):x.w.frozen? ⟨b,o,none⟩=w0.frozen? ⟨b,o,none⟩:=oC (x.h.1.block b hb hd)
abbrev CL(D:Nat→Prop)(w0:World):World→Prop:=fun w=>∃ x:XWd D w0,w=x.w
theorem CL.of{D:Nat→Prop}{w0 w:World}(h:Exd D w0 w):CL D w0 w:=⟨⟨w,h⟩,rfl⟩
def Sinced(D:Nat→Prop)(φ:World→Prop)(w:World):Prop:=∃ w1,Exd D w1 w∧φ w1
theorem Sinced.mono{D:Nat→Prop}{φ:World→Prop}{w w':World}(h:Sinced D φ w)(he:Exd D w w'):Sinced D φ w':=let ⟨w1,h1,h2⟩:=h;⟨w1,h1.trans he,h2⟩
inductive iB where
  | quiet
  | spec (α:Type) (x0:α) (mk:α→Value) (φ:α→World→Prop)
  | alloc (T:TypeId) (cs:Array Value)
  | mutk (α:Type) (x0:α) (mk:α→Value) (φ:α→World→Prop)
/-- The number under which the state of the changed blocks is kept. -/
def DK:Nat:=99
def iB.isMut:iB→Bool
  | .mutk ..=>true
  | _=>false
def key(kind:Nat→iB)(i:Nat):Nat:=if (kind i).isMut then DK else i
theorem er{kind:Nat→iB}{i:Nat}(h:(kind i).isMut=false):key kind i=i:=by unfold key;rw [h];rfl
theorem iO{kind:Nat→iB}{i:Nat}(h:(kind i).isMut=true):key kind i=DK:=by unfold key;rw [h];rfl
section
variable {P:Program} {ops:Array Oper} {md:Region.Mode} {w0:World} {kind:Nat→iB} {D:Nat→Prop} {dep:Nat→List Nat}

def jF(P:Program)(D:Nat→Prop){α:Type}(w:World)(mk:α→Value)(φ:α→World→Prop):Result Next→Prop
  | .ok (.value u) w'=>Exd D w w'∧∃ x,u=mk x∧φ x w'
  | .ok .skip w'=>Exd D w w'∧∃ x,mk x=undef∧φ x w'
  | .ok (.enter f args) w'=>Exd D w w'∧Calls P f args w' (fun e w''=>∃ x,e=.returned (mk x)∧Exd D w' w''∧φ x w'')
  | _=>False
def specAtd(P:Program)(D:Nat→Prop)(o:Oper)(a:Act){α:Type}(w:World)(mk:α→Value)(φ:α→World→Prop):Prop:=jF P D w mk φ ((execOp a.eval o).run P w)
/-- What must be shown of operation i (o), wanted, in the frame a, with the facts Γ. -/
def Obl(P:Program)(w0:World)(D:Nat→Prop)(kind:Nat→iB)(dep:Nat→List Nat)(i:Nat)(o:Oper)(a:Act)(Γ:Fac):Prop :=
  match kind i with
  | .quiet=>∀ w,Exd D w0 w→(execOp a.eval o).run P w=.ok (.value (Front.valOf P o a w0)) w
  | .spec _ _ mk φ=>∀ w,Exd D w0 w→(∀ k ∈ dep i,Γ k w)→cJ P o a w mk φ
  | .mutk _ _ mk φ=>∀ w,Exd D w0 w→Γ DK w→(∀ k ∈ dep i,Γ k w)→specAtd P D o a w mk φ
  | .alloc T cs=>∀ w,Exd D w0 w→(execOp a.eval o).run P w=.ok (.value (ptr w.heap.size)) (w.alloc (.cells cs T))
def Can(P:Program)(w0:World)(D:Nat→Prop)(kind:Nat→iB)(i:Nat)(o:Oper)(a:Act)(B:Own)(v:Value)(p:Option (World→Prop))(c:Option Nat):Prop :=
  match kind i with
  | .quiet=>v=Front.valOf P o a w0∧p=none∧c=none
  | .spec _ _ mk φ=>∃ x,v=mk x∧p=some (Sinced D (φ x))∧c=none
  | .mutk _ _ mk φ=>∃ x,v=mk x∧p=some (ay (φ x))∧c=none
  | .alloc T cs=>∃ b,¬ B b∧w0.heap.size≤b∧v=ptr b∧p=some (blk b cs T)∧c=some b
abbrev i4:=Act→Fac→Own→Prop
def fOp(P:Program)(ops:Array Oper)(w0:World)(D:Nat→Prop)(kind:Nat→iB)(dep:Nat→List Nat)(i:Nat)(K:i4)(a:Act)(Γ:Fac)(B:Own):Prop :=
  match ops[i]? with
  | none=>K a Γ B
  | some o=>if Region.wanted o (yielded ops a.tmps) then
      Obl P w0 D kind dep i o a Γ∧∀ v p c,Can P w0 D kind i o a B v p c→K (a.put o.dst v) (nJ Γ (key kind i) p) (rZ B c)
    else K (a.put o.dst undef) Γ B

theorem l0{i:Nat}{K K':i4}{a:Act}{Γ:Fac}{B:Own}(h:∀ a Γ B,K a Γ B→K' a Γ B)(hh:fOp P ops w0 D kind dep i K a Γ B):fOp P ops w0 D kind dep i K' a Γ B:=by
  unfold fOp at *
  cases ho:ops[i]? with
  | none=>simp only [ho] at *;exact h _ _ _ hh
  | some o =>
    simp only [ho] at *
    by_cases hw:Region.wanted o (yielded ops a.tmps)=true
    · rw [if_pos hw] at hh ⊢;exact ⟨hh.1,fun v p c hc=>h _ _ _ (hh.2 v p c hc)⟩
    · rw [if_neg hw] at hh ⊢;exact h _ _ _ hh

theorem iA{B:Own}(hB:oZ B)(i:Nat)(o:Oper)(a:Act):∃ v p c,Can P w0 D kind i o a B v p c:=by
  unfold Can;cases kind i with
  | quiet=>exact ⟨_,_,_,rfl,rfl,rfl⟩
  | spec α x0 mk φ=>exact ⟨_,_,_,x0,rfl,rfl,rfl⟩
  | mutk α x0 mk φ=>exact ⟨_,_,_,x0,rfl,rfl,rfl⟩
  | alloc T cs =>
    obtain ⟨N,hN⟩:=hB;exact ⟨_,_,_,N+w0.heap.size,fun h=>by have:=hN _ h;omega,by omega,rfl,rfl,rfl⟩

theorem cU{i:Nat}{o:Oper}{a a':Act}{Γ Γ':Fac}(he:execOp a'.eval o=execOp a.eval o)(hi:(kind i).isMut=true→Γ' DK=Γ DK)(hΓ:∀ k ∈ dep i,Γ' k=Γ k)
   (h:Obl P w0 D kind dep i o a Γ):Obl P w0 D kind dep i o a' Γ':=by
  unfold Obl cJ specAtd Front.valOf at *
  rw [he];cases hk:kind i with
  | quiet=>simp only [hk] at *;exact h
  | spec α x0 mk φ=>simp only [hk] at *;exact fun w hw hd=>h w hw (fun k hk'=>by rw [←hΓ k hk'];exact hd k hk')
  | mutk α x0 mk φ =>
    have hm:(kind i).isMut=true:=by rw [hk];rfl
    have hi':=hi hm;simp only [hk] at *;exact fun w hw hg hd=>h w hw (by rw [←hi'];exact hg) (fun k hk'=>by rw [←hΓ k hk'];exact hd k hk')
  | alloc T cs=>simp only [hk] at *;exact h

theorem cY{i:Nat}{o:Oper}{a a':Act}{B B':Own}{v:Value}{p:Option (World→Prop)}{c:Option Nat}(he:execOp a'.eval o=execOp a.eval o)
   (hB:∀ b,c=some b→¬ B b→¬ B' b)(h:Can P w0 D kind i o a B v p c):Can P w0 D kind i o a' B' v p c:=by
  unfold Can Front.valOf at *
  rw [he];cases hk:kind i with
  | quiet=>simp only [hk] at *;exact h
  | spec α x0 mk φ=>simp only [hk] at *;exact h
  | mutk α x0 mk φ=>simp only [hk] at *;exact h
  | alloc T cs=>simp only [hk] at *;obtain ⟨b,h1,h2,h3,h4,h5⟩:=h;exact ⟨b,hB b h5 h1,h2,h3,h4,h5⟩
theorem ku{i:Nat}{o:Oper}{a:Act}{B:Own}{v:Value}{p:Option (World→Prop)}{c:Option Nat}(h:Can P w0 D kind i o a B v p c):∀ b,c=some b→¬ B b:=by
  unfold Can at h;cases hk:kind i with
  | quiet=>simp only [hk] at h;obtain ⟨-,-,rfl⟩:=h;intro b hb;cases hb
  | spec α x0 mk φ=>simp only [hk] at h;obtain ⟨x,-,-,rfl⟩:=h;intro b hb;cases hb
  | mutk α x0 mk φ=>simp only [hk] at h;obtain ⟨x,-,-,rfl⟩:=h;intro b hb;cases hb
  | alloc T cs=>simp only [hk] at h;obtain ⟨b,h1,h2,h3,h4,rfl⟩:=h;intro d hd;cases hd;exact h1

theorem ki{i:Nat}{K K':i4}{a:Act}{Γ:Fac}{B:Own}(hB:oZ B)(h:∀ a Γ B,oZ B→K a Γ B→K' a Γ B)(hh:fOp P ops w0 D kind dep i K a Γ B):fOp P ops w0 D kind dep i K' a Γ B:=by
  unfold fOp at *
  cases ho:ops[i]? with
  | none=>simp only [ho] at *;exact h _ _ _ hB hh
  | some o =>
    simp only [ho] at *
    by_cases hw:Region.wanted o (yielded ops a.tmps)=true
    · rw [if_pos hw] at hh ⊢;exact ⟨hh.1,fun v p c hc=>h _ _ _ (hB.ins c) (hh.2 v p c hc)⟩
    · rw [if_neg hw] at hh ⊢;exact h _ _ _ hB hh

/-- Two operations that are apart and do not wait for each other may change places. -/
theorem lZ{i j:Nat}{oi oj:Oper}(hi:ops[i]?=some oi)(hj:ops[j]?=some oj)(hij:i≠j)(hmm:(kind i).isMut=true→(kind j).isMut=false)(hiD:i<DK)(hjD:j<DK)(hdiD:∀ k ∈ dep i,k<DK)(hdjD:∀ k ∈ dep j,k<DK)(hap:oi.apart ops oj=true)
   (hsi:∀ cs b,oi.op≠.select cs b)(hsj:∀ cs b,oj.op≠.select cs b)(hdi:j ∉ dep i)(hdj:i ∉ dep j){K:i4}{a:Act}{Γ:Fac}{B:Own}(hB:oZ B)
   (h:fOp P ops w0 D kind dep i (fun a Γ B=>fOp P ops w0 D kind dep j K a Γ B) a Γ B):fOp P ops w0 D kind dep j (fun a Γ B=>fOp P ops w0 D kind dep i K a Γ B) a Γ B:=by
  obtain ⟨h1,h2,h3⟩:=Oper.apart_spec hap;have ej:∀ (a:Act) v,execOp (a.put oi.dst v).eval oj=execOp a.eval oj:=fun a v=>execOp_put oj hsj a oi.dst v h1
  have ei:∀ (a:Act) v,execOp (a.put oj.dst v).eval oi=execOp a.eval oi:=fun a v=>execOp_put oi hsi a oj.dst v h3
  have wj:∀ (a:Act) v,Region.wanted oj (yielded ops (a.put oi.dst v).tmps)=Region.wanted oj (yielded ops a.tmps):=fun a v=>wanted_put oj a oi.dst v h1
  have wi:∀ (a:Act) v,Region.wanted oi (yielded ops (a.put oj.dst v).tmps)=Region.wanted oi (yielded ops a.tmps):=fun a v=>wanted_put oi a oj.dst v h3
  have hkk:key kind i≠key kind j:=by
    cases hi1:(kind i).isMut with
    | true=>rw [iO hi1,er (hmm hi1)];omega
    | false =>
      rw [er hi1];cases hj1:(kind j).isMut with
      | true=>rw [iO hj1];omega
      | false=>rw [er hj1];exact hij
  have dj:∀ (Γ:Fac) p,∀ k ∈ dep j,nJ Γ (key kind i) p k=Γ k:=fun Γ p k hk=>iE (by
    cases hi1:(kind i).isMut with
    | true=>rw [iO hi1];have:=hdjD k hk;omega
    | false=>rw [er hi1];exact fun e=>hdj (e ▸ hk))
  have di:∀ (Γ:Fac) p,∀ k ∈ dep i,nJ Γ (key kind j) p k=Γ k:=fun Γ p k hk=>iE (by
    cases hj1:(kind j).isMut with
    | true=>rw [iO hj1];have:=hdiD k hk;omega
    | false=>rw [er hj1];exact fun e=>hdi (e ▸ hk))
  have zj:∀ (Γ:Fac) p,(kind j).isMut=true→nJ Γ (key kind i) p DK=Γ DK:=fun Γ p hm=>iE (by
    cases hi1:(kind i).isMut with
    | true=>rw [hmm hi1] at hm;cases hm
    | false=>rw [er hi1];omega)
  have zi:∀ (Γ:Fac) p,(kind i).isMut=true→nJ Γ (key kind j) p DK=Γ DK:=fun Γ p hm=>iE (by rw [er (hmm hm)];omega)
  have pc:∀ (a:Act) v u,(a.put oi.dst v).put oj.dst u=(a.put oj.dst u).put oi.dst v:=fun a v u=>Act.put_comm a v u h2
  unfold fOp at *
  simp only [hi,hj,wj,wi] at *
  by_cases hwi:Region.wanted oi (yielded ops a.tmps)=true <;> by_cases hwj:Region.wanted oj (yielded ops a.tmps)=true <;> simp only [hwi,hwj,if_true,if_false,Bool.false_eq_true] at h ⊢
  · obtain ⟨ho,hn⟩:=h
    refine ⟨?_,fun v p c hc=>⟨cU (ei a v) (zi Γ p) (di Γ p) ho,fun u q d hd=>?_⟩⟩
    · obtain ⟨v,p,c,hc⟩:=iA (P:=P) (w0:=w0) (D:=D) (kind:=kind) hB i oi a
      exact cU (ej a v).symm (fun hm=>(zj Γ p hm).symm) (fun k hk=>(dj Γ p k hk).symm) (hn v p c hc).1
    · have hd':Can P w0 D kind i oi a B u q d:=cY (ei a v).symm (fun b _ hb hB'=>hb (by cases c <;> first|exact hB' | exact Or.inr hB')) hd
      have hc':Can P w0 D kind j oj (a.put oi.dst u) (rZ B d) v p c:=cY (ej a u) (fun b hb hnb hB'=>by
        cases d with
        | none=>exact hnb hB'
        | some b' =>
          rcases hB' with hB' | hB'
          · subst hB';subst hb;exact ku hd b rfl (Or.inl rfl)
          · exact hnb hB') hc
      have:=(hn u q d hd').2 v p c hc';rw [pc,my hkk,m6] at this;exact this
  · obtain ⟨ho,hn⟩:=h
    refine ⟨cU (ei a _) (fun _=>rfl) (fun _ _=>rfl) ho,fun u q d hd=>?_⟩;have:=hn u q d (cY (ei a _).symm (fun _ _ h=>h) hd);rw [pc] at this;exact this
  · obtain ⟨ho,hn⟩:=h
    refine ⟨cU (ej a _).symm (fun _=>rfl) (fun _ _=>rfl) ho,fun u q d hd=>?_⟩;have:=hn u q d (cY (ej a _) (fun _ _ h=>h) hd);rw [pc] at this;exact this
  · rw [pc] at h
    exact h

def eN(P:Program)(md:Region.Mode)(ops:Array Oper)(w0:World)(D:Nat→Prop)(kind:Nat→iB)(dep:Nat→List Nat)(n:Nat)(L:Array Bool→i4):Nat→Array Bool→i4
  | 0,listed=>L listed
  | f+1,listed=>fun a Γ B=>Region.ready md ops listed≠[]∧∀ i ∈ Region.ready md ops listed,i<n∧fOp P ops w0 D kind dep i (eN P md ops w0 D kind dep n L f (listed.setIfInBounds i true)) a Γ B

structure Inv (D:Nat→Prop) (w0:World) (Γ:Fac) (B:Own) (w:World):Prop where
  ext:Exd D w0 w
  facts:∀ k,Γ k w
  own:∀ b,B b→b<w.heap.size∧¬ D b
  mono:∀ k,k≠DK→∀ w w',Exd D w w'→Γ k w→Γ k w'
  monod:∀ w w',Ext w w'→Γ DK w→Γ DK w'

theorem Inv.step{Γ:Fac}{B:Own}{w w':World}(h:Inv D w0 Γ B w)(he:Ext w w')(i:Nat)(hi:i≠DK)(p:World→Prop)(hp:p w')(hm:∀ w w',Exd D w w'→p w→p w'):Inv D w0 (upd Γ i p) B w' where
  ext:=h.ext.trans (Exd.of he)
  facts k:=by
    by_cases hk:k=i
    · subst hk;rw [ez];exact hp
    · rw [i6 hk]
      by_cases hd:k=DK
      · rw [hd];exact h.monod _ _ he (h.facts DK)
      · exact h.mono k hd _ _ (Exd.of he) (h.facts k)
  own b hb:=⟨Nat.lt_of_lt_of_le (h.own b hb).1 he.size,(h.own b hb).2⟩
  mono k hd w w' he hk:=by
    by_cases hk':k=i
    · subst hk';rw [ez] at *;exact hm _ _ he hk
    · rw [i6 hk'] at *;exact h.mono k hd _ _ he hk
  monod w w' he hk:=by
    rw [i6 (Ne.symm hi)] at *;exact h.monod _ _ he hk
theorem Inv.stepd{Γ:Fac}{B:Own}{w w':World}(h:Inv D w0 Γ B w)(he:Exd D w w')(p:World→Prop)(hp:p w')(hm:∀ w w',Ext w w'→p w→p w'):Inv D w0 (upd Γ DK p) B w' where
  ext:=h.ext.trans he
  facts k:=by
    by_cases hk:k=DK
    · subst hk;rw [ez];exact hp
    · rw [i6 hk];exact h.mono k hk _ _ he (h.facts k)
  own b hb:=⟨Nat.lt_of_lt_of_le (h.own b hb).1 he.size,(h.own b hb).2⟩
  mono k hd w w' he hk:=by
    rw [i6 hd] at *;exact h.mono k hd _ _ he hk
  monod w w' he hk:=by
    rw [ez] at *;exact hm _ _ he hk

theorem gA(hsz:ops.size≤DK)(hDo:∀ b,D b→b<w0.heap.size){i:Nat}{a:Act}{Γ:Fac}{B:Own}{K:i4}{K':Act→World→Prop}{Q':Exit→Act→World→Prop}{w:World}(hI:Inv D w0 Γ B w)
   (h:∀ a' Γ' B' w',Inv D w0 Γ' B' w'→K a' Γ' B'→K' a' w')(hh:fOp P ops w0 D kind dep i K a Γ B):wpOp P ops Q' i K' a w:=by
  unfold fOp at hh;unfold wpOp;cases ho:ops[i]? with
  | none=>simp only [ho] at *;exact h _ _ _ _ hI hh
  | some o =>
    have hiD:i≠DK:=by have:=(Array.getElem?_eq_some_iff.1 ho).1;omega
    simp only [ho] at *
    by_cases hw:Region.wanted o (yielded ops a.tmps)=true
    · rw [if_pos hw] at hh ⊢
      obtain ⟨hob,hn⟩:=hh;refine Or.inl ?_;unfold Oper.wp;unfold Obl at hob;unfold Can at hn;cases hk:kind i with
      | quiet =>
        simp only [hk] at hob hn;rw [hob w hI.ext];exact h _ _ _ _ hI (hn _ _ _ ⟨rfl,rfl,rfl⟩)
      | spec α x0 mk φ =>
        have hid:=hiD;rw [er (by rw [hk];rfl)] at hn;simp only [hk] at hob hn;have hs:=hob w hI.ext (fun k _=>hI.facts k);unfold cJ at hs;generalize (execOp a.eval o).run P w=r at *
        cases r with
        | ok nx w' =>
          cases nx <;> simp only [ig] at hs <;> simp only [Oper.upon]
          case value u =>
            obtain ⟨he,x,rfl,hx⟩:=hs;exact h _ _ _ _ (hI.step he i hid _ ⟨w',Exd.refl _ _,hx⟩ (fun _ _ he hh=>hh.mono he)) (hn _ _ _ ⟨x,rfl,rfl,rfl⟩)
          case enter f args =>
            obtain ⟨he,hc⟩:=hs;refine hc.mono fun e w'' ⟨x,hx,he',hφ⟩=>?_
            subst hx;exact h _ _ _ _ (hI.step (he.trans he') i hid _ ⟨w'',Exd.refl _ _,hφ⟩ (fun _ _ he hh=>hh.mono he)) (hn _ _ _ ⟨x,rfl,rfl,rfl⟩)
        | halt x w'=>simp only [ig] at hs
      | mutk α x0 mk φ =>
        rw [iO (by rw [hk];rfl)] at hn;simp only [hk] at hob hn;have hs:=hob w hI.ext (hI.facts DK) (fun k _=>hI.facts k);unfold specAtd at hs;generalize (execOp a.eval o).run P w=r at *
        cases r with
        | ok nx w' =>
          cases nx <;> simp only [jF] at hs <;> simp only [Oper.upon]
          case skip =>
            obtain ⟨he,x,hu,hx⟩:=hs;have h5:=hn _ _ _ ⟨x,rfl,rfl,rfl⟩;rw [hu] at h5;exact h _ _ _ _ (hI.stepd he _ ⟨w',Ext.refl _,hx⟩ (fun _ _ he hh=>hh.mono he)) h5
          case value u =>
            obtain ⟨he,x,rfl,hx⟩:=hs;exact h _ _ _ _ (hI.stepd he _ ⟨w',Ext.refl _,hx⟩ (fun _ _ he hh=>hh.mono he)) (hn _ _ _ ⟨x,rfl,rfl,rfl⟩)
          case enter f args =>
            obtain ⟨he,hc⟩:=hs;refine hc.mono fun e w'' ⟨x,hx,he',hφ⟩=>?_
            subst hx;exact h _ _ _ _ (hI.stepd (he.trans he') _ ⟨w'',Ext.refl _,hφ⟩ (fun _ _ he hh=>hh.mono he)) (hn _ _ _ ⟨x,rfl,rfl,rfl⟩)
        | halt x w'=>simp only [jF] at hs
      | alloc T cs =>
        have hid:=hiD;rw [er (by rw [hk];rfl)] at hn;simp only [hk] at hob hn;rw [hob w hI.ext];have hnd:¬ D w.heap.size:=fun h=>by have:=hDo _ h;have:=hI.ext.size;omega
        refine h _ _ _ _ ?_ (hn _ _ _ ⟨w.heap.size,fun hb=>Nat.lt_irrefl _ (hI.own _ hb).1,hI.ext.size,rfl,rfl,rfl⟩);have hI':=hI.step (Ext.alloc w (.cells cs T)) i hid (blk w.heap.size cs T) (by show (w.heap.push _)[w.heap.size]?=_;simp) (fun _ _ he hh=>he.block hnd hh)
        exact ⟨hI'.ext, hI'.facts, fun b hb => by rcases hb with rfl | hb; · exact ⟨by simp, hnd⟩
                                                  · exact hI'.own b hb,hI'.mono,hI'.monod⟩
    · rw [if_neg hw] at hh ⊢
      exact h _ _ _ _ hI hh

theorem bS(hsz:ops.size≤DK)(hDo:∀ b,D b→b<w0.heap.size){n g:Nat}{L:Array Bool→i4}{Q':Exit→Act→World→Prop}(hL:∀ listed a Γ B w,Inv D w0 Γ B w→L listed a Γ B→wpAny P md ops Q' g listed a w) :
    ∀ (f:Nat) (listed:Array Bool) (a:Act) (Γ:Fac) (B:Own) (w:World),Inv D w0 Γ B w→eN P md ops w0 D kind dep n L f listed a Γ B→wpAny P md ops Q' (f+g) listed a w
  | 0,listed,a,Γ,B,w,hI,h=>by rw [Nat.zero_add];exact hL _ _ _ _ _ hI h
  | f+1,listed,a,Γ,B,w,hI,h=>by
    rw [show f+1+g=(f+g)+1 by omega];exact ⟨fun h0=>absurd h0 h.1,fun i hi=>gA hsz hDo hI (fun a' Γ' B' w' hI' h'=>bS hsz hDo hL f _ a' Γ' B' w' hI' h') (h.2 i hi).2⟩

theorem yR(hd:yS md ops dep=true):∀ (i:Nat) (oi:Oper),ops[i]?=some oi→∀ k ∈ dep i,k<i:=by
  intro i;induction i using Nat.strongRecOn with
  | _ i ih =>
    intro oi hi k hk;obtain ⟨e,he,hb,hlt,hor⟩:=nr hd hi hk;rcases hor with rfl|hor
    · exact hlt
    · have hsz:e.on<ops.size:=by
        have:i<ops.size:=(Array.getElem?_eq_some_iff.1 hi).1;omega
      have:=ih e.on hlt _ (Array.getElem?_eq_getElem hsz) k hor;omega
theorem fD{n i:Nat}{oi:Oper}{L:Array Bool→i4}(hi:ops[i]?=some oi)(hsel:∀ (j:Nat) (o:Oper) cs b,ops[j]?=some o→o.op≠.select cs b)
   (hd:yS md ops dep=true)(hsz:ops.size≤DK)(hch:∀ i j,i<ops.size→j<ops.size→i≠j→(kind i).isMut=true→(kind j).isMut=true→i ∈ dep j∨j ∈ dep i)
   (hT:∀ listed,HeadInv md ops n listed→∀ i,i<n→listed.getD i true=false→∀ t,n≤t→t ∉ Region.ready md ops listed)(hin:i<n)
   (hdone:∀ listed a Γ B,L listed a Γ B→∀ j ∈ Region.ready md ops listed,n≤j) :
    ∀ (f:Nat) (listed:Array Bool) (a:Act) (Γ:Fac) (B:Own),oZ B→HeadInv md ops n listed →
      (∀ j oj,ops[j]?=some oj→j≠i→listed.getD j true=false→(∀ e ∈ oj.after,Region.binds md e=true→e.on≠i)→oi.apart ops oj=true) →
      i ∈ Region.ready md ops listed →
      fOp P ops w0 D kind dep i (eN P md ops w0 D kind dep n L f (listed.setIfInBounds i true)) a Γ B→eN P md ops w0 D kind dep n L (f+1) listed a Γ B:=by
  intro f;induction f with
  | zero =>
    intro listed a Γ B hB inv _ hr H;have hun:=(mem_ready.1 hr).1;refine ⟨fun h=>(by rw [h] at hr;cases hr),fun j hj=>?_⟩;have hjn:j<n:=by
      rcases Nat.lt_or_ge j n with h|h
      · exact h
      · exact absurd hj (hT listed inv i hin hun j h)
    refine ⟨hjn,?_⟩;by_cases hji:j=i
    · subst hji;exact H
    · exfalso
      have hex:∃ a Γ B,L (listed.setIfInBounds i true) a Γ B:=by
        unfold fOp at H;simp only [hi] at H;by_cases hw:Region.wanted oi (yielded ops a.tmps)=true
        · rw [if_pos hw] at H
          obtain ⟨v,p,c,hc⟩:=iA (P:=P) (w0:=w0) (D:=D) (kind:=kind) hB i oi a;exact ⟨_,_,_,H.2 v p c hc⟩
        · rw [if_neg hw] at H
          exact ⟨_,_,_,H⟩
      obtain ⟨a',Γ',B',hL⟩:=hex;have:=hdone _ _ _ _ hL j (ready_mono hj hji);omega
  | succ f ih =>
    intro listed a Γ B hB inv hfree hr H;have hun:=(mem_ready.1 hr).1;refine ⟨fun h=>(by rw [h] at hr;cases hr),fun j hj=>?_⟩;have hjn:j<n:=by
      rcases Nat.lt_or_ge j n with h|h
      · exact h
      · exact absurd hj (hT listed inv i hin hun j h)
    refine ⟨hjn,?_⟩;by_cases hji:j=i
    · subst hji;exact H
    · have h1:fOp P ops w0 D kind dep i (fun a Γ B=>fOp P ops w0 D kind dep j (eN P md ops w0 D kind dep n L f ((listed.setIfInBounds i true).setIfInBounds j true)) a Γ B) a Γ B :=
        l0 (fun a' Γ' B' h'=>(h'.2 j (ready_mono hj hji)).2) H
      obtain ⟨hjun,oj,hoj,hall⟩:=mem_ready.1 hj;obtain ⟨_,oi',hoi',halli⟩:=mem_ready.1 hr;have:oi'=oi:=Option.some.inj (hoi'.symm.trans hi);subst this;have hnot:∀ e ∈ oj.after,Region.binds md e=true→e.on≠i:=fun e he hb heq=>by
        have h1:=hall e he hb;rw [heq,getD_both hun] at h1;cases h1
      have hdi:j ∉ dep i:=fun hm=>by
        have:=gp hd inv i _ hi halli j hm;rw [getD_both hjun] at this;cases this
      have hdj:i ∉ dep j:=fun hm=>by
        have:=gp hd inv j _ hoj hall i hm;rw [getD_both hun] at this;cases this
      have h2:=lZ hi hoj (Ne.symm hji) (fun hm=>by cases hj1:(kind j).isMut with|false=>rfl|true=>(rcases hch i j (Array.getElem?_eq_some_iff.1 hi).1 (Array.getElem?_eq_some_iff.1 hoj).1 (Ne.symm hji) hm hj1 with h|h;exact absurd h hdj;exact absurd h hdi)) (by have:=(Array.getElem?_eq_some_iff.1 hi).1;omega) (by have:=(Array.getElem?_eq_some_iff.1 hoj).1;omega) (fun k hk=>by have:=yR hd i _ hi k hk;have:=(Array.getElem?_eq_some_iff.1 hi).1;omega) (fun k hk=>by have:=yR hd j _ hoj k hk;have:=(Array.getElem?_eq_some_iff.1 hoj).1;omega) (hfree j oj hoj hji hjun hnot) (fun cs b=>hsel i _ cs b hi) (fun cs b=>hsel j oj cs b hoj) hdi hdj hB h1;have hfree':∀ k ok,ops[k]?=some ok→k≠i→(listed.setIfInBounds j true).getD k true=false →
          (∀ e ∈ ok.after,Region.binds md e=true→e.on≠i)→oi'.apart ops ok=true:=fun k ok hk hki hun hno=>by
        refine hfree k ok hk hki ?_ hno;by_cases hjk:j=k
        · subst hjk;exact hjun
        · rw [getD_set_ne true hjk] at hun;exact hun
      rw [Array.setIfInBounds_comm _ _ (Ne.symm hji)] at h2;refine ki hB (fun a' Γ' B' hB' h3=>ih (listed.setIfInBounds j true) a' Γ' B' hB' (inv.set hj hjn) hfree' (ready_mono hr (Ne.symm hji)) h3) h2

/-- The walk in the order of the text. -/
def wpF(P:Program)(ops:Array Oper)(w0:World)(D:Nat→Prop)(kind:Nat→iB)(dep:Nat→List Nat)(Q:i4):List Oper→Nat→i4
  | [],_,a,Γ,B=>Q a Γ B
  | o :: rest,k,a,Γ,B=>if Region.wanted o (yielded ops a.tmps) then
      Obl P w0 D kind dep k o a Γ∧∀ v p c,Can P w0 D kind k o a B v p c→wpF P ops w0 D kind dep Q rest (k+1) (a.put o.dst v) (nJ Γ (key kind k) p) (rZ B c)
    else wpF P ops w0 D kind dep Q rest (k+1) (a.put o.dst undef) Γ B

theorem dV{n g:Nat}{Lq:i4}(hsel:Region.noSelect ops=true)(hd:yS md ops dep=true)(hsz:ops.size≤DK)(hch:∀ i j,i<ops.size→j<ops.size→i≠j→(kind i).isMut=true→(kind j).isMut=true→i ∈ dep j∨j ∈ dep i)
   (hT:∀ listed,HeadInv md ops n listed→∀ i,i<n→listed.getD i true=false→∀ t,n≤t→t ∉ Region.ready md ops listed) :
    ∀ (l:List Oper) (k:Nat) (listed:Array Bool) (a:Act) (Γ:Fac) (B:Own),oZ B→(∀ j,j<l.length→l[j]?=ops[k+j]?)→k+l.length=n→HeadInv md ops n listed →
    Region.lexHead md ops g l.length k listed=true→wpF P ops w0 D kind dep Lq l k a Γ B →
    eN P md ops w0 D kind dep n (fun listed' a' Γ' B'=>Region.seqB md ops g n listed'=true∧Lq a' Γ' B') l.length listed a Γ B
  | [],k,listed,a,Γ,B,_,_,hk,_,hB,h=>by
    have:k=n:=by simpa using hk
    subst this;exact ⟨by simpa [Region.lexHead] using hB,h⟩
  | o :: l,k,listed,a,Γ,B,hfin,hl,hk,inv,hB,h=>by
    have h0:ops[k]?=some o:=by simpa using (hl 0 (by simp)).symm
    simp only [List.length_cons,Region.lexHead,Bool.and_eq_true] at hB;obtain ⟨⟨hr,hf⟩,hB'⟩:=hB;have hkn:k<n:=by simp only [List.length_cons] at hk;omega
    have hr':k ∈ Region.ready md ops listed:=by simpa using hr
    have hst:fOp P ops w0 D kind dep k (wpF P ops w0 D kind dep Lq l (k+1)) a Γ B:=by unfold fOp;simp only [h0];exact h
    exact fD h0 (Region.noSelect_spec hsel) hd hsz hch hT hkn (fun listed' a' Γ' B' hL=>seqB_ready hL.1) l.length listed a Γ B hfin inv (Region.free_spec h0 hf) hr'
      (ki hfin (fun a' Γ' B' hfin' h'=>dV hsel hd hsz hch hT l (k+1) _ a' Γ' B' hfin' (fun j hj=>by have:=hl (j+1) (by simp;omega);simpa [Nat.add_assoc,Nat.add_comm 1 j] using this) (by simp only [List.length_cons] at hk;omega) (inv.set hr' hkn) hB' h') hst)

def z6(kind:Nat→iB)(dep:Nat→List Nat)(n:Nat):Bool :=
  (List.range n).all fun i=>(List.range n).all fun j=>i == j || !(kind i).isMut || !(kind j).isMut || (dep j).contains i || (dep i).contains j
theorem rE{n:Nat}(h:z6 kind dep n=true){i j:Nat}(hi:i<n)(hj:j<n)(hij:i≠j)(h1:(kind i).isMut=true)(h2:(kind j).isMut=true):i ∈ dep j∨j ∈ dep i:=by
  have h3:=List.all_eq_true.1 (List.all_eq_true.1 h i (List.mem_range.2 hi)) j (List.mem_range.2 hj);rw [h1,h2,beq_eq_false_iff_ne.2 hij] at h3;simpa using h3
/-- THE RULE: a region that draws its order: its first n operations by their kinds, in the order of the text; the rest, a forced tail, as it stands. -/
theorem lw{id:Nat}{Q:Exit→Act→World→Prop}{a:Act}{w:World}{l:List Oper}(n:Nat)(D:Nat→Prop)(kind:Nat→iB)(hDo:∀ b,D b→b<w.heap.size)(dep:Nat→List Nat)(hsz:l.length≤DK)(hcb:z6 kind dep l.length=true)(hm:P.follows .mixedOrders=true)
   (hB:gz .any l.toArray n dep=true)
   (h:wpF P l.toArray w.drew D kind dep (fun a' Γ B=>∀ w',Inv D w.drew Γ B w'→wpList P l.toArray Q (l.drop n) a' w') (l.take n) 0 a (fun k w1=>if k=DK then Ext w.drew w1 else True) (fun _=>False)) :
    (Code.region id l.toArray true).wp P Q a w:=by
  simp only [gz,Bool.and_eq_true,Bool.or_eq_true,beq_iff_eq,decide_eq_true_eq] at hB;obtain ⟨⟨⟨hsel,hor⟩,hd⟩,hlex⟩:=hB;have hn':n≤l.length:=by
    rcases hor with h|h
    · simp at h;omega
    · have:=h.1.1;simp at this;omega
  have hT:∀ listed,HeadInv .any l.toArray n listed→∀ i,i<n→listed.getD i true=false→∀ t,n≤t→t ∉ Region.ready .any l.toArray listed:=by
    intro listed inv i hi hun t ht hr;rcases hor with h|h
    · obtain ⟨_,ot,hot,_⟩:=mem_ready.1 hr
      have:=(Array.getElem?_eq_some_iff.1 hot).1;omega
    · exact tail_waits h.1.2 h.2 h.1.1 inv _ i rfl hi hun t ht hr
  have htl:(l.take n).length=n:=by simp;omega
  have hdl:(l.drop n).length=l.toArray.size-n:=by simp
  have inv0:HeadInv .any l.toArray n (Array.replicate l.toArray.size false) :=
    ⟨by simp,fun j oj _ hl=>(by rw [getD_replicate_false] at hl;cases hl),fun t _ ht=>getD_in (by simpa using ht) (getD_replicate_false _ _)⟩
  have H:=dV (md:=.any) (g:=l.toArray.size-n) hsel hd (by simpa using hsz) (fun i j hi hj=>rE hcb (by simpa using hi) (by simpa using hj)) hT (l.take n) 0 _ a _ _ ⟨0,fun _ h=>h.elim⟩ (fun j hj=>by
    have hj':j<n:=by rw [htl] at hj;exact hj
    simp [hj']) (by simpa using htl) inv0 (by rw [htl];exact hlex) h
  refine wp_region_any hm ?_;have:=bS (by simpa using hsz) (w0:=w.drew) hDo (Q':=Q) (g:=l.toArray.size-n) (fun listed a' Γ B w' hI hL=>by
    have:=wpAny_of_seq (md:=.any) (Q':=Q) (l.drop n) n listed a' w' (fun j=>by simp [List.getElem?_drop]) (by rw [hdl];exact hL.1) (hL.2 w' hI)
    rwa [hdl] at this) _ _ _ _ _ w.drew ⟨Exd.refl _ _,fun k=>by split <;> first|exact Ext.refl _|trivial,fun _ h=>h.elim,fun k hk w w' he h=>by rw [if_neg hk];trivial,fun w w' he h=>by rw [if_pos rfl] at h ⊢;exact h.trans he⟩ H
  rw [htl,show n+(l.toArray.size-n)=l.toArray.size by omega] at this;exact this

theorem wp_region_frontd{id:Nat}{Q:Exit→Act→World→Prop}{a:Act}{w:World}{l:List Oper}(n:Nat)(D:Nat→Prop)(kind:Nat→iB)(hDo:∀ b,D b→b<w.heap.size)(dep:Nat→List Nat)(hsz:l.length≤DK)(hcb:z6 kind dep l.length=true)(hm:P.follows .mixedOrders=true)
   (hB:gz .any l.toArray n dep=true)
   (h:∀ w0:World,Ext w w0→w0.heap.size=w.heap.size→(∀ p,w0.cell? p=w.cell? p)→(∀ p,w0.frozen? p=w.frozen? p) →
      wpF P l.toArray w0 D kind dep (fun a' Γ B=>∀ w',Inv D w0 Γ B w'→wpList P l.toArray Q (l.drop n) a' w') (l.take n) 0 a (fun k w1=>if k=DK then Ext w0 w1 else True) (fun _=>False)) :
    (Code.region id l.toArray true).wp P Q a w :=
  lw n D kind hDo dep hsz hcb hm hB (h w.drew (Ext.drew w) rfl (fun _=>rfl) (fun _=>rfl))

/-! ### Steps of the walk -/
section
variable {Q:i4} {o:Oper} {rest:List Oper} {k:Nat} {a:Act} {Γ:Fac} {B:Own}
theorem wpF_quiet(hk:kind k=.quiet)(hg:Region.wanted o (yielded ops a.tmps)=true)(hv:gC o.op=true)
   (h:∀ K:Act→Prop,(∀ a',wpF P ops w0 D kind dep Q rest (k+1) a' Γ B→K a')→o.quiet P a (CL D w0) K):wpF P ops w0 D kind dep Q (o :: rest) k a Γ B:=by
  obtain ⟨v,hq,hn⟩:=h _ (fun _ h=>h);have run:∀ w,Exd D w0 w→(execOp a.eval o).run P w=.ok (.value v) w:=by
    intro w hw;have:=hq w (CL.of hw);unfold Oper.quietAt at this;have hne:=i5 (P:=P) (a:=a) hv w;generalize (execOp a.eval o).run P w=r at *
    cases r with
    | ok nx w' =>
      obtain ⟨u,rfl⟩:=hne nx w' rfl;simp only [Oper.quietUpon] at this;obtain ⟨rfl,rfl⟩:=this;rfl
    | halt x w'=>simp only [Oper.quietUpon] at this
  have hval:Front.valOf P o a w0=v:=by unfold Front.valOf;rw [run w0 (Exd.refl _ _)]
  unfold wpF;rw [if_pos hg];refine ⟨?_,fun u p c hc=>?_⟩
  · unfold Obl;rw [hk];simp only [hval];exact run
  · unfold Can at hc;rw [hk] at hc;obtain ⟨rfl,rfl,rfl⟩:=hc;rw [hval];exact hn
theorem nH(v:Value)(hk:kind k=.quiet)(hg:Region.wanted o (yielded ops a.tmps)=true)(run:∀ w,Exd D w0 w→(execOp a.eval o).run P w=.ok (.value v) w)
   (h:wpF P ops w0 D kind dep Q rest (k+1) (a.put o.dst v) Γ B):wpF P ops w0 D kind dep Q (o :: rest) k a Γ B:=by
  have hval:Front.valOf P o a w0=v:=by unfold Front.valOf;rw [run w0 (Exd.refl _ _)]
  unfold wpF;rw [if_pos hg];refine ⟨?_,fun u p c hc=>?_⟩
  · unfold Obl;rw [hk];simp only [hval];exact run
  · unfold Can at hc;rw [hk] at hc;obtain ⟨rfl,rfl,rfl⟩:=hc;rw [hval];exact h
theorem fy{x:Operand}{p:Addr}(hk:kind k=.quiet)(hg:Region.wanted o (yielded ops a.tmps)=true)(ho:o.op=.nilCheck x)(hx:a.eval x=.pointer (some p))
   (h:wpF P ops w0 D kind dep Q rest (k+1) (a.put o.dst (.pointer (some p))) Γ B):wpF P ops w0 D kind dep Q (o :: rest) k a Γ B:=by
  refine nH _ hk hg (fun w _=>?_) h;obtain ⟨dst,op,type,pos,after,guard⟩:=o;simp only at ho;subst ho;simp only [execOp,hx];rfl
theorem wpF_spec{α:Type}{x0:α}{mk:α→Value}{φ:α→World→Prop}(hk:kind k=.spec α x0 mk φ)(hg:Region.wanted o (yielded ops a.tmps)=true)
   (h1:∀ w,Exd D w0 w→(∀ j ∈ dep k,Γ j w)→cJ P o a w mk φ)(h2:∀ x,wpF P ops w0 D kind dep Q rest (k+1) (a.put o.dst (mk x)) (upd Γ k (Sinced D (φ x))) B) :
    wpF P ops w0 D kind dep Q (o :: rest) k a Γ B:=by
  unfold wpF;rw [if_pos hg];refine ⟨?_,fun u p c hc=>?_⟩
  · unfold Obl;rw [hk];exact h1
  · unfold Can at hc;rw [hk] at hc;obtain ⟨x,rfl,rfl,rfl⟩:=hc;rw [er (by rw [hk];rfl)];exact h2 x
theorem wpF_mut{α:Type}{x0:α}{mk:α→Value}{φ:α→World→Prop}(hk:kind k=.mutk α x0 mk φ)(hg:Region.wanted o (yielded ops a.tmps)=true)(h1:∀ w,Exd D w0 w→Γ DK w→(∀ j ∈ dep k,Γ j w)→specAtd P D o a w mk φ)(h2:∀ x,wpF P ops w0 D kind dep Q rest (k+1) (a.put o.dst (mk x)) (upd Γ DK (ay (φ x))) B) :
    wpF P ops w0 D kind dep Q (o :: rest) k a Γ B:=by
  unfold wpF;rw [if_pos hg];refine ⟨?_,fun u p c hc=>?_⟩
  · unfold Obl;rw [hk];exact h1
  · unfold Can at hc;rw [hk] at hc;obtain ⟨x,rfl,rfl,rfl⟩:=hc;rw [iO (by rw [hk];rfl)];exact h2 x
theorem wpF_alloc{T:TypeId}{cs:Array Value}(hk:kind k=.alloc T cs)(hg:Region.wanted o (yielded ops a.tmps)=true)
   (h1:∀ w,(execOp a.eval o).run P w=.ok (.value (ptr w.heap.size)) (w.alloc (.cells cs T)))
   (h2:∀ b,¬ B b→w0.heap.size≤b→wpF P ops w0 D kind dep Q rest (k+1) (a.put o.dst (ptr b)) (upd Γ k (blk b cs T)) (fun c=>c=b∨B c)) :
    wpF P ops w0 D kind dep Q (o :: rest) k a Γ B:=by
  unfold wpF;rw [if_pos hg];refine ⟨?_,fun u p c hc=>?_⟩
  · unfold Obl;rw [hk];exact fun w _=>h1 w
  · unfold Can at hc;rw [hk] at hc;obtain ⟨b,hb,hs,rfl,rfl,rfl⟩:=hc;rw [er (by rw [hk];rfl)];exact h2 b hb hs
theorem wpF_nil(h:Q a Γ B):wpF P ops w0 D kind dep Q [] k a Γ B:=h
theorem spec_calld{α:Type}{mk:α→Value}{φ:α→World→Prop}{w:World}{f:FuncId}{fn:Func}{xs:Array Operand}{ats:Array TypeId}(args:List Value)
   (ho:o.op=.call { callee:=.value (.func f),args:=xs,argTypes:=ats })(ha:xs.toList.map a.eval=args)
   (hf:P.funcs[f]?=some fn)(hn:(fn.name == "runtime.NumGoroutine")=false)(hb:fn.body.isNone=false)
   (h:Calls P f args.toArray w (fun e w''=>∃ x,e=.returned (mk x)∧Exd D w w''∧φ x w'')):specAtd P D o a w mk φ:=by
  obtain ⟨dst,op,type,pos,after,guard⟩:=o;simp only at ho;subst ho;unfold specAtd;have ha':#[]++xs.map a.eval++#[]=args.toArray:=by
    rw [←ha,Array.append_empty,Array.empty_append];apply Array.ext';simp
  rw [execOp_call_go,ha',i8 hf hn hb];exact ⟨Exd.refl _ _,h⟩
end
end
end Go.Frd
