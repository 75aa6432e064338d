import Derived.Test.YtafgmcimcbhhjaaGreatQJK17
set_option linter.unusedVariables false
set_option maxHeartbeats 8000000
set_option maxRecDepth 8000
namespace Go.Proofs.YtafgmcimcbhhjaaGreat
open Go Go.RowKit Go.Front
def gR:List Oper→Nat→Nat→List Oper
 | [],_,_=>[]
 | o :: l,0,p=>{ o with after:=o.after.push { on:=p,ground:=Ground.data } } :: l
 | o :: l,t+1,p=>o :: gR l t p
theorem iE(l:List Oper)(t p j:Nat)(h:j≠t):(gR l t p)[j]?=l[j]?:=by
 induction l generalizing t j with
 | nil=>rfl
 | cons o l ih =>
  cases t with
  | zero=>cases j with
   | zero=>exact absurd rfl h
   | succ j=>rfl
  | succ t=>cases j with
   | zero=>rfl
   | succ j=>exact ih t j (fun e=>h (by rw [e]))
theorem iF(l:List Oper)(t p:Nat):(gR l t p)[t]?=l[t]?.map (fun o=>{ o with after:=o.after.push { on:=p,ground:=Ground.data } }):=by
 induction l generalizing t with
 | nil=>rfl
 | cons o l ih =>
  cases t with
  | zero=>rfl
  | succ t=>exact ih t
theorem ew(l:List Oper)(t p:Nat):(gR l t p).length=l.length:=by
 induction l generalizing t with
 | nil=>rfl
 | cons o l ih =>
  cases t with
  | zero=>rfl
  | succ t=>simp [gR,ih t]
theorem jk(l:List Oper)(t p j:Nat):∃ f:Oper→Array Edge,(gR l t p)[j]?=l[j]?.map (fun o=>{ o with after:=f o }):=by
 by_cases h:j=t
 ·subst h;exact ⟨_,iF l j p⟩
 ·refine ⟨fun o=>o.after,?_⟩;rw [iE l t p j h];cases l[j]? <;> rfl
theorem fI(l:List Oper)(t p:Nat):yielded (gR l t p).toArray=yielded l.toArray:=by
 funext tmps g
 unfold yielded;obtain ⟨f,hf⟩:=jk l t p g;simp only [List.getElem?_toArray];rw [hf];cases l[g]? <;> rfl
theorem f8(ρ:Operand→Value)(o:Oper)(x:Array Edge):execOp ρ { o with after:=x }=execOp ρ o:=by
 obtain ⟨dst,op,type,pos,after,guard⟩:=o;cases op <;> rfl
section
variable {P:Program} {Q:Exit→Act→World→Prop}
theorem fJ(l:List Oper)(t p i:Nat)(K:Act→World→Prop)(a:Act)(w:World)(h:wpOp P (gR l t p).toArray Q i K a w):wpOp P l.toArray Q i K a w:=by
 unfold wpOp at *
 obtain ⟨f,hf⟩:=jk l t p i;simp only [List.getElem?_toArray] at *
 rw [hf,fI] at h;cases ho:l[i]? with
 | none=>simp only [ho,Option.map_none] at h ⊢;exact h
 | some o =>
  simp only [ho,Option.map_some] at h ⊢;have e1:Region.wanted { o with after:=f o } (yielded l.toArray a.tmps)=Region.wanted o (yielded l.toArray a.tmps):=rfl;rw [e1] at h;by_cases hw:Region.wanted o (yielded l.toArray a.tmps)=true
  ·rw [if_pos hw] at h ⊢;unfold Oper.wp Oper.asks at *
   rw [f8] at h;exact h
  ·rw [if_neg hw] at h ⊢;exact h
def pC(l:List Oper)(t p:Nat):Bool :=
 Region.noSelect l.toArray && t != p && match l[p]?,l[t]? with
  | some op,some ot=>op.guard.isNone && (match op.op with | .extract ..=>true | .move _=>true|_=>false) &&
    op.after.all (fun e=>!Region.binds .any e || ot.after.any (fun e'=>Region.binds .any e' && e'.on == e.on)) && (List.range l.length).all (fun j=>j == p || op.after.any (fun e=>Region.binds .any e && e.on == j) || match l[j]? with|some oj=>oj.after.any (fun e=>Region.binds .any e && e.on == p) || op.apart l.toArray oj|none=>true)
  | _,_=>false
theorem dE(a:Act)(dst:Option Tmp)(x:Operand)(i:Nat)(type:TypeId)(pos:String)(after:Array Edge) :
  (∃ u,∀ w,(execOp a.eval { dst,op:=.extract x i,type,pos,after,guard:=none }).run P w=.ok (.value u) w) ∨
   ∃ r,execOp a.eval { dst,op:=.extract x i,type,pos,after,guard:=none }=(stuck r >>= fun v=>pure (.value v)):=by
 have e:execOp a.eval { dst,op:=.extract x i,type,pos,after,guard:=none }=(Instr.extract (a.eval x) i >>= fun v=>pure (.value v)):=rfl;rw [e];unfold Instr.extract;split
 ·split
  ·left;exact ⟨_,fun w=>rfl⟩
  ·right;exact ⟨_,rfl⟩
 ·right;exact ⟨_,rfl⟩
theorem eJ{ops:Array Oper}{p:Nat}{o:Oper}{x:Operand}{i:Nat}(hp:ops[p]?=some o)(ho:o.op=.extract x i)(hg:o.guard=none){K:Act→World→Prop}{a:Act}{w:World}(h:wpOp P ops Q p K a w) :
  ∃ v,Yields P ops o v a∧K (a.put o.dst v) w:=by
 obtain ⟨dst,op,type,pos,after,guard⟩:=o;simp only at ho hg;subst ho hg;unfold wpOp at h;simp only [hp] at h;have hw:Region.wanted { dst,op:=.extract x i,type,pos,after,guard:=none } (yielded ops a.tmps)=true:=rfl;rw [if_pos hw] at h;rcases dE (P:=P) a dst x i type pos after with ⟨u,hu⟩|⟨r,hr⟩
 ·refine ⟨u,Or.inl ⟨hw,hu⟩,?_⟩;rcases h with h|h
  ·unfold Oper.wp at h;rw [hu] at h;exact h
  ·exfalso;have:=h.1.1;rcases dE (P:=P) a dst x i type pos after with ⟨u,hu⟩|⟨r,hr⟩
   ·have e:execOp a.eval { dst,op:=.extract x i,type,pos,after,guard:=none }=(Instr.extract (a.eval x) i >>= fun v=>pure (.value v)):=rfl;rw [e] at this;unfold Instr.extract at this;split at this
    ·split at this
     ·exact Array.not_mem_empty _ this
     ·exact Array.not_mem_empty _ this
    ·exact Array.not_mem_empty _ this
   ·rw [hr] at this;exact Array.not_mem_empty _ this
 ·exfalso;rcases h with h|h
  ·unfold Oper.wp at h;rw [hr] at h;exact h
  ·have:=h.1.1;rw [hr] at this;exact Array.not_mem_empty _ this
theorem pi{ops:Array Oper}{p:Nat}{o:Oper}{x:Operand}(hp:ops[p]?=some o)(ho:o.op=.move x)(hg:o.guard=none){K:Act→World→Prop}{a:Act}{w:World}(h:wpOp P ops Q p K a w) :
  ∃ v,Yields P ops o v a∧K (a.put o.dst v) w:=by
 obtain ⟨dst,op,type,pos,after,guard⟩:=o;simp only at ho hg;subst ho hg;unfold wpOp at h;simp only [hp] at h;have hw:Region.wanted { dst,op:=.move x,type,pos,after,guard:=none } (yielded ops a.tmps)=true:=rfl;rw [if_pos hw] at h;refine ⟨a.eval x,Or.inl ⟨hw,fun w=>rfl⟩,?_⟩;rcases h with h|h
 ·exact h
 ·exact absurd h.1.1 (Array.not_mem_empty _)
theorem jB{l:List Oper}{t p i:Nat}{listed:Array Bool}(h:i ∈ Region.ready .any (gR l t p).toArray listed):i ∈ Region.ready .any l.toArray listed:=by
 rw [mem_ready] at *
 obtain ⟨h0,o,ho,hall⟩:=h;refine ⟨h0,?_⟩;by_cases hit:i=t
 ·subst hit;rw [List.getElem?_toArray,iF] at ho;obtain ⟨o',ho',rfl⟩:=Option.map_eq_some_iff.1 ho;exact ⟨o',by rw [List.getElem?_toArray];exact ho',fun e he hb=>hall e (Array.mem_push.2 (Or.inl he)) hb⟩
 ·rw [List.getElem?_toArray,iE l t p i hit] at ho;exact ⟨o,by rw [List.getElem?_toArray];exact ho,hall⟩
theorem dP{l:List Oper}{t p i:Nat}{listed:Array Bool}(h:i ∈ Region.ready .any l.toArray listed)(hor:i≠t∨listed.getD p false=true):i ∈ Region.ready .any (gR l t p).toArray listed:=by
 rw [mem_ready] at *
 obtain ⟨h0,o,ho,hall⟩:=h;refine ⟨h0,?_⟩;rw [List.getElem?_toArray] at ho;by_cases hit:i=t
 ·subst hit;refine ⟨_,by rw [List.getElem?_toArray,iF,ho];rfl,fun e he hb=>?_⟩;rcases Array.mem_push.1 he with he|rfl
  ·exact hall e he hb
  ·rcases hor with h|h
   ·exact absurd rfl h
   ·exact h
 ·exact ⟨o,by rw [List.getElem?_toArray,iE l t p i hit];exact ho,hall⟩
theorem lp{l:List Oper}{p:Nat}{op:Oper}(hp:l[p]?=some op)
 (hf:(List.range l.length).all (fun j=>j == p || op.after.any (fun e=>Region.binds .any e && e.on == j) || match l[j]? with|some oj=>oj.after.any (fun e=>Region.binds .any e && e.on == p) || op.apart l.toArray oj|none=>true)=true)(listed:Array Bool)
 (hr:p ∈ Region.ready .any l.toArray listed) :
  ∀ j oj,l.toArray[j]?=some oj→j≠p→listed.getD j true=false→(∀ e ∈ oj.after,Region.binds .any e=true→e.on≠p)→op.apart l.toArray oj=true:=by
 intro j oj hj hne hun hno;rw [List.getElem?_toArray] at hj;have h1:=List.all_eq_true.1 hf j (List.mem_range.2 (List.getElem?_eq_some_iff.1 hj).1);simp only [hj,Bool.or_eq_true,beq_iff_eq,hne,false_or] at h1;rcases h1 with h1|h1|h1
 ·exfalso;obtain ⟨e,he,hb⟩:=Array.any_eq_true'.1 h1;simp only [Bool.and_eq_true,beq_iff_eq] at hb;obtain ⟨_,o,ho,hall⟩:=mem_ready.1 hr;rw [List.getElem?_toArray,hp] at ho;obtain rfl:op=o:=by simpa using ho
  have h2:=hall e he hb.1;rw [hb.2] at h2;rw [getD_both hun] at h2;cases h2
 ·obtain ⟨e,he,hb⟩:=Array.any_eq_true'.1 h1;simp only [Bool.and_eq_true,beq_iff_eq] at hb;exact absurd hb.2 (hno e he hb.1)
 ·exact h1
theorem jr{l:List Oper}{t p:Nat}(hB:pC l t p=true)(hQ:∀ c a d v w,Q (.panic c) (a.put d v) w→Q (.panic c) a w) :
  ∀ (f:Nat) (listed:Array Bool) (a:Act) (w:World),listed.size=l.length→wpAny P .any (gR l t p).toArray Q f listed a w→wpAny P .any l.toArray Q f listed a w:=by
 unfold pC at hB;simp only [Bool.and_eq_true] at hB;obtain ⟨⟨hsel,htp⟩,hB⟩:=hB;have htp:t≠p:=by simpa using htp
 cases hp:l[p]? with
 | none=>simp only [hp] at hB;cases hB
 | some op =>
  cases ht:l[t]? with
  | none=>simp only [hp,ht] at hB;cases hB
  | some ot =>
   simp only [hp,ht,Bool.and_eq_true] at hB;obtain ⟨⟨⟨hg,hx⟩,hdep⟩,hfree⟩:=hB;have hop:(∃ x i,op.op=.extract x i)∨∃ x,op.op=.move x:=by
    cases h:op.op <;> simp only [h] at hx <;> first|exact Or.inl ⟨_,_,rfl⟩|exact Or.inr ⟨_,rfl⟩|cases hx
   have hg:op.guard=none:=by simpa using hg
   have hp':l.toArray[p]?=some op:=by rw [List.getElem?_toArray];exact hp
   have hfr:=lp hp hfree
   -- if t is ready and p has not been,then p is ready
   have hpr:∀ listed:Array Bool,t ∈ Region.ready .any l.toArray listed→listed.getD p false=false→listed.size=l.length→p ∈ Region.ready .any l.toArray listed:=by
    intro listed htr hpl hs;rw [mem_ready] at htr ⊢;obtain ⟨_,o,ho,hall⟩:=htr;rw [List.getElem?_toArray,ht] at ho;obtain rfl:ot=o:=by simpa using ho
    have hlt:p<listed.size:=by rw [hs];exact (List.getElem?_eq_some_iff.1 hp).1
    refine ⟨by simpa [hlt] using hpl,op,hp',fun e he hb=>?_⟩;have h1:=Array.all_eq_true'.1 hdep e he;rw [hb] at h1;simp only [Bool.not_true,Bool.false_or] at h1;obtain ⟨e',he',h2⟩:=Array.any_eq_true'.1 h1;simp only [Bool.and_eq_true,beq_iff_eq] at h2;rw [←h2.2];exact hall e' he' h2.1
   intro f;induction f with
   | zero =>
    intro listed a w hs h;refine ⟨List.eq_nil_iff_forall_not_mem.2 fun i hi=>?_,h.2⟩;have h0:=h.1;by_cases hc:i≠t∨listed.getD p false=true
    ·have:=dP hi hc;rw [h0] at this;cases this
    ·obtain rfl:i=t:=Decidable.byContradiction fun h=>hc (Or.inl h)
     have hpl:listed.getD p false=false:=by
      cases hb:listed.getD p false
      ·rfl
      ·exact absurd (Or.inr hb) hc
     have:=dP (t:=i) (p:=p) (hpr listed hi hpl hs) (Or.inl (Ne.symm htp));rw [h0] at this;cases this
   | succ f ih =>
    intro listed a w hs h;by_cases hc:t ∈ Region.ready .any l.toArray listed∧listed.getD p false=false
    ·have hr:=hpr listed hc.1 hc.2 hs;have h1:=fJ _ _ _ _ _ _ _ (h.2 p (dP hr (Or.inl (Ne.symm htp))));obtain ⟨v,hy,h2⟩:=hop.elim (fun ⟨_,_,hop⟩=>eJ hp' hop hg h1) (fun ⟨_,hop⟩=>pi hp' hop hg h1);exact wpAny_first hp' (Region.noSelect_spec hsel) (fun c a w=>hQ c a op.dst v w) f listed a w (hfr listed hr) hr hy (ih _ _ _ (by simpa using hs) h2)
    ·refine ⟨fun h0=>h.1 (List.eq_nil_iff_forall_not_mem.2 fun i hi=>by have:=jB hi;rw [h0] at this;cases this),fun i hi=>?_⟩;have hi':=dP (t:=t) (p:=p) hi (by
      by_cases hit:i=t
      ·subst hit
       right
       cases hb:listed.getD p false
       ·exact absurd ⟨hi,hb⟩ hc
       ·rfl
      ·exact Or.inl hit)
     exact wpOp_mono (fun a' w' h3=>ih _ a' w' (by simpa using hs) h3) (fJ _ _ _ _ _ _ _ (h.2 i hi'))
def jh(l:List Oper):List (Nat×Nat)→Bool
 | []=>true
 | (t,p) :: es=>pC l t p && jh (gR l t p) es
def fx(l:List Oper):List (Nat×Nat)→List Oper
 | []=>l
 | (t,p) :: es=>fx (gR l t p) es
theorem gj(l:List Oper)(es:List (Nat×Nat)):(fx l es).length=l.length:=by
 induction es generalizing l with
 | nil=>rfl
 | cons e es ih=>rw [fx,ih,ew]
theorem ii{l:List Oper}(es:List (Nat×Nat))(hB:jh l es=true)(hQ:∀ c a d v w,Q (.panic c) (a.put d v) w→Q (.panic c) a w)(f:Nat)(listed:Array Bool)(a:Act)(w:World)(hs:listed.size=l.length)
 (h:wpAny P .any (fx l es).toArray Q f listed a w):wpAny P .any l.toArray Q f listed a w:=by
 induction es generalizing l with
 | nil=>exact h
 | cons e es ih =>
  obtain ⟨t,p⟩:=e;simp only [jh,Bool.and_eq_true] at hB;exact jr hB.1 hQ f listed a w hs (ih hB.2 (by rw [ew];exact hs) h)
theorem lk{a:Act}{w:World}{l:List Oper}(n:Nat)(kind:Nat→Kind)(dep:Nat→List Nat)
 (hB:ie .any l.toArray n dep=true)
 (h:wpF P l.toArray w.drew kind dep (fun a' Γ B=>∀ w',Inv w.drew Γ B w'→wpList P l.toArray Q (l.drop n) a' w') (l.take n) 0 a (fun _ _=>True) (fun _=>False)) :
  wpAny P .any l.toArray Q l.toArray.size (Array.replicate l.toArray.size false) a w.drew:=by
 simp only [ie,Bool.and_eq_true,Bool.or_eq_true,beq_iff_eq,decide_eq_true_eq] at hB;obtain ⟨⟨⟨hsel,hor⟩,hd⟩,hlex⟩:=hB;have hn':n≤l.length:=by
  rcases hor with h|h
  ·simp at h;omega
  ·have:=h.1.1;simp at this;omega
 have hT:∀ listed,HeadInv .any l.toArray n listed→∀ i,i<n→listed.getD i true=false→∀ t,n≤t→t ∉ Region.ready .any l.toArray listed:=by
  intro listed inv i hi hun t ht hr;rcases hor with h|h
  ·obtain ⟨_,ot,hot,_⟩:=mem_ready.1 hr;have:=(nXb.1 hot).1;omega
  ·exact tail_waits h.1.2 h.2 h.1.1 inv _ i rfl hi hun t ht hr
 have htl:(l.take n).length=n:=by simp;omega
 have hdl:(l.drop n).length=l.toArray.size-n:=by simp
 have inv0:HeadInv .any l.toArray n (Array.replicate l.toArray.size false) :=
  ⟨by simp,fun j oj _ hl=>(by rw [getD_replicate_false] at hl;cases hl),fun t _ ht=>getD_in (by simpa using ht) (getD_replicate_false _ _)⟩
 have H:=gp (md:=.any) (g:=l.toArray.size-n) hsel hd hT (l.take n) 0 _ a _ _ ⟨0,fun _ h=>h.elim⟩ (fun j hj=>by
  have hj':j<n:=by rw [htl] at hj;exact hj
  simp [hj']) (by simpa using htl) inv0 (by rw [htl];exact hlex) h
 have:=dA (Q':=Q) (g:=l.toArray.size-n) (fun listed a' Γ B w' hI hL=>by
  have:=wpAny_of_seq (md:=.any) (Q':=Q) (l.drop n) n listed a' w' (fun j=>by simp [List.getElem?_drop]) (by rw [hdl];exact hL.1) (hL.2 w' hI)
  rwa [hdl] at this) _ _ _ _ _ w.drew ⟨Ext.refl _,fun _=>trivial,fun _ h=>h.elim,fun _ _ _ _ h=>h⟩ H
 rw [htl,show n+(l.toArray.size-n)=l.toArray.size by omega] at this;exact this

theorem bG{id:Nat}{a:Act}{w:World}{l:List Oper}(es:List (Nat×Nat))(l':List Oper)(hl:fx l es=l')(hQ:∀ c a d v w,Q (.panic c) (a.put d v) w→Q (.panic c) a w)(n:Nat)(kind:Nat→Kind)(dep:Nat→List Nat)(hm:P.follows .mixedOrders=true)
 (hE:jh l es=true)(hB:ie .any l'.toArray n dep=true)
 (h:∀ w0:World,Ext w w0→w0.heap.size=w.heap.size→(∀ p,w0.cell? p=w.cell? p)→(∀ p,w0.frozen? p=w.frozen? p) →
   wpF P l'.toArray w0 kind dep (fun a' Γ B=>∀ w',Inv w0 Γ B w'→wpList P l'.toArray Q (l'.drop n) a' w') (l'.take n) 0 a (fun _ _=>True) (fun _=>False)) :
  (Code.region id l.toArray true).wp P Q a w:=by
 subst hl;have hsz:(fx l es).toArray.size=l.toArray.size:=by simp [gj]
 refine wp_region_any hm (ii es hE hQ _ _ _ _ (by simp) ?_);have:=lk n kind dep hB (h w.drew (Ext.drew w) rfl (fun _=>rfl) (fun _=>rfl));rw [hsz] at this;exact this
end
end Go.Proofs.YtafgmcimcbhhjaaGreat
/- Frac -/
namespace Go.Proofs.YtafgmcimcbhhjaaGreat
open Go.RowKit Go.Front Go.Num
attribute [local go_sem] XW.cell XW.frozen
theorem At(a b:Int):(a:Rat) / (b:Rat)=mkRat (sg (decide (a<0) != decide (b<0)) a.natAbs) b.natAbs:=by
 by_cases h:b<0
 ·have h1:sg (decide (a<0) != decide (b<0)) a.natAbs=-a:=by
   rw [decide_eq_true h];unfold sg;by_cases ha:a<0
   ·rw [decide_eq_true ha];simp;omega
   ·rw [decide_eq_false ha];simp;omega
  have h2:((b.natAbs:Nat):Int)=-b:=by omega
  rw [h1,Rat.mkRat_eq_div];rw [show ((b.natAbs:Nat):Rat)=(((b.natAbs:Nat):Int):Rat) from rfl,h2,Rat.intCast_neg,Rat.intCast_neg,Rat.div_def,Rat.div_def];have hb:(b:Rat)≠0:=by intro h0;have:=Rat.intCast_eq_zero_iff.1 h0;omega
  have hb2:-(b:Rat)≠0:=by intro h0;apply hb;grind
  have p1:=nYj _ hb;have p2:=nYj _ hb2;grind
 ·have h1:sg (decide (a<0) != decide (b<0)) a.natAbs=a:=by
   rw [decide_eq_false h];unfold sg;by_cases ha:a<0
   ·rw [decide_eq_true ha];simp;omega
   ·rw [decide_eq_false ha];simp;omega
  have h2:((b.natAbs:Nat):Int)=b:=by omega
  rw [h1,Rat.mkRat_eq_div];rw [show ((b.natAbs:Nat):Rat)=(((b.natAbs:Nat):Int):Rat) from rfl,h2]
theorem nN(n d:Int)(w:World)(h1:-9223372036854775808≤n)(h2:n≤9223372036854775807)(k1:-9223372036854775808≤d)(k2:d≤9223372036854775807)(hd:d≠0):au 86 [.int .i64 n,.int .i64 d] w RH.v (fun r w'=>aB w' r ((n:Rat) / (d:Rat))):=by
 have hdb:(d == 0)=false:=by simpa using hd
 have HQ:=Hi (At n d);have HD:Hid (d.natAbs≠0):=Hi zo;have HN1:Hid (n.natAbs<W32 ^ 2):=Hi (by unfold W32;omega);have HD1:Hid (d.natAbs<W32 ^ 2):=Hi (by unfold W32;omega);unfold au;go_enter Tryz.func86,Tryz.ntmps86
 go_wp2_with fail
 refine cM (pq n _ h1 h2) fun x1 w1 hE G1=>?_
 obtain ⟨hcw,hfw⟩:=ak hE;have hsw:=hE.size
 (try simp only [nXc] at hsw)
 have hs0:w.heap.size<w1.heap.size:=zo;have hB:=hE.block (heap_alloc_new _ _);have HB:Hid (w1.heap[w.heap.size]?=some _):=Hi hB;clear hB;have E1:=Hi ((Ext.al1).trans hE);have X1:=Hi hE
 go_wp2_with fail
 refine cM (pq d _ k1 k2) fun x2 w2 hE G2=>?_
 obtain ⟨hcw,hfw⟩:=ak hE;have hsw:=hE.size
 (try simp only [nXc] at hsw)
 have hs0:w.heap.size<w2.heap.size:=zo;replace HB:=hE.bl HB;have cR:=ae HB.out;have fR:=af HB.out;have E2:=Hi ((E1.out).trans hE);have X2:=Hi hE
 go_wp2_with fail
 refine cM (jQ x1 x2 _) fun x3 w3 hE G3=>?_
 obtain ⟨hcw,hfw⟩:=ak hE;have hsw:=hE.size
 (try simp only [nXc] at hsw)
 have hs0:w.heap.size<w3.heap.size:=zo;replace HB:=hE.bl HB;have cR:=ae HB.out;have fR:=af HB.out;have E3:=Hi ((E2.out).trans hE);have X3:=Hi hE;have RP:Hid (vH w3 ⟨x1.neg != x2.neg,x1.a,x1.n,x1.c,x2.a,x2.n,x2.c⟩ ((n:Rat) / (d:Rat))):=Hi (by
  have a1:=(G1.out.ext X2.out).ext X3.out;have a2:=G2.out.ext X3.out;refine ⟨_,_,a1.2,a2.2,?_,?_,?_,?_⟩
  ·rw [ag,ag,a1.1,a2.1];exact HQ.out
  ·rw [ag];exact HD.out
  ·exact U32.nle a1.2 HN1.out dZ
  ·exact U32.nle a2.2 HD1.out dZ)
 go_wp2_with fail
 refine cM (dV ⟨x1.neg != x2.neg,x1.a,x1.n,x1.c,x2.a,x2.n,x2.c⟩ _ _ RP.out) fun x4 w4 hE G4=>?_
 obtain ⟨hcw,hfw⟩:=ak hE;have hsw:=hE.size
 (try simp only [nXc] at hsw)
 have hs0:w.heap.size<w4.heap.size:=zo;replace HB:=hE.bl HB;have cR:=ae HB.out;have fR:=af HB.out;have E4:=Hi ((E3.out).trans hE);have X4:=Hi hE;have HX:=E4;go_wp2;have hF:=((((Fin.start (L:=w.heap.size) HX.out (aj HB.out rfl)).set zo (i:=0) (v:=.bool x4.neg) rfl).set zo (i:=1) (v:=.slice x4.a x4.n x4.c) rfl).set zo (i:=2) (v:=.slice x4.b x4.m x4.d) rfl);exact nXa (v:=x4.v) (by simp [results,Tryz.results86,go_sem,ae HB.out]) rfl ⟨x4,rfl,hF.ext,G4.out.keep hF.keep⟩
open Stab
def mdV(a b:Rat):Rat:=(a+b)*(((1:Int):Rat) / ((2:Int):Rat))
def IvC(w:World)(x:RH×RH)(a b:Rat):Prop:=aB w x.1 a∧aB w x.2 b
theorem IvC.ext{w w':World}{x:RH×RH}{a b:Rat}(h:IvC w x a b)(he:Ext w w'):IvC w' x a b:=⟨h.1.ext he,h.2.ext he⟩
instance {w w':World} {x:RH×RH} {a b:Rat}:Go.Front.Mv w w' (IvC w x a b) (IvC w' x a b):=⟨fun e h=>IvC.ext h e⟩

theorem n7(s t:RH)(a b:Rat)(T:Nat)(w:World)(hs:aS w s a)(ht:aS w t b)(za:Sz T a)(zb:Sz T b)(hT:T≤10000000):au 156 [IvV (s,t)] w RH.v (fun x w'=>aB w' x (mdV a b)):=by
 unfold mdV;have HX:=Hi (Ext.refl w);have HS:=Hi hs;have HT:=Hi ht;have ZA:=Hi (za.add zb);have ZH:Hid (Sz 2 (((1:Int):Rat) / ((2:Int):Rat))):=Hi ((Sz.int dZ).div (Sz.int dZ));clear hs ht za zb;unfold au;go_enter Tryz.func156,Tryz.ntmps156;obtain ⟨sn,sa,sl,sc,sb,sm,sd⟩:=s;obtain ⟨tn,ta,tl,tc,tb,tm,td⟩:=t
 go_upto_region 1 with fail
 refine hZ ?_;intro w1 hE B1 B2 hz_w1 hr_w1;refine mV3 hE ?_ HX HS HT;clear HX HS HT;intro HX HS HT;have hs_w1:=hE.size;replace b_B1:=bX3 B1;replace b_B2:=bX3 B2
 go_wp2_with fail
 refine cM (j1 ⟨sn,sa,sl,sc,sb,sm,sd⟩ ⟨tn,ta,tl,tc,tb,tm,td⟩ a b _ HS.out HT.out) fun x7 w7 hE G7=>?_
 refine mV5 hE ?_ B1 B2 HX HS HT;clear B1 B2 HX HS HT;intro B1 B2 HX HS HT;have hs_w7:=hE.size;replace b_B1:=bX3 B1;replace b_B2:=bX3 B2
 go_wp2_with fail
 refine cM (nN 1 2 _ dZ dZ dZ dZ dZ) fun x8 w8 hE G8=>?_
 refine mV6 hE ?_ G7 B1 B2 HX HS HT;clear G7 B1 B2 HX HS HT;intro G7 B1 B2 HX HS HT;have hs_w8:=hE.size;replace b_B1:=bX3 B1;replace b_B2:=bX3 B2
 go_wp2_with fail
 refine cM (bQ x7 x8 _ _ _ (G7.out.raw ZA.out zo) (G8.out.raw ZH.out dZ)) fun x9 w9 hE G9=>?_
 refine mV7 hE ?_ G8 G7 B1 B2 HX HS HT;clear G8 G7 B1 B2 HX HS HT;intro G8 G7 B1 B2 HX HS HT;have hs_w9:=hE.size;replace b_B1:=bX3 B1;replace b_B2:=bX3 B2;go_wp2;refine bi (F:=fun W=>bodyPost _ _ _ _ _ W) B2.out rfl ?_;intro w10 T;replace HX:=Hi (T.ext HX.out zo);replace HS:=Hi (HS.out.keep T.keep);replace HT:=Hi (HT.out.keep T.keep);replace B1:=Hi (T.rest _ _ zo B1.out);replace B2:=Hi (T.bx);replace G7:=Hi (G7.out.keep T.keep);replace G8:=Hi (G8.out.keep T.keep);replace G9:=Hi (G9.out.keep T.keep);have hs_w10:=nle T.size;have hr_w10:=nle T.size.symm;clear T;replace b_B1:=bX3 B1;replace b_B2:=bX3 B2;exact nXa (v:=RH.v x9) (by simp [results,Tryz.results156,go_sem,b_B2.1]) rfl ⟨x9,rfl,HX.out,G9.out⟩
theorem nX{E F:Nat→Prop}{w a b:World}(h:aV E w a)(m:aV F a b)(hs:∀ k,k<w.heap.size→F k→E k):aV E w b :=
 ⟨m.os.trans h.os,m.tape.trans h.tape,m.output.trans h.output,nXf h.size m.size,fun k hk he=>(m.block k (nXn hk h.size) (fun hf=>he (hs k hk hf))).trans (h.block k hk he)⟩
def fG(w:World)(p:Nat×(RH×RH))(a b:Rat):Prop:=IBk w p.1 [p.2.1,p.2.2] #[]∧IvC w p.2 a b
theorem fG.ext{w w':World}{p:Nat×(RH×RH)}{a b:Rat}(h:fG w p a b)(he:Ext w w'):fG w' p a b:=⟨h.1.ext he,h.2.ext he⟩
instance {w w':World} {p:Nat×(RH×RH)} {a b:Rat}:Go.Front.Mv w w' (fG w p a b) (fG w' p a b):=⟨fun e h=>fG.ext h e⟩

theorem Aq{w:World}{N:Nat}{x:RH×RH}(h:w.heap[N]?=some (.cells #[.bool x.1.neg,.slice x.1.a x.1.n x.1.c,.slice x.1.b x.1.m x.1.d,.bool x.2.neg,.slice x.2.a x.2.n x.2.c,.slice x.2.b x.2.m x.2.d] 38 (0,0))):IBk w N [x.1,x.2] #[]:=by
 unfold IBk;rw [h];rfl
theorem oY{P:Program}{o:Oper}{a:Act}{w:World}{T:TypeId}(x:RH×RH)(p q:Rat)(hx:IvC w x p q)(hT:T=38)
 (hrun:(execOp a.eval o).run P w=.ok (.value (.slice (some ⟨w.heap.size,0,none⟩) 1 1)) (w.alloc (.cells #[.bool x.1.neg,.slice x.1.a x.1.n x.1.c,.slice x.1.b x.1.m x.1.d,.bool x.2.neg,.slice x.2.a x.2.n x.2.c,.slice x.2.b x.2.m x.2.d] T))) :
  eA P o a w (fun p:Nat×(RH×RH)=>.slice (some ⟨p.1,0,none⟩) 1 1) (fun y w'=>fG w' y p q):=by
 subst hT;unfold eA;rw [hrun];exact ⟨Ext.alloc _ _,(w.heap.size,x),rfl,Aq (heap_alloc_new _ _),hx.ext (Ext.alloc _ _)⟩
theorem fG.at{w:World}{p:Nat×(RH×RH)}{a b:Rat}(h:fG w p a b):∀ k,k<1*2→RAt w p.1 (0+k*3) ([p.2.1,p.2.2].getD k default):=fun k hk=>by
 rw [Nat.zero_add];exact h.1.at hk
theorem fG.vals{w:World}{p:Nat×(RH×RH)}{a b:Rat}(h:fG w p a b):dX aB w [p.2.1,p.2.2] [a,b]:=⟨rfl,fun k hk=>by
 have hk:k<2:=hk;have:k=0∨k=1:=by omega
 rcases this with rfl|rfl
 ·exact h.2.1
 ·exact h.2.2⟩
open Sg
structure Srx (b L:Nat) (w w':World):Prop where
 keep:gP w w'
 mods:aV (fun k=>k=b∨k=L) w w'
theorem Srx.of_ext{b L:Nat}{w w':World}(h:Ext w w'):Srx b L w w':=⟨dR h,aV.of_ext h⟩
theorem Srx.trans{b L L':Nat}{x y z:World}(h:Srx b L x y)(k:Srx b L' y z)(hL:L'=L∨x.heap.size≤L'):Srx b L x z :=
 ⟨h.keep.trans k.keep,nX h.mods k.mods fun i hi e=>e.elim Or.inl fun e=>hL.elim (fun e2=>Or.inr (e.trans e2)) (fun e2=>by omega)⟩
theorem Srx.rest{b L k:Nat}{w w':World}{o:Obj}(h:Srx b L w w')(hb:k≠b)(hl:k≠L)(ho:w.heap[k]?=some o):w'.heap[k]?=some o:=h.mods.blk (fun e=>e.elim hb hl) ho
theorem Srx.ext{b L:Nat}{w0 w w':World}(h:Srx b L w w')(he:Ext w0 w)(hb:w0.heap.size≤b)(hl:w0.heap.size≤L):Ext w0 w':=Ext.mods he h.mods (fun k e=>e.elim (fun e=>by omega) (fun e=>by omega))
theorem Srx.size{b L:Nat}{w w':World}(h:Srx b L w w'):w.heap.size≤w'.heap.size:=h.mods.size
theorem Srx.put{b L:Nat}{w w1 w2:World}{T:TypeId}{cs:Array Value}(h:Srx b L w w1)(T2:dK w1 b T cs w2):Srx b L w w2:=⟨h.keep.trans T2.keep,aV.put h.mods T2 (Or.inl (Or.inl rfl))⟩
structure SrA (w:World) (b L:Nat) (c:SH) (u:RH) (x:SH) (qs:List Rat):Prop where
 bx:w.heap[b]?=some (.cells #[.slice c.a c.n c.c,.bool u.neg,.slice u.a u.n u.c,.slice u.b u.m u.d,.slice x.a x.n x.c] 106 (0,0))
 own:jo w (fun k=>k=L∧k≠b) x.v x.n qs
 lt:L<w.heap.size
theorem SrA.ext{w w':World}{b L:Nat}{c:SH}{u:RH}{x:SH}{qs:List Rat}(h:SrA w b L c u x qs)(he:Ext w w'):SrA w' b L c u x qs:=⟨he.block h.bx,h.own.ext he,nXn h.lt he.size⟩
instance {w w':World} {b L:Nat} {c:SH} {u:RH} {x:SH} {qs:List Rat}:Go.Front.Mv w w' (SrA w b L c u x qs) (SrA w' b L c u x qs):=⟨fun e h=>SrA.ext h e⟩

theorem SrA.blt{w:World}{b L:Nat}{c:SH}{u:RH}{x:SH}{qs:List Rat}(h:SrA w b L c u x qs):b<w.heap.size:=(nXb.1 h.bx).1
theorem BN{w:World}{D:Nat→Prop}{b:Nat}{v:Value}{n:Nat}{qs:List Rat}(h:jo w D v (n+1) qs)(hb:¬ D b):∃ L,jo w (fun k=>k=L∧k≠b) v (n+1) qs∧D L∧L<w.heap.size:=by
 obtain ⟨rs,h1|⟨L,cap,re,h1,h2,h3,h4⟩,h5⟩:=h
 ·exact absurd h1.2.2 zo
 ·exact ⟨L,⟨rs,Or.inr ⟨L,cap,re,h1,⟨rfl,fun e=>hb (e ▸ h2)⟩,h3,h4⟩,h5⟩,h2,h3.lt⟩
def SxP(b L:Nat)(c:SH)(u:RH)(qs:List Rat)(w:World)(e:Ending)(w':World):Prop :=
 ∃ (x:SH) (L':Nat),e=.returned (.tuple #[])∧SrA w' b L' c u x qs∧Srx b L w w'∧(L'=L∨w.heap.size≤L')
theorem Ab{w1:World}{b:Nat}{T:TypeId}{c0 c1 c2 c3 c4 v4:Value}{F:World→Prop}(hb:w1.heap[b]?=some (.cells #[c0,c1,c2,c3,c4] T (0,0)))(hn:#[c0,c1,c2,c3,c4].toList.all fj=true)(h:∀ w2,dK w1 b T #[c0,c1,c2,c3,v4] w2→F w2):F (w1.setCell ⟨b,4,none⟩ v4) :=
 h _ (dK.of (nXb.1 hb).1 (aj hb hn) (aV.setCell w1 ⟨b,4,none⟩ v4) (by simp [World.setCell]) (aH hb 4 v4))
theorem kS{w1:World}{b:Nat}{T:TypeId}{c0 c1 c2 c3 c4 v0 v1 v2 v3 v4:Value}{F:World→Prop}(hb:w1.heap[b]?=some (.cells #[c0,c1,c2,c3,c4] T (0,0)))(hn:#[c0,c1,c2,c3,c4].toList.all fj=true)(h:∀ w2,dK w1 b T #[v0,v1,v2,v3,v4] w2→F w2) :
  F (((((w1.setCell ⟨b,0,none⟩ v0).setCell ⟨b,1,none⟩ v1).setCell ⟨b,2,none⟩ v2).setCell ⟨b,3,none⟩ v3).setCell ⟨b,4,none⟩ v4) :=
 h _ (dK.of (nXb.1 hb).1 (aj hb hn) (((((aV.setCell w1 ⟨b,0,none⟩ v0).trans (aV.setCell _ ⟨b,1,none⟩ v1)).trans (aV.setCell _ ⟨b,2,none⟩ v2)).trans (aV.setCell _ ⟨b,3,none⟩ v3)).trans (aV.setCell _ ⟨b,4,none⟩ v4)) (by simp [World.setCell]) (aH (aH (aH (aH (aH hb 0 v0) 1 v1) 2 v2) 3 v3) 4 v4))
abbrev PlV(r:RH)(n:Int)(t:Bool):Value:=.agg #[.bool r.neg,.slice r.a r.n r.c,.slice r.b r.m r.d,.int .i64 n,.bool t]
theorem jw(b:Nat)(c:SH)(u:RH)(v:Value)(ms:List (List Rat))(K:Nat)(t:RH)(x:Rat)(T:Nat)(w:World)(hb:w.heap[b]?=some (.cells #[.slice c.a c.n c.c,.bool u.neg,.slice u.a u.n u.c,.slice u.b u.m u.d,v] 106 (0,0)))(hc:ChK w c ms K)(h0:0<ms.length)(ht:aB w t x)(hx:Sz T x)(hT:1≤T)(hT4:T≤500000)(hTm:∀ m ∈ ms,T*m.length≤1000000) :
  au 87 [ptr b,t.v] w (fun _:Unit=>PlV t (cw ms x) (rtV ms x)) (fun _ _=>True):=by
 obtain ⟨va,vn,vc⟩:=c;obtain ⟨un,ua,ul,uc,ub,um,ud⟩:=u;obtain ⟨tn,ta,tl,tc,tb,tm,td⟩:=t;have HX:=Hi (Ext.refl w);have HC:=Hi hc;have HT:=Hi ht;have ZX:=Hi hx;have HTM:=Hi hTm;have BS:=Hi hb;have hbw:b<w.heap.size:=(nXb.1 hb).1;have hl:=hc.ln;have v1:=gW ms x;obtain ⟨x1,hx1⟩:∃ x1,x1=cw ms x:=⟨_,rfl⟩;obtain ⟨r1,hr1⟩:∃ r1,r1=rtV ms x:=⟨_,rfl⟩;have HV1:=Hi hx1;have HR1:=Hi hr1;rw [←hx1] at v1 ⊢;rw [←hr1];clear hc ht hx hTm hb hx1 hr1;simp only [ptr] at *
 unfold au;go_enter Tryz.func87,Tryz.ntmps87;replace b_BS:=bX3 BS
 go_upto_region 1 with fail
 refine hZ ?_;intro w1 hE B3 B4 hz_w1 hr_w1;refine mV4 hE ?_ HX HC HT BS;clear HX HC HT BS;intro HX HC HT BS;have hs_w1:=hE.size;replace b_BS:=bX3 BS;replace b_B3:=bX3 B3;replace b_B4:=bX3 B4;refine ai 13 (fun opIx=>match opIx with
  | 6=>sU (.int .i64 (x1:Nat))
  | 12=>sU (.bool r1)
  | _=>.quiet) (fun _=>[]) kZ kZ (fun w0 he0 hz0 hc0 hf0=>?_)
 replace he0:=Hi he0;simp only [pT]
 repeat (first|(refine wpq fun K h=>?_;go_big_quiet_op;refine h _ ?_;clear h K)|(refine br rfl rfl rfl rfl ?_;simp only [pS]))
 refine wps he0 (fun w1 hW hG=>?_) fun x20=>?_
 ·exact spc [CV ⟨va,vn,vc⟩,RH.v ⟨tn,ta,tl,tc,tb,tm,td⟩] Tryz.func71 ((by rw [HV1.out];exact pW ⟨va,vn,vc⟩ ms K ⟨tn,ta,tl,tc,tb,tm,td⟩ x T _ (HC.out.ext hW) (HT.out.ext hW) ZX.out hT hT4 HTM.out))
 simp only [pS]
 repeat (first|(refine wpq fun K h=>?_;go_big_quiet_op;refine h _ ?_;clear h K)|(refine br rfl rfl rfl rfl ?_;simp only [pS]))
 refine wps he0 (fun w1 hW hG=>?_) fun x21=>?_
 ·exact spc [CV ⟨va,vn,vc⟩,RH.v ⟨tn,ta,tl,tc,tb,tm,td⟩] Tryz.func72 ((by rw [HR1.out];exact kv ⟨va,vn,vc⟩ ms K ⟨tn,ta,tl,tc,tb,tm,td⟩ x T _ (HC.out.ext hW) h0 (HT.out.ext hW) ZX.out hT hT4 HTM.out))
 simp only [pS]
 repeat (first|(refine wpq fun K h=>?_;go_big_quiet_op;refine h _ ?_;clear h K)|(refine br rfl rfl rfl rfl ?_;simp only [pS]))
 refine aq ?_;intro w2 hI;have hE:=he0.out.trans hI.ext;clear hI he0 hz0 hc0 hf0;refine mV6 hE ?_ B3 B4 HX BS HC HT;clear B3 B4 HX BS HC HT;intro B3 B4 HX BS HC HT;have hs_w2:=hE.size;replace b_BS:=bX3 BS;replace b_B3:=bX3 B3;replace b_B4:=bX3 B4;simp only [pD];go_wp2;clear HC;refine kS (F:=fun W=>bodyPost _ _ _ _ _ W) B4.out rfl ?_;intro w3 T;replace HX:=Hi (T.ext HX.out zo);replace HT:=Hi (HT.out.keep T.keep);replace BS:=Hi (T.rest _ _ zo BS.out);replace B3:=Hi (T.rest _ _ zo B3.out);replace B4:=Hi (T.bx);have hs_w3:=nle T.size;have hr_w3:=nle T.size.symm;clear T;replace b_BS:=bX3 BS;replace b_B3:=bX3 B3;replace b_B4:=bX3 B4;exact nXa (v:=PlV ⟨tn,ta,tl,tc,tb,tm,td⟩ (x1:Nat) r1) (by simp [results,Tryz.results87,go_sem,b_B4.1]) rfl ⟨(),rfl,HX.out,trivial⟩
theorem eO(b L:Nat)(c:SH)(u:RH)(x:SH)(qs:List Rat)(s t:RH)(lo hi:Rat)(T:Nat)(w:World)(h:SrA w b L c u x qs)(hn:x.n≤100000)(hs:aB w s lo)(ht:aB w t hi)(zs:Sz T lo)(zt:Sz T hi)(hT:T≤134217728)(hle:lo≤hi) :
  Calls Tryz.prog 88 #[ptr b,s.v,t.v] w (SxP b L c u (qs++[lo,hi]) w):=by
 obtain ⟨va,vn,vc⟩:=c;obtain ⟨un,ua,ul,uc,ub,um,ud⟩:=u;obtain ⟨sn,sa,sl,sc,sb,sm,sd⟩:=s;obtain ⟨tn,ta,tl,tc,tb,tm,td⟩:=t;obtain ⟨xa,xn,xc⟩:=x;have HX:=Hi (Ext.refl w);have HS:=Hi hs;have HT:=Hi ht;have ZS:=Hi zs;have ZT:=Hi zt;have BS:=Hi h.bx;have HO:=Hi h.own;have hL:=h.lt;have hbl:=h.blt;have HLE:=Hi hle;clear hs ht zs zt h hle;simp only [SH.v,ptr] at *
 go_enter Tryz.func88,Tryz.ntmps88;replace b_BS:=bX3 BS
 go_upto_region 1 with fail
 refine hZ ?_;intro w1 hE B4 B5 hz_w1 hr_w1;refine mV5 hE ?_ HX HS HT BS HO;clear HX HS HT BS HO;intro HX HS HT BS HO;have hs_w1:=hE.size;replace b_BS:=bX3 BS;replace b_B4:=bX3 B4;replace b_B5:=bX3 B5;refine bG [(9,0)] _ (by simp only [fx,gR,List.push_toArray,List.cons_append,List.nil_append];exact rfl) (by intro c a d v w h;cases d <;> exact h) 9 (fun opIx=>match opIx with
  | 7=>.spec (RH×RH) (default) (IvV) (fun x w'=>IvC w' x lo hi)
  | 8=>.spec (Nat×(RH×RH)) ((0,default)) (fun p=>.slice (some ⟨p.1,0,none⟩) 1 1) (fun p w'=>fG w' p lo hi)
  | _=>.quiet) (fun|8=>[7]|_=>[]) kZ kZ kZ (fun w0 he0 hz0 hc0 hf0=>?_)
 replace he0:=Hi he0;simp only [pT]
 repeat (first|(refine wpq fun K h=>?_;go_big_quiet_op;refine h _ ?_;clear h K)|(refine br rfl rfl rfl rfl ?_;simp only [pS]))
 refine wps he0 (fun w1 hW hG=>?_) fun x30=>?_
 ·exact spc [RH.v ⟨sn,sa,sl,sc,sb,sm,sd⟩,RH.v ⟨tn,ta,tl,tc,tb,tm,td⟩] Tryz.func106 ((by have h:=l9 _ _ _ _ _ ((HS.out.ext hW).raw ZS.out zo) ((HT.out.ext hW).raw ZT.out zo);rw [lE HLE.out,lF HLE.out] at h;exact h))
 simp only [pS]
 repeat (first|(refine wpq fun K h=>?_;go_big_quiet_op;refine h _ ?_;clear h K)|(refine br rfl rfl rfl rfl ?_;simp only [pS]))
 refine wps he0 (fun w1 hW hG=>?_) fun x31=>?_
 ·have g30:=gS (hG 7 dZ);exact oY x30 _ _ g30 rfl (by simp [execOp,go_sem])
 simp only [pS]
 repeat (first|(refine wpq fun K h=>?_;go_big_quiet_op;refine h _ ?_;clear h K)|(refine br rfl rfl rfl rfl ?_;simp only [pS]))
 refine aq ?_;intro w2 hI;have hE:=he0.out.trans hI.ext;have G30:=gT (hI.facts 7);have G31:=gT (hI.facts 8);clear hI he0 hz0 hc0 hf0;refine mV7 hE ?_ B4 B5 HX HS HT BS HO;clear B4 B5 HX HS HT BS HO;intro B4 B5 HX HS HT BS HO;have hs_w2:=hE.size;replace b_BS:=bX3 BS;replace b_B4:=bX3 B4;replace b_B5:=bX3 B5;simp only [pD]
 go_wp2_with (at_builtin;refine kk rfl (.tmp 10) (.tmp 14) 54 Tryz.underlying54 rfl (fun k=>(k=L∧k≠b)∨w2.heap.size≤k) _ xn qs x31.1 0 1 1 [x31.2.1,x31.2.2] [lo,hi] rfl (HO.out.mono (fun k _ h=>Or.inl h)) rfl rfl dZ G31.out.at G31.out.vals zo dZ (fun k hk=>Or.inr zo) ?_;intro s' y3 q1 q2 q3;have hBC:=q2.blk (fun h=>h.elim (fun h=>h.2 rfl) (fun h=>by omega)) BS.out;have c6:=ae hBC;have f6:=af hBC;have l6:=(nXb.1 hBC).1)
 have hw2:w.heap.size≤w2.heap.size:=zo;have hT3:Srx b L w2 y3:=⟨q3,nX (E:=fun k=>k=b∨k=L) (aV.refl _ w2) q2 (fun k hk e=>e.elim (fun e=>Or.inr e.1) (fun e=>by omega))⟩;obtain ⟨L2,hO3,hL2,hL3⟩:=BN (b:=b) q1 (fun h=>h.elim (fun h=>h.2 rfl) (fun h=>by omega));have HO3:=Hi hO3;have HS3:=Hi (Srx.trans (Srx.of_ext (b:=b) (L:=L) HX.out) hT3 (Or.inl rfl));have HS4:=Hi hT3;clear q1 q2 q3 hT3 hO3;go_wp2;refine Ab (F:=fun W=>bodyPost _ _ _ _ _ W) hBC rfl ?_;intro w4 T;have hsn:s'.n=xn+1:=(jo.can HO3.out).1;have hbx:=T.bx;have hsz:=T.size;have HF:Hid (SxP b L ⟨va,vn,vc⟩ ⟨un,ua,ul,uc,ub,um,ud⟩ (qs++[lo,hi]) w (.returned (.tuple #[])) w4):=Hi ⟨s',L2,rfl,⟨hbx,by rw [hsn];exact HO3.out.put T (fun e=>e.2 rfl),zo⟩,HS3.out.put T,hL2.imp (fun h=>h.1) (fun h=>by omega)⟩;clear T hbx hBC c6 f6 l6;exact bodyPost_end (results_none rfl _ _ _) rfl HF.out
end Go.Proofs.YtafgmcimcbhhjaaGreat
