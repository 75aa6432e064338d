/- PrototypeValid is proved: for every input the law returns true, and each argument reads afterwards as it read before. Conditions: none. -/
import Derived.Test.YtafgmcimcbhhjaaGreatQBK23
import Derived.Test.YtafgmcimcbhhjaaGreatQBJfA
import Derived.Test.YtafgmcimcbhhjaaGreatQBJfB
import Derived.Test.YtafgmcimcbhhjaaGreatQBJfC
import Derived.Test.YtafgmcimcbhhjaaGreatQBJfD
set_option linter.unusedVariables false
set_option maxRecDepth 100000
namespace Go.Proofs.YtafgmcimcbhhjaaGreat.prototypeValid
open Go.ChangeShapes Go.WideShapes Go.ChangeAt Go.RowKit Go.Front Go.Joins
theorem lifted(os:Os)(started:os.Started)(H:Type)(enc:TypeId×Value→H) :
  ReturnsInHanded {} Tryz.checked os 6 .any (Rows.prototypeValidSpec.pre6 enc Tryz.prog Tryz.f6 Rows.prototypeValidRow.domain false) (Rows.prototypeValidSpec.post enc Tryz.prog Tryz.f6 false true false false):=by
 refine returnsInHanded_of_change (C:=Tryz.checked) own started kZ Tryz.func6
  (ChangeSpec.witness6 (enc:=enc) (C:=Tryz.checked) false ⟨#[],#[.int .i64 0,.int .i64 0,.int .i64 0,.int .i64 0,.int .i64 0],[]⟩ 8 kZ kZ kZ kZ) ?_
 intro W base args ds gs before hval0 hW hcnd _;have hval:∀ (j:Nat) t v,Tryz.f6.params[j]?=some t→args[j]?=some v→Value.okWide Tryz.prog W .any base t v:=hval0;have hW':=hW;obtain ⟨p,q,hA0,hV,rfl,hfz,hnd⟩:=hW;have hA:DataW.TrodAll enc Tryz.prog W 0 (fun _=>true) true Tryz.f6.params.toList args.toList ds p:=hA0;rw [Tryz.params6] at hA hval;obtain ⟨v0,vs0,d0,ds0,p0,q0,hargs,rfl,rfl,h0,r0⟩:=trodAll_cons hA;obtain ⟨v1,vs1,d1,ds1,p1,q1,rfl,rfl,rfl,h1,r1⟩:=trodAll_cons r0;obtain ⟨v2,vs2,d2,ds2,p2,q2,rfl,rfl,rfl,h2,r2⟩:=trodAll_cons r1;obtain ⟨v3,vs3,d3,ds3,p3,q3,rfl,rfl,rfl,h3,r3⟩:=trodAll_cons r2;obtain ⟨v4,vs4,d4,ds4,p4,q4,rfl,rfl,rfl,h4,r4⟩:=trodAll_cons r3;obtain ⟨rfl,rfl,rfl⟩:=trodAll_nil r4;obtain rfl:args=#[v0,v1,v2,v3,v4]:=by cases args;simp_all
 obtain ⟨rfl,rfl⟩:=trodVars_none hV;have k0:=h0;have lt0:∀ x ∈ p0,x.block<W.heap.size:=by obtain ⟨m,hm⟩:=k0;exact DataW.trod_lt m _ _ _ hm
 have k1:=h1;have lt1:∀ x ∈ p1,x.block<W.heap.size:=by obtain ⟨m,hm⟩:=k1;exact DataW.trod_lt m _ _ _ hm
 have k2:=h2;have lt2:∀ x ∈ p2,x.block<W.heap.size:=by obtain ⟨m,hm⟩:=k2;exact DataW.trod_lt m _ _ _ hm
 have k3:=h3;have lt3:∀ x ∈ p3,x.block<W.heap.size:=by obtain ⟨m,hm⟩:=k3;exact DataW.trod_lt m _ _ _ hm
 have k4:=h4;have lt4:∀ x ∈ p4,x.block<W.heap.size:=by obtain ⟨m,hm⟩:=k4;exact DataW.trod_lt m _ _ _ hm
 obtain ⟨z0,rfl,rfl,rfl,w0⟩:=open_int Tryz.underlying3 (hval 0 3 v0 rfl rfl) h0;obtain ⟨hk0,hj0⟩:=jw w0;obtain ⟨z1,rfl,rfl,rfl,w1⟩:=open_int Tryz.underlying3 (hval 1 3 v1 rfl rfl) h1;obtain ⟨hk1,hj1⟩:=jw w1;obtain ⟨z2,rfl,rfl,rfl,w2⟩:=open_int Tryz.underlying3 (hval 2 3 v2 rfl rfl) h2;obtain ⟨hk2,hj2⟩:=jw w2;obtain ⟨z3,rfl,rfl,rfl,w3⟩:=open_int Tryz.underlying3 (hval 3 3 v3 rfl rfl) h3;obtain ⟨hk3,hj3⟩:=jw w3;obtain ⟨z4,rfl,rfl,rfl,w4⟩:=open_int Tryz.underlying3 (hval 4 3 v4 rfl rfl) h4;obtain ⟨hk4,hj4⟩:=jw w4;clear hA0 hval0;refine (qD z0 z1 z2 z3 z4 W hk0 hj0 hk1 hj1 hk2 hj2 hk3 hj3 hk4 hj4).mono fun e W' hpost=>?_
 obtain ⟨_,he,bel,-⟩:=hpost;subst he;exact ⟨_,rfl,_,_,_,[],_,[],hW',trodAll_mk1 (shut_bool Tryz.underlying4 _),(trodAll_cons_mk (Below.trod mr kZ (of_decide_eq_true kZ) k0 bel lt0) (trodAll_cons_mk (Below.trod mr kZ (of_decide_eq_true kZ) k1 bel lt1) (trodAll_cons_mk (Below.trod mr kZ (of_decide_eq_true kZ) k2 bel lt2) (trodAll_cons_mk (Below.trod mr kZ (of_decide_eq_true kZ) k3 bel lt3) (trodAll_cons_mk (Below.trod mr kZ (of_decide_eq_true kZ) k4 bel lt4) trodAll_mk0))))),rfl,Below.frame bel _,fun h=>by cases h⟩

theorem jf9:(Rows.prototypeValidRow.inPlace == Tryz.pinned.checked.prog.inPlace 6)=true:=by kernel_rfl
theorem It:(Rows.prototypeValidRow.unfollowed == Tryz.pinned.checked.prog.unfollowed 6)=true:=by kernel_rfl
theorem Is:(Rows.prototypeValidRow.recurses == Tryz.pinned.checked.prog.recurses 6)=true:=by kernel_rfl
theorem Ir:(Rows.prototypeValidRow.named == Tryz.pinned.checked.prog.varsNamed 6)=true:=by kernel_rfl
theorem fct:joinedFacts Tryz.pinned.checked.prog 6 Tryz.f6 Rows.prototypeValidSpec Rows.prototypeValidRow=true:=by
 unfold joinedFacts;refine jq (jq (jq (jq (jq (jq (jq (jq (jq (jq (jq (jq (jq (jq (jq (jq (jq (jq (jq (jq (jq (jq (jq (jq (jq (jq (jq (jq (jq (jq (jq (?_) ?_) ?_) ?_) ?_) ?_) ?_) ?_) ?_) ?_) ?_) ?_) ?_) ?_) ?_) ?_) ?_) ?_) ?_) ?_) ?_) ?_) ?_) ?_) ?_) ?_) ?_) ?_) ?_) ?_) ?_) ?_
 ·kernel_rfl
 ·exact Cx
 ·exact Cu
 ·kernel_rfl
 ·kernel_rfl
 ·kernel_rfl
 ·kernel_rfl
 ·kernel_rfl
 ·kernel_rfl
 ·exact jf9
 ·exact It
 ·exact Is
 ·exact Ir
 ·kernel_rfl
 ·kernel_rfl
 ·kernel_rfl
 ·kernel_rfl
 ·kernel_rfl
 ·kernel_rfl
 ·kernel_rfl
 ·kernel_rfl
 ·kernel_rfl
 ·kernel_rfl
 ·kernel_rfl
 ·exact zM
 ·exact EP
 ·rw [Cw];kernel_rfl
 ·rw [Cv];kernel_rfl
 ·kernel_rfl
 ·kernel_rfl
 ·kernel_rfl
 ·kernel_rfl
theorem over:Rows.prototypeValidRow.holds Tryz.pinned (OpenSpec.ofChange Rows.prototypeValidSpec) :=
 OpenClaim.holds_of_wide 6 Tryz.f6 rfl rfl rfl rfl rfl rfl rfl ⟨rfl,rfl,rfl,rfl,rfl⟩ rfl rfl rfl rfl rfl kZ Tryz.func6 fct
  (of_decide_eq_true kZ) (by unfold Func.isWrapper;first|(rw [if_pos (by decide +kernel)];kernel_rfl)|(rw [if_neg (by decide +kernel)];exact ⟨rfl,rfl⟩))
  (fun os started H enc _=>lifted os started H enc)

theorem proved:Rows.PrototypeValidSaid:=over
end Go.Proofs.YtafgmcimcbhhjaaGreat.prototypeValid
