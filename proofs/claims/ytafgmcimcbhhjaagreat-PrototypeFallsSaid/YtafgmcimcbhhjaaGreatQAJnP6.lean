/- PrototypeFalls is proved: for every input the law returns true, and each argument reads afterwards as it read before. Conditions: none. -/
import Derived.Test.YtafgmcimcbhhjaaGreatQAK22
import Derived.Test.YtafgmcimcbhhjaaGreatQAJfA
import Derived.Test.YtafgmcimcbhhjaaGreatQAJfB
import Derived.Test.YtafgmcimcbhhjaaGreatQAJfC
import Derived.Test.YtafgmcimcbhhjaaGreatQAJfD
set_option linter.unusedVariables false
set_option maxRecDepth 100000
namespace Go.Proofs.YtafgmcimcbhhjaaGreat.prototypeFalls
open Go.ChangeShapes Go.WideShapes Go.ChangeAt Go.RowKit Go.Front Go.Joins
theorem lifted(os:Os)(started:os.Started)(H:Type)(enc:TypeId×Value→H) :
  ReturnsInHanded {} Tryz.checked os 9 .any (Rows.prototypeFallsSpec.pre6 enc Tryz.prog Tryz.f9 Rows.prototypeFallsRow.domain false) (Rows.prototypeFallsSpec.post enc Tryz.prog Tryz.f9 false true false false):=by
 refine returnsInHanded_of_change (C:=Tryz.checked) own started kZ Tryz.func9
  (ChangeSpec.witness6 (enc:=enc) (C:=Tryz.checked) false ⟨#[],#[.int .i64 0,.int .i64 0,.int .i64 0],[]⟩ 8 kZ kZ kZ kZ) ?_
 intro W base args ds gs before hval0 hW hcnd _;have hval:∀ (j:Nat) t v,Tryz.f9.params[j]?=some t→args[j]?=some v→Value.okWide Tryz.prog W .any base t v:=hval0;have hW':=hW;obtain ⟨p,q,hA0,hV,rfl,hfz,hnd⟩:=hW;have hA:DataW.TrodAll enc Tryz.prog W 0 (fun _=>true) true Tryz.f9.params.toList args.toList ds p:=hA0;rw [Tryz.params9] at hA hval;obtain ⟨v0,vs0,d0,ds0,p0,q0,hargs,rfl,rfl,h0,r0⟩:=trodAll_cons hA;obtain ⟨v1,vs1,d1,ds1,p1,q1,rfl,rfl,rfl,h1,r1⟩:=trodAll_cons r0;obtain ⟨v2,vs2,d2,ds2,p2,q2,rfl,rfl,rfl,h2,r2⟩:=trodAll_cons r1;obtain ⟨rfl,rfl,rfl⟩:=trodAll_nil r2;obtain rfl:args=#[v0,v1,v2]:=by cases args;simp_all
 obtain ⟨rfl,rfl⟩:=trodVars_none hV;have k0:=h0;have lt0:∀ x ∈ p0,x.block<W.heap.size:=by obtain ⟨m,hm⟩:=k0;exact DataW.trod_lt m _ _ _ hm
 have k1:=h1;have lt1:∀ x ∈ p1,x.block<W.heap.size:=by obtain ⟨m,hm⟩:=k1;exact DataW.trod_lt m _ _ _ hm
 have k2:=h2;have lt2:∀ x ∈ p2,x.block<W.heap.size:=by obtain ⟨m,hm⟩:=k2;exact DataW.trod_lt m _ _ _ hm
 obtain ⟨z0,rfl,rfl,rfl,w0⟩:=open_int Tryz.underlying3 (hval 0 3 v0 rfl rfl) h0;obtain ⟨hk0,hj0⟩:=nj w0;obtain ⟨z1,rfl,rfl,rfl,w1⟩:=open_int Tryz.underlying3 (hval 1 3 v1 rfl rfl) h1;obtain ⟨hk1,hj1⟩:=nj w1;obtain ⟨z2,rfl,rfl,rfl,w2⟩:=open_int Tryz.underlying3 (hval 2 3 v2 rfl rfl) h2;obtain ⟨hk2,hj2⟩:=nj w2;clear hA0 hval0;refine (wG z0 z1 z2 W hk0 hj0 hk1 hj1 hk2 hj2).mono fun e W' hpost=>?_
 obtain ⟨_,he,bel,-⟩:=hpost;subst he;exact ⟨_,rfl,_,_,_,[],_,[],hW',trodAll_mk1 (shut_bool Tryz.underlying4 _),(trodAll_cons_mk (Below.trod qG kZ (of_decide_eq_true kZ) k0 bel lt0) (trodAll_cons_mk (Below.trod qG kZ (of_decide_eq_true kZ) k1 bel lt1) (trodAll_cons_mk (Below.trod qG kZ (of_decide_eq_true kZ) k2 bel lt2) trodAll_mk0))),rfl,Below.frame bel _,fun h=>by cases h⟩

theorem jf9:(Rows.prototypeFallsRow.inPlace == Tryz.pinned.checked.prog.inPlace 9)=true:=by kernel_rfl
theorem Gk:(Rows.prototypeFallsRow.unfollowed == Tryz.pinned.checked.prog.unfollowed 9)=true:=by kernel_rfl
theorem Gj:(Rows.prototypeFallsRow.recurses == Tryz.pinned.checked.prog.recurses 9)=true:=by kernel_rfl
theorem Gi:(Rows.prototypeFallsRow.named == Tryz.pinned.checked.prog.varsNamed 9)=true:=by kernel_rfl
theorem fct:joinedFacts Tryz.pinned.checked.prog 9 Tryz.f9 Rows.prototypeFallsSpec Rows.prototypeFallsRow=true:=by
 unfold joinedFacts;refine i7 (i7 (i7 (i7 (i7 (i7 (i7 (i7 (i7 (i7 (i7 (i7 (i7 (i7 (i7 (i7 (i7 (i7 (i7 (i7 (i7 (i7 (i7 (i7 (i7 (i7 (i7 (i7 (i7 (i7 (i7 (?_) ?_) ?_) ?_) ?_) ?_) ?_) ?_) ?_) ?_) ?_) ?_) ?_) ?_) ?_) ?_) ?_) ?_) ?_) ?_) ?_) ?_) ?_) ?_) ?_) ?_) ?_) ?_) ?_) ?_) ?_) ?_
 ·kernel_rfl
 ·exact BF
 ·exact BC
 ·kernel_rfl
 ·kernel_rfl
 ·kernel_rfl
 ·kernel_rfl
 ·kernel_rfl
 ·kernel_rfl
 ·exact jf9
 ·exact Gk
 ·exact Gj
 ·exact Gi
 ·kernel_rfl
 ·kernel_rfl
 ·kernel_rfl
 ·kernel_rfl
 ·kernel_rfl
 ·kernel_rfl
 ·kernel_rfl
 ·kernel_rfl
 ·kernel_rfl
 ·kernel_rfl
 ·kernel_rfl
 ·exact yR
 ·exact DP
 ·rw [BE];kernel_rfl
 ·rw [BD];kernel_rfl
 ·kernel_rfl
 ·kernel_rfl
 ·kernel_rfl
 ·kernel_rfl
theorem over:Rows.prototypeFallsRow.holds Tryz.pinned (OpenSpec.ofChange Rows.prototypeFallsSpec) :=
 OpenClaim.holds_of_wide 9 Tryz.f9 rfl rfl rfl rfl rfl rfl rfl ⟨rfl,rfl,rfl,rfl,rfl⟩ rfl rfl rfl rfl rfl kZ Tryz.func9 fct
  (of_decide_eq_true kZ) (by unfold Func.isWrapper;first|(rw [if_pos (by decide +kernel)];kernel_rfl)|(rw [if_neg (by decide +kernel)];exact ⟨rfl,rfl⟩))
  (fun os started H enc _=>lifted os started H enc)

theorem proved:Rows.PrototypeFallsSaid:=over
end Go.Proofs.YtafgmcimcbhhjaaGreat.prototypeFalls
