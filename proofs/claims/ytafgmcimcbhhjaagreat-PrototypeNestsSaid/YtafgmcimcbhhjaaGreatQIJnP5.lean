/- PrototypeNests is proved: for every input the law returns true, and each argument reads afterwards as it read before. Conditions: none. -/
import Derived.Test.YtafgmcimcbhhjaaGreatQIK18
import Derived.Test.YtafgmcimcbhhjaaGreatQIJfA
import Derived.Test.YtafgmcimcbhhjaaGreatQIJfB
import Derived.Test.YtafgmcimcbhhjaaGreatQIJfC
import Derived.Test.YtafgmcimcbhhjaaGreatQIJfD
set_option linter.unusedVariables false
set_option maxRecDepth 100000
namespace Go.Proofs.YtafgmcimcbhhjaaGreat.prototypeNests
open Go.ChangeShapes Go.WideShapes Go.ChangeAt Go.RowKit Go.Front Go.Joins
theorem lifted(os:Os)(started:os.Started)(H:Type)(enc:TypeId×Value→H) :
  ReturnsInHanded {} Tryz.checked os 10 .any (Rows.prototypeNestsSpec.pre6 enc Tryz.prog Tryz.f10 Rows.prototypeNestsRow.domain false) (Rows.prototypeNestsSpec.post enc Tryz.prog Tryz.f10 false true false false):=by
 refine returnsInHanded_of_change (C:=Tryz.checked) own started (by kernel_rfl) Tryz.func10
  (ChangeSpec.witness6 (enc:=enc) (C:=Tryz.checked) false ⟨#[],#[.int .i64 0,.int .i64 0,.int .i64 0],[]⟩ 8 (by kernel_rfl) (by kernel_rfl) (by kernel_rfl) (by kernel_rfl)) ?_
 intro W base args ds gs before hval0 hW hcnd _;have hval:∀ (j:Nat) t v,Tryz.f10.params[j]?=some t→args[j]?=some v→Value.okWide Tryz.prog W .any base t v:=hval0;have hW':=hW;obtain ⟨p,q,hA0,hV,rfl,hfz,hnd⟩:=hW;have hA:DataW.TrodAll enc Tryz.prog W 0 (fun _=>true) true Tryz.f10.params.toList args.toList ds p:=hA0;rw [Tryz.params10] at hA hval;obtain ⟨v0,vs0,d0,ds0,p0,q0,hargs,rfl,rfl,h0,r0⟩:=trodAll_cons hA;obtain ⟨v1,vs1,d1,ds1,p1,q1,rfl,rfl,rfl,h1,r1⟩:=trodAll_cons r0;obtain ⟨v2,vs2,d2,ds2,p2,q2,rfl,rfl,rfl,h2,r2⟩:=trodAll_cons r1;obtain ⟨rfl,rfl,rfl⟩:=trodAll_nil r2;obtain rfl:args=#[v0,v1,v2]:=by cases args;simp_all
 obtain ⟨rfl,rfl⟩:=trodVars_none hV;have k0:=h0;have lt0:∀ x ∈ p0,x.block<W.heap.size:=by obtain ⟨m,hm⟩:=k0;exact DataW.trod_lt m _ _ _ hm
 have k1:=h1;have lt1:∀ x ∈ p1,x.block<W.heap.size:=by obtain ⟨m,hm⟩:=k1;exact DataW.trod_lt m _ _ _ hm
 have k2:=h2;have lt2:∀ x ∈ p2,x.block<W.heap.size:=by obtain ⟨m,hm⟩:=k2;exact DataW.trod_lt m _ _ _ hm
 obtain ⟨z0,rfl,rfl,rfl,w0⟩:=open_int Tryz.underlying3 (hval 0 3 v0 rfl rfl) h0;obtain ⟨hk0,hj0⟩:=k7 w0;obtain ⟨z1,rfl,rfl,rfl,w1⟩:=open_int Tryz.underlying3 (hval 1 3 v1 rfl rfl) h1;obtain ⟨hk1,hj1⟩:=k7 w1;obtain ⟨z2,rfl,rfl,rfl,w2⟩:=open_int Tryz.underlying3 (hval 2 3 v2 rfl rfl) h2;obtain ⟨hk2,hj2⟩:=k7 w2;clear hA0 hval0;refine (nY z0 z1 z2 W hk0 hj0 hk1 hj1 hk2 hj2).mono fun e W' hpost=>?_
 obtain ⟨_,he,bel,-⟩:=hpost;subst he;exact ⟨_,rfl,_,_,_,[],_,[],hW',trodAll_mk1 (shut_bool Tryz.underlying4 _),(trodAll_cons_mk (Below.trod n9 (by kernel_rfl) (of_decide_eq_true (by kernel_rfl)) k0 bel lt0) (trodAll_cons_mk (Below.trod n9 (by kernel_rfl) (of_decide_eq_true (by kernel_rfl)) k1 bel lt1) (trodAll_cons_mk (Below.trod n9 (by kernel_rfl) (of_decide_eq_true (by kernel_rfl)) k2 bel lt2) trodAll_mk0))),rfl,Below.frame bel _,fun h=>by cases h⟩

theorem jf9:(Rows.prototypeNestsRow.inPlace == Tryz.pinned.checked.prog.inPlace 10)=true:=by kernel_rfl
theorem Cy:(Rows.prototypeNestsRow.unfollowed == Tryz.pinned.checked.prog.unfollowed 10)=true:=by kernel_rfl
theorem Cx:(Rows.prototypeNestsRow.recurses == Tryz.pinned.checked.prog.recurses 10)=true:=by kernel_rfl
theorem Cw:(Rows.prototypeNestsRow.named == Tryz.pinned.checked.prog.varsNamed 10)=true:=by kernel_rfl
theorem fct:joinedFacts Tryz.pinned.checked.prog 10 Tryz.f10 Rows.prototypeNestsSpec Rows.prototypeNestsRow=true:=by
 unfold joinedFacts;refine gM (gM (gM (gM (gM (gM (gM (gM (gM (gM (gM (gM (gM (gM (gM (gM (gM (gM (gM (gM (gM (gM (gM (gM (gM (gM (gM (gM (gM (gM (gM (?_) ?_) ?_) ?_) ?_) ?_) ?_) ?_) ?_) ?_) ?_) ?_) ?_) ?_) ?_) ?_) ?_) ?_) ?_) ?_) ?_) ?_) ?_) ?_) ?_) ?_) ?_) ?_) ?_) ?_) ?_) ?_
 ·kernel_rfl
 ·exact yr
 ·exact yj
 ·kernel_rfl
 ·kernel_rfl
 ·kernel_rfl
 ·kernel_rfl
 ·kernel_rfl
 ·kernel_rfl
 ·exact jf9
 ·exact Cy
 ·exact Cx
 ·exact Cw
 ·kernel_rfl
 ·kernel_rfl
 ·kernel_rfl
 ·kernel_rfl
 ·kernel_rfl
 ·kernel_rfl
 ·kernel_rfl
 ·kernel_rfl
 ·kernel_rfl
 ·kernel_rfl
 ·kernel_rfl
 ·exact vt
 ·exact Aw
 ·rw [yq];kernel_rfl
 ·rw [yk];kernel_rfl
 ·kernel_rfl
 ·kernel_rfl
 ·kernel_rfl
 ·kernel_rfl
theorem over:Rows.prototypeNestsRow.holds Tryz.pinned (OpenSpec.ofChange Rows.prototypeNestsSpec) :=
 OpenClaim.holds_of_wide 10 Tryz.f10 rfl rfl rfl rfl rfl rfl rfl ⟨rfl,rfl,rfl,rfl,rfl⟩ rfl rfl rfl rfl rfl (by kernel_rfl) Tryz.func10 fct
  (of_decide_eq_true (by kernel_rfl)) (by unfold Func.isWrapper;first|(rw [if_pos (by decide +kernel)];kernel_rfl)|(rw [if_neg (by decide +kernel)];exact ⟨rfl,rfl⟩))
  (fun os started H enc _=>lifted os started H enc)

theorem proved:Rows.PrototypeNestsSaid:=over
end Go.Proofs.YtafgmcimcbhhjaaGreat.prototypeNests
