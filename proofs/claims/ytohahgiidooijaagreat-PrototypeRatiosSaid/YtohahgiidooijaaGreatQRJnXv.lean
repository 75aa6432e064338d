/- PrototypeRatios is proved: for every input the law returns true, and each argument reads afterwards as it read before. Conditions: none. -/
import Derived.Test.YtohahgiidooijaaGreatQRLwK
import Derived.Test.YtohahgiidooijaaGreatQRJnZ
import Derived.Test.YtohahgiidooijaaGreatQRJfA
import Derived.Test.YtohahgiidooijaaGreatQRJfB
import Derived.Test.YtohahgiidooijaaGreatQRJfC
import Derived.Test.YtohahgiidooijaaGreatQRJfD
set_option linter.unusedVariables false
set_option maxRecDepth 100000
namespace Go.Proofs.YtohahgiidooijaaGreat.prototypeRatios
open Go.ChangeShapes Go.WideShapes Go.ChangeAt Go.RowKit Go.Front Go.Joins
theorem lifted(os:Os)(started:os.Started)(H:Type)(enc:TypeId×Value→H) :
  ReturnsInHanded {} Tryz.checked os 5 .any (Rows.prototypeRatiosSpec.pre6 enc Tryz.prog Tryz.f5 Rows.prototypeRatiosRow.domain false) (Rows.prototypeRatiosSpec.post enc Tryz.prog Tryz.f5 false true false false):=by
 refine returnsInHanded_of_change (C:=Tryz.checked) own started (by kernel_rfl) Tryz.func5
  (ChangeSpec.witness6 (enc:=enc) (C:=Tryz.checked) false ⟨#[],#[.agg #[.bool false,.slice none 0 0,.slice none 0 0,.slice none 0 0,.int .i64 0,.slice none 0 0],.slice none 0 0,.slice none 0 0,.int .i64 0],[]⟩ 8 (by kernel_rfl) (by kernel_rfl) (by kernel_rfl) (by kernel_rfl)) ?_
 intro W base args ds gs before hval0 hW hcnd _;have hval:∀ (j:Nat) t v,Tryz.f5.params[j]?=some t→args[j]?=some v→Value.okWide Tryz.prog W .any base t v:=hval0;have hW':=hW;obtain ⟨p,q,hA0,hV,rfl,hfz,hnd⟩:=hW;have hA:DataW.TrodAll enc Tryz.prog W 0 (fun _=>true) true Tryz.f5.params.toList args.toList ds p:=hA0;rw [Tryz.params5] at hA hval;obtain ⟨v0,vs0,d0,ds0,p0,q0,hargs,rfl,rfl,h0,r0⟩:=trodAll_cons hA;obtain ⟨v1,vs1,d1,ds1,p1,q1,rfl,rfl,rfl,h1,r1⟩:=trodAll_cons r0;obtain ⟨v2,vs2,d2,ds2,p2,q2,rfl,rfl,rfl,h2,r2⟩:=trodAll_cons r1;obtain ⟨v3,vs3,d3,ds3,p3,q3,rfl,rfl,rfl,h3,r3⟩:=trodAll_cons r2;obtain ⟨rfl,rfl,rfl⟩:=trodAll_nil r3;obtain rfl:args=#[v0,v1,v2,v3]:=by cases args;simp_all
 obtain ⟨rfl,rfl⟩:=trodVars_none hV;have k0:=h0;have lt0:∀ x ∈ p0,x.block<W.heap.size:=by obtain ⟨m,hm⟩:=k0;exact DataW.trod_lt m _ _ _ hm
 have k1:=h1;have lt1:∀ x ∈ p1,x.block<W.heap.size:=by obtain ⟨m,hm⟩:=k1;exact DataW.trod_lt m _ _ _ hm
 have k2:=h2;have lt2:∀ x ∈ p2,x.block<W.heap.size:=by obtain ⟨m,hm⟩:=k2;exact DataW.trod_lt m _ _ _ hm
 have k3:=h3;have lt3:∀ x ∈ p3,x.block<W.heap.size:=by obtain ⟨m,hm⟩:=k3;exact DataW.trod_lt m _ _ _ hm
 obtain ⟨x0,rfl,hR0,⟨re0,hI0,hJ0⟩,⟨rd0,hS0,hT0⟩,hp0,hq0⟩:=rE (hval 0 66 v0 rfl rfl) h0;obtain ⟨a1,len1,cap1,rfl⟩:=okWide_slice Tryz.underlying25 (hval 1 25 v1 rfl rfl);obtain ⟨xs1,hI1,hR1,rfl,hl1,hc1,hm1⟩:=pY h1;obtain ⟨a2,len2,cap2,rfl⟩:=okWide_slice Tryz.underlying25 (hval 2 25 v2 rfl rfl);obtain ⟨xs2,hI2,hR2,rfl,hl2,hc2,hm2⟩:=pY h2;obtain ⟨z3,rfl,rfl,rfl,w3⟩:=open_int Tryz.underlying3 (hval 3 3 v3 rfl rfl) h3;obtain ⟨hk3,hj3⟩:=lH w3;clear hA0 hval0;refine (np x0 a1 a2 cap1 cap2 re0 rd0 xs1 xs2 z3 W hR0 hI0 hJ0 hS0 hT0 hp0 hq0 hI1 hR1 hl1 hc1 hm1 hI2 hR2 hl2 hc2 hm2 hk3 hj3).mono fun e W' hpost=>?_
 obtain ⟨_,he,bel,-⟩:=hpost;subst he;exact ⟨_,rfl,_,_,_,[],_,[],hW',trodAll_mk1 (shut_bool Tryz.underlying4 _),(trodAll_cons_mk (Below.trod mx (by kernel_rfl) (of_decide_eq_true (by kernel_rfl)) k0 bel lt0) (trodAll_cons_mk (Below.trod mx (by kernel_rfl) (of_decide_eq_true (by kernel_rfl)) k1 bel lt1) (trodAll_cons_mk (Below.trod mx (by kernel_rfl) (of_decide_eq_true (by kernel_rfl)) k2 bel lt2) (trodAll_cons_mk (Below.trod mx (by kernel_rfl) (of_decide_eq_true (by kernel_rfl)) k3 bel lt3) trodAll_mk0)))),rfl,Below.frame bel _,fun h=>by cases h⟩

theorem jf9:(Rows.prototypeRatiosRow.inPlace == Tryz.pinned.checked.prog.inPlace 5)=true:=by kernel_rfl
theorem Cz:(Rows.prototypeRatiosRow.unfollowed == Tryz.pinned.checked.prog.unfollowed 5)=true:=by kernel_rfl
theorem Cy:(Rows.prototypeRatiosRow.recurses == Tryz.pinned.checked.prog.recurses 5)=true:=by kernel_rfl
theorem Cx:(Rows.prototypeRatiosRow.named == Tryz.pinned.checked.prog.varsNamed 5)=true:=by kernel_rfl
theorem fct:joinedFacts Tryz.pinned.checked.prog 5 Tryz.f5 Rows.prototypeRatiosSpec Rows.prototypeRatiosRow=true:=by
 unfold joinedFacts;refine gZ (gZ (gZ (gZ (gZ (gZ (gZ (gZ (gZ (gZ (gZ (gZ (gZ (gZ (gZ (gZ (gZ (gZ (gZ (gZ (gZ (gZ (gZ (gZ (gZ (gZ (gZ (gZ (gZ (gZ (gZ (?_) ?_) ?_) ?_) ?_) ?_) ?_) ?_) ?_) ?_) ?_) ?_) ?_) ?_) ?_) ?_) ?_) ?_) ?_) ?_) ?_) ?_) ?_) ?_) ?_) ?_) ?_) ?_) ?_) ?_) ?_) ?_
 ·kernel_rfl
 ·exact yR
 ·exact yO
 ·kernel_rfl
 ·kernel_rfl
 ·kernel_rfl
 ·kernel_rfl
 ·kernel_rfl
 ·kernel_rfl
 ·exact jf9
 ·exact Cz
 ·exact Cy
 ·exact Cx
 ·kernel_rfl
 ·kernel_rfl
 ·kernel_rfl
 ·kernel_rfl
 ·kernel_rfl
 ·kernel_rfl
 ·kernel_rfl
 ·kernel_rfl
 ·kernel_rfl
 ·kernel_rfl
 ·kernel_rfl
 ·exact vY
 ·exact AO
 ·rw [yQ];kernel_rfl
 ·rw [yP];kernel_rfl
 ·kernel_rfl
 ·kernel_rfl
 ·kernel_rfl
 ·kernel_rfl
theorem over:Rows.prototypeRatiosRow.holds Tryz.pinned (OpenSpec.ofChange Rows.prototypeRatiosSpec) :=
 OpenClaim.holds_of_wide 5 Tryz.f5 rfl rfl rfl rfl rfl rfl rfl ⟨rfl,rfl,rfl,rfl,rfl⟩ rfl rfl rfl rfl rfl (by kernel_rfl) Tryz.func5 fct
  (of_decide_eq_true (by kernel_rfl)) (by unfold Func.isWrapper;first|(rw [if_pos (by decide +kernel)];kernel_rfl)|(rw [if_neg (by decide +kernel)];exact ⟨rfl,rfl⟩))
  (fun os started H enc _=>lifted os started H enc)

theorem proved:Rows.PrototypeRatiosSaid:=over
end Go.Proofs.YtohahgiidooijaaGreat.prototypeRatios
