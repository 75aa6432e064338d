/- SturmCounts is proved: for every input the law returns true, and each argument reads afterwards as it read before. Conditions: none. -/
import Derived.Test.YtafgmcimcbhhjaaGreatQFLc1
import Derived.Test.YtafgmcimcbhhjaaGreatQFJnI
import Derived.Test.YtafgmcimcbhhjaaGreatQFJfA
import Derived.Test.YtafgmcimcbhhjaaGreatQFJfB
import Derived.Test.YtafgmcimcbhhjaaGreatQFJfC
import Derived.Test.YtafgmcimcbhhjaaGreatQFJfD
set_option linter.unusedVariables false
set_option maxRecDepth 100000
namespace Go.Proofs.YtafgmcimcbhhjaaGreat.sturmCounts
open Go.ChangeShapes Go.WideShapes Go.ChangeAt Go.RowKit Go.Front Go.Joins
theorem lifted(os:Os)(started:os.Started)(H:Type)(enc:TypeId×Value→H) :
  ReturnsInHanded {} Tryz.checked os 4 .any (Rows.sturmCountsSpec.pre6 enc Tryz.prog Tryz.f4 Rows.sturmCountsRow.domain false) (Rows.sturmCountsSpec.post enc Tryz.prog Tryz.f4 false true false false):=by
 refine returnsInHanded_of_change (C:=Tryz.checked) own started kZ Tryz.func4
  (ChangeSpec.witness6 (enc:=enc) (C:=Tryz.checked) false ⟨#[],#[.slice none 0 0,.agg #[.bool false,.slice none 0 0,.slice none 0 0,.bool false,.slice none 0 0,.slice none 0 0],.agg #[.bool false,.slice none 0 0,.slice none 0 0],.slice none 0 0,.int .i64 0,.int .i64 0],[]⟩ 8 kZ kZ kZ kZ) ?_
 intro W base args ds gs before hval0 hW hcnd _;have hval:∀ (j:Nat) t v,Tryz.f4.params[j]?=some t→args[j]?=some v→Value.okWide Tryz.prog W .any base t v:=hval0;have hW':=hW;obtain ⟨p,q,hA0,hV,rfl,hfz,hnd⟩:=hW;have hA:DataW.TrodAll enc Tryz.prog W 0 (fun _=>true) true Tryz.f4.params.toList args.toList ds p:=hA0;rw [Tryz.params4] at hA hval;obtain ⟨v0,vs0,d0,ds0,p0,q0,hargs,rfl,rfl,h0,r0⟩:=trodAll_cons hA;obtain ⟨v1,vs1,d1,ds1,p1,q1,rfl,rfl,rfl,h1,r1⟩:=trodAll_cons r0;obtain ⟨v2,vs2,d2,ds2,p2,q2,rfl,rfl,rfl,h2,r2⟩:=trodAll_cons r1;obtain ⟨v3,vs3,d3,ds3,p3,q3,rfl,rfl,rfl,h3,r3⟩:=trodAll_cons r2;obtain ⟨v4,vs4,d4,ds4,p4,q4,rfl,rfl,rfl,h4,r4⟩:=trodAll_cons r3;obtain ⟨v5,vs5,d5,ds5,p5,q5,rfl,rfl,rfl,h5,r5⟩:=trodAll_cons r4;obtain ⟨rfl,rfl,rfl⟩:=trodAll_nil r5;obtain rfl:args=#[v0,v1,v2,v3,v4,v5]:=by cases args;simp_all
 obtain ⟨rfl,rfl⟩:=trodVars_none hV;have k0:=h0;have lt0:∀ x ∈ p0,x.block<W.heap.size:=by obtain ⟨m,hm⟩:=k0;exact DataW.trod_lt m _ _ _ hm
 have k1:=h1;have lt1:∀ x ∈ p1,x.block<W.heap.size:=by obtain ⟨m,hm⟩:=k1;exact DataW.trod_lt m _ _ _ hm
 have k2:=h2;have lt2:∀ x ∈ p2,x.block<W.heap.size:=by obtain ⟨m,hm⟩:=k2;exact DataW.trod_lt m _ _ _ hm
 have k3:=h3;have lt3:∀ x ∈ p3,x.block<W.heap.size:=by obtain ⟨m,hm⟩:=k3;exact DataW.trod_lt m _ _ _ hm
 have k4:=h4;have lt4:∀ x ∈ p4,x.block<W.heap.size:=by obtain ⟨m,hm⟩:=k4;exact DataW.trod_lt m _ _ _ hm
 have k5:=h5;have lt5:∀ x ∈ p5,x.block<W.heap.size:=by obtain ⟨m,hm⟩:=k5;exact DataW.trod_lt m _ _ _ hm
 obtain ⟨a0,len0,cap0,rfl⟩:=okWide_slice Tryz.underlying24 (hval 0 24 v0 rfl rfl);obtain ⟨rs0,hI0,hR0⟩:=ui Tryz.underlying24 h0;obtain ⟨iv1,rfl,hR1,hS1⟩:=AD (hval 1 38 v1 rfl rfl) h1;obtain ⟨qv2,rfl,hR2⟩:=xB (hval 2 34 v2 rfl rfl) h2;obtain ⟨a3,len3,cap3,rfl⟩:=okWide_slice Tryz.underlying22 (hval 3 22 v3 rfl rfl);obtain ⟨xs3,hI3,hR3,rfl,hl3,hc3,hm3⟩:=xA h3;obtain ⟨z4,rfl,rfl,rfl,w4⟩:=open_int Tryz.underlying3 (hval 4 3 v4 rfl rfl) h4;obtain ⟨hk4,hj4⟩:=mO w4;obtain ⟨z5,rfl,rfl,rfl,w5⟩:=open_int Tryz.underlying3 (hval 5 3 v5 rfl rfl) h5;obtain ⟨hk5,hj5⟩:=mO w5;clear hA0 hval0;refine (oT a0 len0 cap0 rs0 iv1.1 iv1.2 qv2 a3 cap3 xs3 z4 z5 W hI0 hR0 hR1 hS1 hR2 hI3 hR3 hl3 hc3 hm3 hk4 hj4 hk5 hj5).mono fun e W' hpost=>?_
 obtain ⟨_,he,bel,-⟩:=hpost;subst he;exact ⟨_,rfl,_,_,_,[],_,[],hW',trodAll_mk1 (shut_bool Tryz.underlying4 _),(trodAll_cons_mk (Below.trod jO kZ (of_decide_eq_true kZ) k0 bel lt0) (trodAll_cons_mk (Below.trod jO kZ (of_decide_eq_true kZ) k1 bel lt1) (trodAll_cons_mk (Below.trod jO kZ (of_decide_eq_true kZ) k2 bel lt2) (trodAll_cons_mk (Below.trod jO kZ (of_decide_eq_true kZ) k3 bel lt3) (trodAll_cons_mk (Below.trod jO kZ (of_decide_eq_true kZ) k4 bel lt4) (trodAll_cons_mk (Below.trod jO kZ (of_decide_eq_true kZ) k5 bel lt5) trodAll_mk0)))))),rfl,Below.frame bel _,fun h=>by cases h⟩

theorem jf9:(Rows.sturmCountsRow.inPlace == Tryz.pinned.checked.prog.inPlace 4)=true:=by kernel_rfl
theorem Ek:(Rows.sturmCountsRow.unfollowed == Tryz.pinned.checked.prog.unfollowed 4)=true:=by kernel_rfl
theorem Ej:(Rows.sturmCountsRow.recurses == Tryz.pinned.checked.prog.recurses 4)=true:=by kernel_rfl
theorem Ei:(Rows.sturmCountsRow.named == Tryz.pinned.checked.prog.varsNamed 4)=true:=by kernel_rfl
theorem fct:joinedFacts Tryz.pinned.checked.prog 4 Tryz.f4 Rows.sturmCountsSpec Rows.sturmCountsRow=true:=by
 unfold joinedFacts;refine iK (iK (iK (iK (iK (iK (iK (iK (iK (iK (iK (iK (iK (iK (iK (iK (iK (iK (iK (iK (iK (iK (iK (iK (iK (iK (iK (iK (iK (iK (iK (?_) ?_) ?_) ?_) ?_) ?_) ?_) ?_) ?_) ?_) ?_) ?_) ?_) ?_) ?_) ?_) ?_) ?_) ?_) ?_) ?_) ?_) ?_) ?_) ?_) ?_) ?_) ?_) ?_) ?_) ?_) ?_
 ·kernel_rfl
 ·exact Az
 ·exact Aw
 ·kernel_rfl
 ·kernel_rfl
 ·kernel_rfl
 ·kernel_rfl
 ·kernel_rfl
 ·kernel_rfl
 ·exact jf9
 ·exact Ek
 ·exact Ej
 ·exact Ei
 ·kernel_rfl
 ·kernel_rfl
 ·kernel_rfl
 ·kernel_rfl
 ·kernel_rfl
 ·kernel_rfl
 ·kernel_rfl
 ·kernel_rfl
 ·kernel_rfl
 ·kernel_rfl
 ·kernel_rfl
 ·exact xx
 ·exact Cv
 ·rw [Ay];kernel_rfl
 ·rw [Ax];kernel_rfl
 ·kernel_rfl
 ·kernel_rfl
 ·kernel_rfl
 ·kernel_rfl
theorem over:Rows.sturmCountsRow.holds Tryz.pinned (OpenSpec.ofChange Rows.sturmCountsSpec) :=
 OpenClaim.holds_of_wide 4 Tryz.f4 rfl rfl rfl rfl rfl rfl rfl ⟨rfl,rfl,rfl,rfl,rfl⟩ rfl rfl rfl rfl rfl kZ Tryz.func4 fct
  (of_decide_eq_true kZ) (by unfold Func.isWrapper;first|(rw [if_pos (by decide +kernel)];kernel_rfl)|(rw [if_neg (by decide +kernel)];exact ⟨rfl,rfl⟩))
  (fun os started H enc _=>lifted os started H enc)

theorem proved:Rows.SturmCountsSaid:=over
end Go.Proofs.YtafgmcimcbhhjaaGreat.sturmCounts
