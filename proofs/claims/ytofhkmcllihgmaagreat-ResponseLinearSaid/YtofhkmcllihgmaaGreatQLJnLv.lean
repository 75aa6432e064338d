/- ResponseLinear is proved: for every input the law returns true, and each argument reads afterwards as it read before. Conditions: none. -/
import Derived.Test.YtofhkmcllihgmaaGreatQLK9
import Derived.Test.YtofhkmcllihgmaaGreatQLJfA
import Derived.Test.YtofhkmcllihgmaaGreatQLJfB
import Derived.Test.YtofhkmcllihgmaaGreatQLJfC
import Derived.Test.YtofhkmcllihgmaaGreatQLJfD
set_option linter.unusedVariables false
set_option maxRecDepth 100000
namespace Go.Proofs.YtofhkmcllihgmaaGreat.responseLinear
open Go.ChangeShapes Go.WideShapes Go.ChangeAt Go.RowKit Go.Front Go.Joins
theorem uz(os:Os)(started:os.Started)(H:Type)(enc:TypeId×Value→H) :
  ReturnsInHanded {} Tryz.checked os 7 .any (Rows.responseLinearSpec.pre6 enc Tryz.prog Tryz.f7 Rows.responseLinearRow.domain false) (Rows.responseLinearSpec.post enc Tryz.prog Tryz.f7 false true false false):=by
 refine returnsInHanded_of_change (C:=Tryz.checked) own started (by kernel_rfl) Tryz.func7
  (ChangeSpec.witness6 (enc:=enc) (C:=Tryz.checked) false ⟨#[],#[.slice none 0 0,.slice none 0 0,.slice none 0 0,.slice none 0 0,.int .i64 0],[]⟩ 8 (by kernel_rfl) (by kernel_rfl) (by kernel_rfl) (by kernel_rfl)) ?_
 intro W base args ds gs before hval0 hW hcnd _;have hval:∀ (j:Nat) t v,Tryz.f7.params[j]?=some t→args[j]?=some v→Value.okWide Tryz.prog W .any base t v:=hval0;have hW':=hW;obtain ⟨p,q,hA0,hV,rfl,hfz,hnd⟩:=hW;have hA:DataW.TrodAll enc Tryz.prog W 0 (fun _=>true) true Tryz.f7.params.toList args.toList ds p:=hA0;rw [Tryz.params7] at hA hval;obtain ⟨v0,vs0,d0,ds0,p0,q0,hargs,rfl,rfl,h0,r0⟩:=trodAll_cons hA;obtain ⟨v1,vs1,d1,ds1,p1,q1,rfl,rfl,rfl,h1,r1⟩:=trodAll_cons r0;obtain ⟨v2,vs2,d2,ds2,p2,q2,rfl,rfl,rfl,h2,r2⟩:=trodAll_cons r1;obtain ⟨v3,vs3,d3,ds3,p3,q3,rfl,rfl,rfl,h3,r3⟩:=trodAll_cons r2;obtain ⟨v4,vs4,d4,ds4,p4,q4,rfl,rfl,rfl,h4,r4⟩:=trodAll_cons r3;obtain ⟨rfl,rfl,rfl⟩:=trodAll_nil r4;obtain rfl:args=#[v0,v1,v2,v3,v4]:=by cases args;simp_all
 obtain ⟨rfl,rfl⟩:=trodVars_none hV;have k0:=h0;have lt0:∀ x ∈ p0,x.block<W.heap.size:=by obtain ⟨m,hm⟩:=k0;exact DataW.trod_lt m _ _ _ hm
 have k1:=h1;have lt1:∀ x ∈ p1,x.block<W.heap.size:=by obtain ⟨m,hm⟩:=k1;exact DataW.trod_lt m _ _ _ hm
 have k2:=h2;have lt2:∀ x ∈ p2,x.block<W.heap.size:=by obtain ⟨m,hm⟩:=k2;exact DataW.trod_lt m _ _ _ hm
 have k3:=h3;have lt3:∀ x ∈ p3,x.block<W.heap.size:=by obtain ⟨m,hm⟩:=k3;exact DataW.trod_lt m _ _ _ hm
 have k4:=h4;have lt4:∀ x ∈ p4,x.block<W.heap.size:=by obtain ⟨m,hm⟩:=k4;exact DataW.trod_lt m _ _ _ hm
 obtain ⟨a0,len0,cap0,rfl⟩:=okWide_slice Tryz.underlying25 (hval 0 25 v0 rfl rfl);obtain ⟨xs0,hI0,hR0,rfl,hl0,hc0,hm0⟩:=gG h0;obtain ⟨a1,len1,cap1,rfl⟩:=okWide_slice Tryz.underlying25 (hval 1 25 v1 rfl rfl);obtain ⟨xs1,hI1,hR1,rfl,hl1,hc1,hm1⟩:=gG h1;obtain ⟨a2,len2,cap2,rfl⟩:=okWide_slice Tryz.underlying25 (hval 2 25 v2 rfl rfl);obtain ⟨xs2,hI2,hR2,rfl,hl2,hc2,hm2⟩:=gG h2;obtain ⟨a3,len3,cap3,rfl⟩:=okWide_slice Tryz.underlying25 (hval 3 25 v3 rfl rfl);obtain ⟨xs3,hI3,hR3,rfl,hl3,hc3,hm3⟩:=gG h3;obtain ⟨z4,rfl,rfl,rfl,w4⟩:=open_int Tryz.underlying3 (hval 4 3 v4 rfl rfl) h4;obtain ⟨hk4,hj4⟩:=lH w4;clear hA0 hval0;refine (nd a0 a1 a2 a3 cap0 cap1 cap2 cap3 xs0 xs1 xs2 xs3 z4 W hI0 hR0 hl0 hc0 hm0 hI1 hR1 hl1 hc1 hm1 hI2 hR2 hl2 hc2 hm2 hI3 hR3 hl3 hc3 hm3 hk4 hj4).mono fun e W' hpost=>?_
 obtain ⟨_,he,bel,-⟩:=hpost;subst he;exact ⟨_,rfl,_,_,_,[],_,[],hW',trodAll_mk1 (shut_bool Tryz.underlying4 _),(trodAll_cons_mk (Below.trod iB (by kernel_rfl) (of_decide_eq_true (by kernel_rfl)) k0 bel lt0) (trodAll_cons_mk (Below.trod iB (by kernel_rfl) (of_decide_eq_true (by kernel_rfl)) k1 bel lt1) (trodAll_cons_mk (Below.trod iB (by kernel_rfl) (of_decide_eq_true (by kernel_rfl)) k2 bel lt2) (trodAll_cons_mk (Below.trod iB (by kernel_rfl) (of_decide_eq_true (by kernel_rfl)) k3 bel lt3) (trodAll_cons_mk (Below.trod iB (by kernel_rfl) (of_decide_eq_true (by kernel_rfl)) k4 bel lt4) trodAll_mk0))))),rfl,Below.frame bel _,fun h=>by cases h⟩

theorem jf9:(Rows.responseLinearRow.inPlace == Tryz.pinned.checked.prog.inPlace 7)=true:=by kernel_rfl
theorem v8:(Rows.responseLinearRow.unfollowed == Tryz.pinned.checked.prog.unfollowed 7)=true:=by kernel_rfl
theorem v7:(Rows.responseLinearRow.recurses == Tryz.pinned.checked.prog.recurses 7)=true:=by kernel_rfl
theorem vZ:(Rows.responseLinearRow.named == Tryz.pinned.checked.prog.varsNamed 7)=true:=by kernel_rfl
theorem fct:joinedFacts Tryz.pinned.checked.prog 7 Tryz.f7 Rows.responseLinearSpec Rows.responseLinearRow=true:=by
 unfold joinedFacts;refine fi (fi (fi (fi (fi (fi (fi (fi (fi (fi (fi (fi (fi (fi (fi (fi (fi (fi (fi (fi (fi (fi (fi (fi (fi (fi (fi (fi (fi (fi (fi (?_) ?_) ?_) ?_) ?_) ?_) ?_) ?_) ?_) ?_) ?_) ?_) ?_) ?_) ?_) ?_) ?_) ?_) ?_) ?_) ?_) ?_) ?_) ?_) ?_) ?_) ?_) ?_) ?_) ?_) ?_) ?_
 ·kernel_rfl
 ·exact sQ
 ·exact sN
 ·kernel_rfl
 ·kernel_rfl
 ·kernel_rfl
 ·kernel_rfl
 ·kernel_rfl
 ·kernel_rfl
 ·exact jf9
 ·exact v8
 ·exact v7
 ·exact vZ
 ·kernel_rfl
 ·kernel_rfl
 ·kernel_rfl
 ·kernel_rfl
 ·kernel_rfl
 ·kernel_rfl
 ·kernel_rfl
 ·kernel_rfl
 ·kernel_rfl
 ·kernel_rfl
 ·kernel_rfl
 ·exact qI
 ·exact uw
 ·rw [sP];kernel_rfl
 ·rw [sO];kernel_rfl
 ·kernel_rfl
 ·kernel_rfl
 ·kernel_rfl
 ·kernel_rfl
theorem over:Rows.responseLinearRow.holds Tryz.pinned (OpenSpec.ofChange Rows.responseLinearSpec) :=
 OpenClaim.holds_of_wide 7 Tryz.f7 rfl rfl rfl rfl rfl rfl rfl ⟨rfl,rfl,rfl,rfl,rfl⟩ rfl rfl rfl rfl rfl (by kernel_rfl) Tryz.func7 fct
  (of_decide_eq_true (by kernel_rfl)) (by unfold Func.isWrapper;first|(rw [if_pos (by decide +kernel)];kernel_rfl)|(rw [if_neg (by decide +kernel)];exact ⟨rfl,rfl⟩))
  (fun os started H enc _=>uz os started H enc)

theorem proved:Rows.ResponseLinearSaid:=over
end Go.Proofs.YtofhkmcllihgmaaGreat.responseLinear
