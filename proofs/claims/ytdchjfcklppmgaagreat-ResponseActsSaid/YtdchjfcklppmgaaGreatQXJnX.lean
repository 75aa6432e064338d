/- ResponseActs is proved: for every input the law returns true, and each argument reads afterwards as it read before. Conditions: none. -/
import Derived.Test.YtdchjfcklppmgaaGreatQXLwX
import Derived.Test.YtdchjfcklppmgaaGreatQXJnF
import Derived.Test.YtdchjfcklppmgaaGreatQXJfA
import Derived.Test.YtdchjfcklppmgaaGreatQXJfB
import Derived.Test.YtdchjfcklppmgaaGreatQXJfC
import Derived.Test.YtdchjfcklppmgaaGreatQXJfD
set_option linter.unusedVariables false
set_option maxRecDepth 100000
namespace Go.Proofs.YtdchjfcklppmgaaGreat.responseActs
open Go.ChangeShapes Go.WideShapes Go.ChangeAt Go.RowKit Go.Front Go.Joins
theorem lifted (os:Os) (started:os.Started) (H:Type) (enc:TypeId × Value→H) :
  ReturnsInHanded {} Tryz.checked os 13 .any (Rows.responseActsSpec.pre6 enc Tryz.prog Tryz.f13 Rows.responseActsRow.domain false) (Rows.responseActsSpec.post enc Tryz.prog Tryz.f13 false true false false):=by
 refine returnsInHanded_of_change (C:=Tryz.checked) own started (by kernel_rfl) Tryz.func13
  (ChangeSpec.witness6 (enc:=enc) (C:=Tryz.checked) false ⟨#[],#[.agg #[.slice none 0 0,.slice none 0 0],.agg #[.slice none 0 0,.slice none 0 0],.agg #[.bool false,.slice none 0 0,.slice none 0 0],.slice none 0 0,.int .i64 0,.slice none 0 0,.slice none 0 0],[]⟩ 8 (by kernel_rfl) (by kernel_rfl) (by kernel_rfl) (by kernel_rfl)) ?_
 intro W base args ds gs before hval0 hW hcnd _
 have hval:∀ (j:Nat) t v,Tryz.f13.params[j]? = some t→args[j]? = some v→Value.okWide Tryz.prog W .any base t v:=hval0
 have hW':=hW
 obtain ⟨p,q,hA0,hV,rfl,hfz,hnd⟩:=hW
 have hA:DataW.TrodAll enc Tryz.prog W 0 (fun _=>true) true Tryz.f13.params.toList args.toList ds p:=hA0
 rw [Tryz.params13] at hA hval
 obtain ⟨v0,vs0,d0,ds0,p0,q0,hargs,rfl,rfl,h0,r0⟩:=trodAll_cons hA
 obtain ⟨v1,vs1,d1,ds1,p1,q1,rfl,rfl,rfl,h1,r1⟩:=trodAll_cons r0
 obtain ⟨v2,vs2,d2,ds2,p2,q2,rfl,rfl,rfl,h2,r2⟩:=trodAll_cons r1
 obtain ⟨v3,vs3,d3,ds3,p3,q3,rfl,rfl,rfl,h3,r3⟩:=trodAll_cons r2
 obtain ⟨v4,vs4,d4,ds4,p4,q4,rfl,rfl,rfl,h4,r4⟩:=trodAll_cons r3
 obtain ⟨v5,vs5,d5,ds5,p5,q5,rfl,rfl,rfl,h5,r5⟩:=trodAll_cons r4
 obtain ⟨v6,vs6,d6,ds6,p6,q6,rfl,rfl,rfl,h6,r6⟩:=trodAll_cons r5
 obtain ⟨rfl,rfl,rfl⟩:=trodAll_nil r6
 obtain rfl:args = #[v0,v1,v2,v3,v4,v5,v6]:=by cases args; simp_all
 obtain ⟨rfl,rfl⟩:=trodVars_none hV
 have k0:=h0
 have lt0:∀ x ∈ p0,x.block < W.heap.size:=by obtain ⟨m,hm⟩:=k0; exact DataW.trod_lt m _ _ _ hm
 have k1:=h1
 have lt1:∀ x ∈ p1,x.block < W.heap.size:=by obtain ⟨m,hm⟩:=k1; exact DataW.trod_lt m _ _ _ hm
 have k2:=h2
 have lt2:∀ x ∈ p2,x.block < W.heap.size:=by obtain ⟨m,hm⟩:=k2; exact DataW.trod_lt m _ _ _ hm
 have k3:=h3
 have lt3:∀ x ∈ p3,x.block < W.heap.size:=by obtain ⟨m,hm⟩:=k3; exact DataW.trod_lt m _ _ _ hm
 have k4:=h4
 have lt4:∀ x ∈ p4,x.block < W.heap.size:=by obtain ⟨m,hm⟩:=k4; exact DataW.trod_lt m _ _ _ hm
 have k5:=h5
 have lt5:∀ x ∈ p5,x.block < W.heap.size:=by obtain ⟨m,hm⟩:=k5; exact DataW.trod_lt m _ _ _ hm
 have k6:=h6
 have lt6:∀ x ∈ p6,x.block < W.heap.size:=by obtain ⟨m,hm⟩:=k6; exact DataW.trod_lt m _ _ _ hm
 obtain ⟨f0,rfl,⟨rb0,hI0,hR0⟩,ra0,hJ0,hS0⟩:=open_filter (hval 0 85 v0 rfl rfl) h0
 obtain ⟨f1,rfl,⟨rb1,hI1,hR1⟩,ra1,hJ1,hS1⟩:=open_filter (hval 1 85 v1 rfl rfl) h1
 obtain ⟨qv2,rfl,hR2⟩:=open_rat (hval 2 30 v2 rfl rfl) h2
 obtain ⟨a3,len3,cap3,rfl⟩:=okWide_slice Tryz.underlying22 (hval 3 22 v3 rfl rfl)
 obtain ⟨rs3,hI3,hR3⟩:=open_rats Tryz.underlying22 h3
 obtain ⟨z4,rfl,rfl,rfl,w4⟩:=open_int Tryz.underlying3 (hval 4 3 v4 rfl rfl) h4
 obtain ⟨hk4,hj4⟩:=wf_range w4
 obtain ⟨a5,len5,cap5,rfl⟩:=okWide_slice Tryz.underlying25 (hval 5 25 v5 rfl rfl)
 obtain ⟨xs5,hI5,hR5,rfl,hl5,hc5,hm5⟩:=open_row h5
 obtain ⟨a6,len6,cap6,rfl⟩:=okWide_slice Tryz.underlying25 (hval 6 25 v6 rfl rfl)
 obtain ⟨xs6,hI6,hR6,rfl,hl6,hc6,hm6⟩:=open_row h6
 clear hA0 hval0
 refine (actslaw20_any f0 f1 qv2 a3 a5 a6 len3 cap3 cap5 cap6 z4 rb0 ra0 rb1 ra1 rs3 xs5 xs6 W hI0 hR0 hJ0 hS0 hI1 hR1 hJ1 hS1 hR2 hI3 hR3 hk4 hj4 hI5 hR5 hl5 hc5 hm5 hI6 hR6 hl6 hc6 hm6).mono fun e W' hpost=>?_
 obtain ⟨_,he,bel,-⟩:=hpost
 subst he
 exact ⟨_,rfl,_,_,_,[],_,[],hW',trodAll_mk1 (shut_bool Tryz.underlying4 _),(trodAll_cons_mk (Below.trod laidOut (by kernel_rfl) (of_decide_eq_true (by kernel_rfl)) k0 bel lt0) (trodAll_cons_mk (Below.trod laidOut (by kernel_rfl) (of_decide_eq_true (by kernel_rfl)) k1 bel lt1) (trodAll_cons_mk (Below.trod laidOut (by kernel_rfl) (of_decide_eq_true (by kernel_rfl)) k2 bel lt2) (trodAll_cons_mk (Below.trod laidOut (by kernel_rfl) (of_decide_eq_true (by kernel_rfl)) k3 bel lt3) (trodAll_cons_mk (Below.trod laidOut (by kernel_rfl) (of_decide_eq_true (by kernel_rfl)) k4 bel lt4) (trodAll_cons_mk (Below.trod laidOut (by kernel_rfl) (of_decide_eq_true (by kernel_rfl)) k5 bel lt5) (trodAll_cons_mk (Below.trod laidOut (by kernel_rfl) (of_decide_eq_true (by kernel_rfl)) k6 bel lt6) trodAll_mk0))))))),rfl,Below.frame bel _,fun h=>by cases h⟩

theorem jf9:(Rows.responseActsRow.inPlace == Tryz.pinned.checked.prog.inPlace 13) = true:=by kernel_rfl
theorem jf10:(Rows.responseActsRow.unfollowed == Tryz.pinned.checked.prog.unfollowed 13) = true:=by kernel_rfl
theorem jf11:(Rows.responseActsRow.recurses == Tryz.pinned.checked.prog.recurses 13) = true:=by kernel_rfl
theorem jf12:(Rows.responseActsRow.named == Tryz.pinned.checked.prog.varsNamed 13) = true:=by kernel_rfl
theorem fct:joinedFacts Tryz.pinned.checked.prog 13 Tryz.f13 Rows.responseActsSpec Rows.responseActsRow = true:=by
 unfold joinedFacts
 refine andI (andI (andI (andI (andI (andI (andI (andI (andI (andI (andI (andI (andI (andI (andI (andI (andI (andI (andI (andI (andI (andI (andI (andI (andI (andI (andI (andI (andI (andI (andI (?_) ?_) ?_) ?_) ?_) ?_) ?_) ?_) ?_) ?_) ?_) ?_) ?_) ?_) ?_) ?_) ?_) ?_) ?_) ?_) ?_) ?_) ?_) ?_) ?_) ?_) ?_) ?_) ?_) ?_) ?_) ?_
 ·kernel_rfl
 ·exact pf_laid
 ·exact pf_maps
 ·kernel_rfl
 ·kernel_rfl
 ·kernel_rfl
 ·kernel_rfl
 ·kernel_rfl
 ·kernel_rfl
 ·exact jf9
 ·exact jf10
 ·exact jf11
 ·exact jf12
 ·kernel_rfl
 ·kernel_rfl
 ·kernel_rfl
 ·kernel_rfl
 ·kernel_rfl
 ·kernel_rfl
 ·kernel_rfl
 ·kernel_rfl
 ·kernel_rfl
 ·kernel_rfl
 ·kernel_rfl
 ·exact pf_stops
 ·exact pf_may
 ·rw [pf_lift]; kernel_rfl
 ·rw [pf_make]; kernel_rfl
 ·kernel_rfl
 ·kernel_rfl
 ·kernel_rfl
 ·kernel_rfl
theorem over:Rows.responseActsRow.holds Tryz.pinned (OpenSpec.ofChange Rows.responseActsSpec) :=
 OpenClaim.holds_of_wide 13 Tryz.f13 rfl rfl rfl rfl rfl rfl rfl ⟨rfl,rfl,rfl,rfl,rfl⟩ rfl rfl rfl rfl rfl (by kernel_rfl) Tryz.func13 fct
  (of_decide_eq_true (by kernel_rfl)) (by unfold Func.isWrapper; first | (rw [if_pos (by decide +kernel)]; kernel_rfl) | (rw [if_neg (by decide +kernel)]; exact ⟨rfl,rfl⟩))
  (fun os started H enc _=>lifted os started H enc)

theorem proved:Rows.ResponseActsSaid:=over
end Go.Proofs.YtdchjfcklppmgaaGreat.responseActs
