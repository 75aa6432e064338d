/- SturmIsolates is proved: for every input the law returns true, and each argument reads afterwards as it read before. Conditions: none. -/
import Derived.Test.YtafgmcimcbhhjaaGreatQJLis
import Derived.Test.YtafgmcimcbhhjaaGreatQJJfA
import Derived.Test.YtafgmcimcbhhjaaGreatQJJfB
import Derived.Test.YtafgmcimcbhhjaaGreatQJJfC
import Derived.Test.YtafgmcimcbhhjaaGreatQJJfD
set_option linter.unusedVariables false
set_option maxRecDepth 100000
namespace Go.Proofs.YtafgmcimcbhhjaaGreat.sturmIsolates
open Go.ChangeShapes Go.WideShapes Go.ChangeAt Go.RowKit Go.Front Go.Joins
theorem lifted(os:Os)(started:os.Started)(H:Type)(enc:TypeId×Value→H) :
  ReturnsInHanded {} Tryz.checked os 5 .any (Rows.sturmIsolatesSpec.pre6 enc Tryz.prog Tryz.f5 Rows.sturmIsolatesRow.domain false) (Rows.sturmIsolatesSpec.post enc Tryz.prog Tryz.f5 false true false false):=by
 refine returnsInHanded_of_change (C:=Tryz.checked) own started kZ Tryz.func5
  (ChangeSpec.witness6 (enc:=enc) (C:=Tryz.checked) false ⟨#[],#[.slice none 0 0,.slice none 0 0,.int .i64 0,.int .i64 0,.int .u8 0,.int .i64 0],[]⟩ 8 kZ kZ kZ kZ) ?_
 intro W base args ds gs before hval0 hW hcnd _;have hval:∀ (j:Nat) t v,Tryz.f5.params[j]?=some t→args[j]?=some v→Value.okWide Tryz.prog W .any base t v:=hval0;have hW':=hW;obtain ⟨p,q,hA0,hV,rfl,hfz,hnd⟩:=hW;have hA:DataW.TrodAll enc Tryz.prog W 0 (fun _=>true) true Tryz.f5.params.toList args.toList ds p:=hA0;rw [Tryz.params5] at hA hval;obtain ⟨v0,vs0,d0,ds0,p0,q0,hargs,rfl,rfl,h0,r0⟩:=trodAll_cons hA;obtain ⟨v1,vs1,d1,ds1,p1,q1,rfl,rfl,rfl,h1,r1⟩:=trodAll_cons r0;obtain ⟨v2,vs2,d2,ds2,p2,q2,rfl,rfl,rfl,h2,r2⟩:=trodAll_cons r1;obtain ⟨v3,vs3,d3,ds3,p3,q3,rfl,rfl,rfl,h3,r3⟩:=trodAll_cons r2;obtain ⟨v4,vs4,d4,ds4,p4,q4,rfl,rfl,rfl,h4,r4⟩:=trodAll_cons r3;obtain ⟨v5,vs5,d5,ds5,p5,q5,rfl,rfl,rfl,h5,r5⟩:=trodAll_cons r4;obtain ⟨rfl,rfl,rfl⟩:=trodAll_nil r5;obtain rfl:args=#[v0,v1,v2,v3,v4,v5]:=by cases args;simp_all
 obtain ⟨rfl,rfl⟩:=trodVars_none hV;have k0:=h0;have lt0:∀ x ∈ p0,x.block<W.heap.size:=by obtain ⟨m,hm⟩:=k0;exact DataW.trod_lt m _ _ _ hm
 have k1:=h1;have lt1:∀ x ∈ p1,x.block<W.heap.size:=by obtain ⟨m,hm⟩:=k1;exact DataW.trod_lt m _ _ _ hm
 have k2:=h2;have lt2:∀ x ∈ p2,x.block<W.heap.size:=by obtain ⟨m,hm⟩:=k2;exact DataW.trod_lt m _ _ _ hm
 have k3:=h3;have lt3:∀ x ∈ p3,x.block<W.heap.size:=by obtain ⟨m,hm⟩:=k3;exact DataW.trod_lt m _ _ _ hm
 have k4:=h4;have lt4:∀ x ∈ p4,x.block<W.heap.size:=by obtain ⟨m,hm⟩:=k4;exact DataW.trod_lt m _ _ _ hm
 have k5:=h5;have lt5:∀ x ∈ p5,x.block<W.heap.size:=by obtain ⟨m,hm⟩:=k5;exact DataW.trod_lt m _ _ _ hm
 obtain ⟨a0,len0,cap0,rfl⟩:=okWide_slice Tryz.underlying22 (hval 0 22 v0 rfl rfl);obtain ⟨xs0,hI0,hR0,rfl,hl0,hc0,hm0⟩:=wM h0;obtain ⟨a1,len1,cap1,rfl⟩:=okWide_slice Tryz.underlying24 (hval 1 24 v1 rfl rfl);obtain ⟨rs1,hI1,hR1⟩:=tK Tryz.underlying24 h1;obtain ⟨z2,rfl,rfl,rfl,w2⟩:=open_int Tryz.underlying3 (hval 2 3 v2 rfl rfl) h2;obtain ⟨hk2,hj2⟩:=jW w2;obtain ⟨z3,rfl,rfl,rfl,w3⟩:=open_int Tryz.underlying3 (hval 3 3 v3 rfl rfl) h3;obtain ⟨hk3,hj3⟩:=jW w3;obtain ⟨z4,rfl,rfl,rfl,w4⟩:=open_int Tryz.underlying5 (hval 4 5 v4 rfl rfl) h4;have hk4:=vU w4;obtain ⟨z5,rfl,rfl,rfl,w5⟩:=open_int Tryz.underlying3 (hval 5 3 v5 rfl rfl) h5;obtain ⟨hk5,hj5⟩:=jW w5;clear hA0 hval0;refine (r9 a0 cap0 xs0 a1 len1 cap1 rs1 z2 z3 z4 z5 W hI0 hR0 hl0 hc0 hm0 hI1 hR1 hk2 hj2 hk3 hj3 hk4.1 hk4.2 hk5 hj5).mono fun e W' hpost=>?_
 obtain ⟨_,he,bel,-⟩:=hpost;subst he;exact ⟨_,rfl,_,_,_,[],_,[],hW',trodAll_mk1 (shut_bool Tryz.underlying4 _),(trodAll_cons_mk (Below.trod jJ kZ (of_decide_eq_true kZ) k0 bel lt0) (trodAll_cons_mk (Below.trod jJ kZ (of_decide_eq_true kZ) k1 bel lt1) (trodAll_cons_mk (Below.trod jJ kZ (of_decide_eq_true kZ) k2 bel lt2) (trodAll_cons_mk (Below.trod jJ kZ (of_decide_eq_true kZ) k3 bel lt3) (trodAll_cons_mk (Below.trod jJ kZ (of_decide_eq_true kZ) k4 bel lt4) (trodAll_cons_mk (Below.trod jJ kZ (of_decide_eq_true kZ) k5 bel lt5) trodAll_mk0)))))),rfl,Below.frame bel _,fun h=>by cases h⟩

theorem jf9:(Rows.sturmIsolatesRow.inPlace == Tryz.pinned.checked.prog.inPlace 5)=true:=by kernel_rfl
theorem DS:(Rows.sturmIsolatesRow.unfollowed == Tryz.pinned.checked.prog.unfollowed 5)=true:=by kernel_rfl
theorem DQ:(Rows.sturmIsolatesRow.recurses == Tryz.pinned.checked.prog.recurses 5)=true:=by kernel_rfl
theorem DP:(Rows.sturmIsolatesRow.named == Tryz.pinned.checked.prog.varsNamed 5)=true:=by kernel_rfl
theorem fct:joinedFacts Tryz.pinned.checked.prog 5 Tryz.f5 Rows.sturmIsolatesSpec Rows.sturmIsolatesRow=true:=by
 unfold joinedFacts;refine iD (iD (iD (iD (iD (iD (iD (iD (iD (iD (iD (iD (iD (iD (iD (iD (iD (iD (iD (iD (iD (iD (iD (iD (iD (iD (iD (iD (iD (iD (iD (?_) ?_) ?_) ?_) ?_) ?_) ?_) ?_) ?_) ?_) ?_) ?_) ?_) ?_) ?_) ?_) ?_) ?_) ?_) ?_) ?_) ?_) ?_) ?_) ?_) ?_) ?_) ?_) ?_) ?_) ?_) ?_
 ·kernel_rfl
 ·exact zV
 ·exact zS
 ·kernel_rfl
 ·kernel_rfl
 ·kernel_rfl
 ·kernel_rfl
 ·kernel_rfl
 ·kernel_rfl
 ·exact jf9
 ·exact DS
 ·exact DQ
 ·exact DP
 ·kernel_rfl
 ·kernel_rfl
 ·kernel_rfl
 ·kernel_rfl
 ·kernel_rfl
 ·kernel_rfl
 ·kernel_rfl
 ·kernel_rfl
 ·kernel_rfl
 ·kernel_rfl
 ·kernel_rfl
 ·exact wK
 ·exact BM
 ·rw [zU];kernel_rfl
 ·rw [zT];kernel_rfl
 ·kernel_rfl
 ·kernel_rfl
 ·kernel_rfl
 ·kernel_rfl
theorem over:Rows.sturmIsolatesRow.holds Tryz.pinned (OpenSpec.ofChange Rows.sturmIsolatesSpec) :=
 OpenClaim.holds_of_wide 5 Tryz.f5 rfl rfl rfl rfl rfl rfl rfl ⟨rfl,rfl,rfl,rfl,rfl⟩ rfl rfl rfl rfl rfl kZ Tryz.func5 fct
  (of_decide_eq_true kZ) (by unfold Func.isWrapper;first|(rw [if_pos (by decide +kernel)];kernel_rfl)|(rw [if_neg (by decide +kernel)];exact ⟨rfl,rfl⟩))
  (fun os started H enc _=>lifted os started H enc)

theorem proved:Rows.SturmIsolatesSaid:=over
end Go.Proofs.YtafgmcimcbhhjaaGreat.sturmIsolates
