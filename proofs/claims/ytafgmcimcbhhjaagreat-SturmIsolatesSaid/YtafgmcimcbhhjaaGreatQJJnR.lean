import Derived.Test.YtafgmcimcbhhjaaGreatQJK21
import Derived.Test.YtafgmcimcbhhjaaGreatQJSml
set_option linter.unusedVariables false
namespace Go.Proofs.YtafgmcimcbhhjaaGreat
open Go.ChangeShapes Go.WideShapes Go.ChangeAt Go.RowKit Go.Front Go.Joins Go.Num
def nr(w:World)(r:RH):Prop:=∃ ds es,U32 w r.a r.n r.c ds∧U32 w r.b r.m r.d es
theorem nr.raw{w:World}{r:RH}(h:nr w r)(h1:r.n≤134217728)(h2:r.m≤134217728):∃ q,aS w r q :=
 let ⟨ds,es,a,b⟩:=h;⟨_,ds,es,a,b,rfl,h1,h2⟩
theorem sM{n:Int}(h:(Lit.int .u32 n).wf=true):0≤n∧n≤4294967295:=by
 simp [Lit.wf] at h;exact ⟨h.1,h.2⟩
theorem tU:∀ zs:List Int,(∀ n ∈ zs,0≤n∧n≤4294967295)→∃ ds:List Nat,zs=ds.map (fun d=>((d:Nat):Int))∧Dig ds
 | [],_=>⟨[],rfl,Dig.nil⟩
 | z :: zs,h=>by
  obtain ⟨ds,h1,h2⟩:=tU zs fun n hn=>h n (List.mem_cons_of_mem _ hn)
  obtain ⟨h3,h4⟩:=h z (List.mem_cons_self ..);refine ⟨z.toNat :: ds,by rw [h1,List.map_cons,Int.toNat_of_nonneg h3],?_⟩;intro d hd;rcases List.mem_cons.1 hd with rfl|hd
  ·have:z.toNat≤4294967295:=zo;show z.toNat<W32;unfold W32;omega
  ·exact h2 d hd
theorem qA{H:Type}{enc:TypeId×Value→H}{W:World}{fuel:Nat}{cs:List Value}{x:DataW H×List MemPlace}(h:DataW.trod enc Tryz.prog W 0 (fun _=>true) true fuel 30 cs=some x) :
  ∃ a n c ds,cs=[.slice a n c]∧U32 W a n c ds:=by
 rcases open_ints Tryz.underlying30 Tryz.underlying116 kZ h with ⟨hcs,_⟩|⟨x,l,c,zs,hcs,_,hl,hm,hz,_,hcell,hwz⟩
 ·exact ⟨none,0,0,[],hcs,U32.nil _ _ _ dZ⟩
 ·simp only [maxLen] at hm;have hz':zs.length=c:=by simpa using hz
  obtain ⟨ds,rfl,hd⟩:=tU zs fun n hn=>sM (hwz n hn)
  rw [nXl] at hz';refine ⟨some x,l,c,ds.take l,hcs,by rw [nXk];omega,hl,zo,hd.take l,?_⟩;by_cases hp:0<ds.length
  ·obtain ⟨b,off,rfl,hc⟩:=ints_at hcell (by rw [nXl];exact hp);refine Or.inr ⟨b,off,rfl,fun k hk=>?_⟩;rw [hc k (by rw [nXl];omega)];simp [show k<l by omega,show k<ds.length by omega]
  ·left;omega
theorem tL{H:Type}{enc:TypeId×Value→H}{W:World}{fuel:Nat}{cs:List Value}{x:DataW H×List MemPlace}(h:DataW.trod enc Tryz.prog W 0 (fun _=>true) true fuel 34 cs=some x) :
  ∃ r:RH,cs=i9 r∧nr W r:=by
 obtain ⟨y0,y1,n,hx,hl,h0,h1⟩:=trod_struct2 Tryz.underlying34 h;rw [show Tryz.prog.cellsOf 34=3 by kernel_rfl] at hl;rw [show Tryz.prog.cellsOf 30=1 by kernel_rfl] at h1;rw [show Tryz.prog.cellsOf 32=2 by kernel_rfl] at h0
 match cs,hl with
 | [c0,c1,c2],_ =>
  obtain ⟨z0,z1,m,hy,hl2,h2,h3⟩:=trod_struct2 Tryz.underlying32 h0;rw [show Tryz.prog.cellsOf 30=1 by kernel_rfl] at h3;rw [show Tryz.prog.cellsOf 4=1 by kernel_rfl] at h2;obtain ⟨b,e0,-⟩:=DataW.trod_bool Tryz.underlying4 h2;obtain ⟨a1,n1,d1,ds,e1,u1⟩:=qA h3;obtain ⟨a2,n2,d2,es,e2,u2⟩:=qA h1;simp at e0 e1 e2;subst e0 e1 e2;exact ⟨⟨b,a1,n1,d1,a2,n2,d2⟩,rfl,ds,es,u1,u2⟩
theorem CK{W:World}{base:Nat}{p:Addr}{cs:List Value}(h:W.cells? base p 3=some cs):∃ c0 c1 c2,cs=[c0,c1,c2]∧W.cell? (p.add 0)=some c0∧W.cell? (p.add 1)=some c1∧W.cell? (p.add 2)=some c2:=by
 unfold World.cells? at h;split at h
 ·cases e0:W.cell? (p.add 0) with
  | none=>simp [List.range,List.range.loop,e0] at h
  | some c0 =>
   cases e1:W.cell? (p.add 1) with
   | none=>simp [List.range,List.range.loop,e0,e1] at h
   | some c1 =>
    cases e2:W.cell? (p.add 2) with
    | none=>simp [List.range,List.range.loop,e0,e1,e2] at h
    | some c2 =>
     simp [List.range,List.range.loop,e0,e1,e2] at h;exact ⟨c0,c1,c2,h.symm,rfl,rfl,rfl⟩
 ·cases h
theorem rW{H:Type}{enc:TypeId×Value→H}{W:World}{t:TypeId}{fuel:Nat}{cs:List Value}{x:DataW H×List MemPlace}(ht:Tryz.prog.underlying t=some (.slice 34))(h:DataW.trod enc Tryz.prog W 0 (fun _=>true) true fuel t cs=some x) :
  ∃ s:SH,cs=[s.v]∧∃ rs,RS W s rs∧∀ r ∈ rs,nr W r:=by
 rcases DataW.trod_slice ht h with ⟨hcs,-⟩|⟨a,len,cap,elems,rest,n,-,rfl,-,-,hl,hm,hlen,hel,-,-⟩
 ·exact ⟨⟨none,0,0⟩,hcs,[],RS.nil _ _ _ dZ,fun r hr=>by simp at hr⟩
 ·rw [show Tryz.prog.cellsOf 34=3 by kernel_rfl] at hel;simp only [maxLen] at hm;have each:∀ i,i<len→∃ r:RH,nr W r∧W.cell? ((a.add (i*3)).add 0)=some (.bool r.neg)∧W.cell? ((a.add (i*3)).add 1)=some (.slice r.a r.n r.c)∧W.cell? ((a.add (i*3)).add 2)=some (.slice r.b r.m r.d):=by
   intro i hi;have h1:=hel i hi;rw [List.getElem?_eq_getElem zo,Option.bind_eq_some_iff] at h1;obtain ⟨cs,h2,h3⟩:=h1;obtain ⟨r,rfl,hr⟩:=tL h3;obtain ⟨c0,c1,c2,e,g0,g1,g2⟩:=CK h2;simp only [i9,List.cons.injEq,and_true] at e;obtain ⟨rfl,rfl,rfl⟩:=e;exact ⟨r,hr,g0,g1,g2⟩
  obtain ⟨f,hf⟩:∃ f:Nat→RH,∀ i,i<len→nr W (f i)∧W.cell? ((a.add (i*3)).add 0)=some (.bool (f i).neg)∧W.cell? ((a.add (i*3)).add 1)=some (.slice (f i).a (f i).n (f i).c)∧W.cell? ((a.add (i*3)).add 2)=some (.slice (f i).b (f i).m (f i).d):=by
   refine ⟨fun i=>if h:i<len then Classical.choose (each i h) else default,fun i hi=>?_⟩;simp only [hi,dite_true];exact Classical.choose_spec (each i hi)
  refine ⟨⟨some a,len,cap⟩,rfl,(List.range len).map f,⟨by simp,hl,zo,?_⟩,?_⟩
  ·by_cases h0:len=0
   ·exact Or.inl h0
   ·obtain ⟨b,off,spot⟩:=a;have h1:=(hf 0 zo).2.1;have hspot:spot=none:=by simpa [Addr.add] using World.cell?_spot h1
    subst hspot;refine Or.inr ⟨b,off,rfl,fun k hk=>?_⟩;have e:((List.range len).map f).getD k default=f k:=by simp [show k<len from hk]
    rw [e];obtain ⟨-,g0,g1,g2⟩:=hf k hk;rw [add_plain,add_plain] at g0 g1 g2;exact ⟨g0,g1,g2⟩
  ·intro r hr;obtain ⟨i,hi,rfl⟩:=nYf.1 hr;exact (hf i (List.mem_range.1 hi)).1
theorem tK{H:Type}{enc:TypeId×Value→H}{W:World}{t:TypeId}{a0:Option Addr}{len0 cap0:Nat}{d:DataW H}{p:List MemPlace}(ht:Tryz.prog.underlying t=some (.slice 34))(h:DataW.Trod enc Tryz.prog W 0 (fun _=>true) true t (.slice a0 len0 cap0) d p) :
  ∃ rs,RS W ⟨a0,len0,cap0⟩ rs∧∀ r ∈ rs,nr W r:=by
 obtain ⟨fuel,hf⟩:=h;obtain ⟨⟨a,n,c⟩,hcs,rs,h1,h2⟩:=rW ht hf;simp [Value.cells] at hcs;obtain ⟨rfl,rfl,rfl⟩:=hcs;exact ⟨rs,h1,h2⟩
theorem Df{n i:Nat}(f:Nat→Rat)(h:i<n):((List.range n).map f).getD i 0=f i:=by simp [h]
theorem wE{w:World}{s:SH}{rs:List RH}{k:Nat}(h:RS w s rs)(hi:∀ r ∈ rs,nr w r)(hk:SmD k rs)(hk1:1≤k)(hk2:k≤134217728):∃ qs,cD w s qs∧SzL k qs:=by
 have each:∀ i,∃ q,i<rs.length→aS w (rs.getD i default) q:=by
  intro i;by_cases hl:i<rs.length
  ·have hm:rs.getD i default ∈ rs:=by
    rw [show rs.getD i default=rs[i] by simp [hl]];exact List.getElem_mem hl
   obtain ⟨h1,h2⟩:=hk _ hm;obtain ⟨q,hq⟩:=(hi _ hm).raw zo zo;exact ⟨q,fun _=>hq⟩
  ·exact ⟨0,fun h=>absurd h hl⟩
 have hval:dX aS w rs ((List.range rs.length).map fun i=>Classical.choose (each i)):=by
  refine ⟨by simp,fun i hl=>?_⟩;have hl':i<rs.length:=by simpa using hl
  rw [Df _ hl'];exact Classical.choose_spec (each i) hl'
 refine ⟨_,⟨rs,h,hval⟩,?_⟩;intro q hq;obtain ⟨i,hi',rfl⟩:=List.mem_iff_getElem.1 hq;have hl:i<rs.length:=by simpa using hi'
 have hm:rs.getD i default ∈ rs:=by
  rw [show rs.getD i default=rs[i] by simp [hl]];exact List.getElem_mem hl
 obtain ⟨h1,h2⟩:=hk _ hm;have h3:=hval.2 i (by simpa using hl);rw [show ((List.range rs.length).map fun i=>Classical.choose (each i)).getD i 0=((List.range rs.length).map fun i=>Classical.choose (each i))[i] by simp [hl]] at h3;exact h3.sz hk1 h1 h2
end Go.Proofs.YtafgmcimcbhhjaaGreat
