import Derived.Test.YtafgmcimcbhhjaaGreatQJK15
import Derived.Deep.DeepCutAuto
set_option linter.unusedVariables false
namespace Go.Proofs.YtafgmcimcbhhjaaGreat
open Go.RowKit Go.Front Go.Num
theorem Do:(Tryz.prog.info? 38).map (fun i=>(i.zero,i.size,i.bytes))=some (some (IvV (default,default)),6,112):=by kernel_rfl
def IBk(w:World)(L:Nat)(rs:List RH)(re:Array Value):Prop:=w.heap[L]?=some (.cells ((aA rs).toArray++re) 38 (0,0))
theorem IBk.ext{w w':World}{L:Nat}{rs:List RH}{re:Array Value}(h:IBk w L rs re)(he:Ext w w'):IBk w' L rs re:=he.block h
instance {w w':World} {L:Nat} {rs:List RH} {re:Array Value}:Go.Front.Mv w w' (IBk w L rs re) (IBk w' L rs re):=⟨fun e h=>IBk.ext h e⟩

theorem IBk.lt{w:World}{L:Nat}{rs:List RH}{re:Array Value}(h:IBk w L rs re):L<w.heap.size:=(nXb.1 h).1
theorem IBk.noU{w:World}{L:Nat}{rs:List RH}{re:Array Value}(h:IBk w L rs re)(hre:re.toList.all fj=true):NoU w L :=
 aj h (by rw [Array.toList_append,List.all_append,hre,kG];rfl)
theorem IBk.cell{w:World}{L:Nat}{rs:List RH}{re:Array Value}(h:IBk w L rs re){k j:Nat}(hk:k<rs.length)(hj:j<3):w.cell? ⟨L,k*3+j,none⟩=(i9 (rs.getD k default))[j]?:=by
 rw [ae h,←gB rs hk hj,Array.getElem?_append_left (by rw [List.size_toArray,aL];omega),List.getElem?_toArray]
theorem IBk.at{w:World}{L:Nat}{rs:List RH}{re:Array Value}(h:IBk w L rs re){k:Nat}(hk:k<rs.length):RAt w L (k*3) (rs.getD k default) :=
 ⟨h.cell (j:=0) hk dZ,h.cell (j:=1) hk dZ,h.cell (j:=2) hk dZ⟩
theorem lJ(n:Nat):(Builtin.zeroCells (IvV (default,default)).cells n).toList.all fj=true:=by
 rw [List.all_eq_true];intro x hx;have h0:(IvV (default,default)).cells=#[.bool false,.slice none 0 0,.slice none 0 0,.bool false,.slice none 0 0,.slice none 0 0]:=by rfl
 rw [h0] at hx;simp [Builtin.zeroCells] at hx;obtain ⟨a,-,rfl⟩:=hx;have h7:a % 6=0∨a % 6=1∨a % 6=2∨a % 6=3∨a % 6=4∨a % 6=5:=by omega
 rcases h7 with h7|h7|h7|h7|h7|h7 <;> rw [h7] <;> rfl
def go(w:World)(D:Nat→Prop)(v:Value)(n:Nat)(rs:List RH):Prop:=(v=.slice none 0 0∧rs=[]∧n=0)∨∃ L cap re,v=.slice (some ⟨L,0,none⟩) n cap∧D L∧IBk w L rs re∧rs.length=n*2∧n≤cap∧cap≤9223372036854775807∧rs.length*3+re.size=cap*6∧re.toList.all fj=true
theorem go.nil(w:World)(D:Nat→Prop):go w D (.slice none 0 0) 0 []:=Or.inl ⟨rfl,rfl,rfl⟩
theorem go.ext{w w':World}{D:Nat→Prop}{v:Value}{n:Nat}{rs:List RH}(h:go w D v n rs)(he:Ext w w'):go w' D v n rs :=
 h.imp id fun ⟨L,cap,re,h1,h2,h3,h4⟩=>⟨L,cap,re,h1,h2,h3.ext he,h4⟩
instance {w w':World} {D:Nat→Prop} {v:Value} {n:Nat} {rs:List RH}:Go.Front.Mv w w' (go w D v n rs) (go w' D v n rs):=⟨fun e h=>go.ext h e⟩

theorem go.mono{w:World}{D D':Nat→Prop}{v:Value}{n:Nat}{rs:List RH}(h:go w D v n rs)(hD:∀ k,k<w.heap.size→D k→D' k):go w D' v n rs :=
 h.imp id fun ⟨L,cap,re,h1,h2,h3,h4⟩=>⟨L,cap,re,h1,hD _ h3.lt h2,h3,h4⟩
theorem go.len{w:World}{D:Nat→Prop}{v:Value}{n:Nat}{rs:List RH}(h:go w D v n rs):rs.length=n*2:=by
 rcases h with ⟨-,rfl,rfl⟩|⟨L,cap,re,-,-,-,h,-⟩
 ·rfl
 ·exact h
theorem mH(T ty:TypeId)(hT:Tryz.prog.underlying T=some (.slice 38))(w:World)(D:Nat→Prop)(v:Value)(n:Nat)(rs:List RH)(b off m c:Nat)(ns:List RH)(hown:go w D v n rs)
   (hm:ns.length=m*2)(h0:0<m)(hN:∀ k,k<m*2→RAt w b (off+k*3) (ns.getD k default))(hl:n≤536870912)(hlm:m≤536870912)(hD:∀ k,w.heap.size≤k→D k) :
    ∃ L cap w',(Builtin.append_ #[T,T] ty #[v,.slice (some ⟨b,off,none⟩) m c]).run Tryz.prog w=.ok (.slice (some ⟨L,0,none⟩) (n+m) cap) w'∧go w' D (.slice (some ⟨L,0,none⟩) (n+m) cap) (n+m) (rs++ns)∧aV D w w'∧gP w w':=by
  obtain ⟨i0,hi0,hz0,hz1,hz2⟩:=info_parts Do;have hnl:(aA ns).length=m*i0.size:=by rw [aL,hz1,hm];omega
  have hcs:=kE (w:=w) (b:=b) (off:=off) hm hN;have hgc:∀ need old,need≤9223372036854775807→need≤grownCap w need old 38∧grownCap w need old 38≤9223372036854775807:=fun need old h=>⟨grownCap_ge _ _ _ _,by have:=grownCap_le_maxLen w need old 38 (by simpa [maxLen] using h);simpa [maxLen] using this⟩
  have hzs:(IvV (default,default)).cells.size=6:=by rfl
  rcases hown with ⟨rfl,rfl,rfl⟩|⟨L,cap,re,rfl,h1,h2,hlen,h3,h4,h5,h6⟩
  · have hr:=run_append_nil (P:=Tryz.prog) w T ty _ i0 _ hT hi0 hz0 ⟨b,off,none⟩ m c (aA ns) hnl hcs h0 zo (by rw [hz2];omega)
    obtain ⟨g1,g2⟩:=hgc m 0 zo;have he:Ext w (w.drew.alloc (.cells ((aA ns).toArray++Builtin.zeroCells (IvV (default,default)).cells (grownCap w m 0 38-m)) 38)):=(Ext.drew w).trans (Ext.alloc _ _);rw [Nat.zero_add,List.nil_append];refine ⟨_,_,_,hr,Or.inr ⟨_,_,_,rfl,hD _ (nXe _),heap_alloc_new w.drew _,hm,g1,g2,?_,lJ _⟩,aV.of_ext he,dR he⟩;rw [size_zeroCells,hzs,hm];omega
  · by_cases hroom:n+m≤cap
    · have hcz:((aA rs).toArray++re).size=cap*6:=by rw [Array.size_append,List.size_toArray,aL,h5]
      have hr:=run_append_room (P:=Tryz.prog) w T ty _ i0 hT hi0 L n cap _ h2 ⟨b,off,none⟩ m c (aA ns) hnl hcs (lS _) hroom (by rw [hcz,hz1,hnl,hz1];omega);have hnr:n*i0.size=(aA rs).length:=by rw [aL,hz1,hlen];omega
      have e:(((aA rs).toArray++re).toList.take (n*i0.size)++aA ns++((aA rs).toArray++re).toList.drop (n*i0.size+(aA ns).length)).toArray=(aA (rs++ns)).toArray++(re.toList.drop (aA ns).length).toArray:=by
        rw [hnr,Array.toList_append,dQ,List.take_left,←List.drop_drop,List.drop_left];apply Array.ext';simp
      rw [e] at hr;refine ⟨_,_,_,hr,Or.inr ⟨L,cap,_,rfl,h1,setRow_heap w L _ _ _ _ h2,by rw [nXi,hlen,hm];omega,hroom,h4,?_,?_⟩,⟨rfl,rfl,rfl,by simp,fun k hk hnd=>setRow_other w L k _ (fun e=>hnd (e ▸ h1))⟩,j9 (h2.noU h6) fun k _ hk=>setRow_other w L k _ hk⟩
      · simp only [nXi,List.size_toArray,nXz,Array.length_toList]
        rw [hnl,hz1,hlen,hm];rw [hlen] at h5;omega
      · rw [List.all_eq_true] at h6 ⊢
        intro x hx;exact h6 x (List.mem_of_mem_drop (by simpa using hx))
    · have hr := run_append_grow (P := Tryz.prog) w T ty _ i0 _ hT hi0 hz0 ⟨L, 0, none⟩ n cap (aA rs) (by rw [aL, hz1, hlen]; omega) (fun j u hj => by
          have hlt:j<(aA rs).length:=(List.getElem?_eq_some_iff.1 hj).1;rw [eW,ae h2,Array.getElem?_append_left (by rw [List.size_toArray];exact hlt),List.getElem?_toArray];exact hj) ⟨b,off,none⟩ m c (aA ns) hnl hcs zo zo (growslice_fits zo (by rw [hz2];omega))
      obtain ⟨g1,g2⟩:=hgc (n+m) cap zo;have he:Ext w (w.drew.alloc (.cells ((aA rs).toArray++(aA ns).toArray++Builtin.zeroCells (IvV (default,default)).cells (grownCap w (n+m) cap 38-(n+m))) 38)):=(Ext.drew w).trans (Ext.alloc _ _);refine ⟨_,_,_,hr,Or.inr ⟨w.heap.size,_,Builtin.zeroCells (IvV (default,default)).cells (grownCap w (n+m) cap 38-(n+m)),rfl,hD _ (nXe _),?_,by rw [nXi,hlen,hm];omega,g1,g2,?_,lJ _⟩,aV.of_ext he,dR he⟩
      · unfold IBk
        rw [dQ];have e2:(aA rs++aA ns).toArray=(aA rs).toArray++(aA ns).toArray:=by simp
        rw [e2];exact heap_alloc_new w.drew _
      · rw [size_zeroCells,hzs,nXi,hlen,hm]
        omega
def jo(w:World)(D:Nat→Prop)(v:Value)(n:Nat)(qs:List Rat):Prop:=∃ rs,go w D v n rs∧dX aB w rs qs
theorem jo.nil(w:World)(D:Nat→Prop):jo w D (.slice none 0 0) 0 []:=⟨[],go.nil _ _,dX.nil _ _⟩
theorem jo.ext{w w':World}{D:Nat→Prop}{v:Value}{n:Nat}{qs:List Rat}(h:jo w D v n qs)(he:Ext w w'):jo w' D v n qs:=let ⟨rs,h1,h2⟩:=h;⟨rs,h1.ext he,h2.can_ext he⟩
instance {w w':World} {D:Nat→Prop} {v:Value} {n:Nat} {qs:List Rat}:Go.Front.Mv w w' (jo w D v n qs) (jo w' D v n qs):=⟨fun e h=>jo.ext h e⟩

theorem jo.mono{w:World}{D D':Nat→Prop}{v:Value}{n:Nat}{qs:List Rat}(h:jo w D v n qs)(hD:∀ k,k<w.heap.size→D k→D' k):jo w D' v n qs:=let ⟨rs,h1,h2⟩:=h;⟨rs,h1.mono hD,h2⟩
theorem jo.put{w1 w2:World}{D:Nat→Prop}{v:Value}{n:Nat}{qs:List Rat}{b:Nat}{T:TypeId}{cs:Array Value}(h:jo w1 D v n qs)(T2:dK w1 b T cs w2)(hb:¬ D b):jo w2 D v n qs:=by
 obtain ⟨rs,h1,h2⟩:=h;exact ⟨rs,h1.imp id fun ⟨L,cap,re,g1,g2,g3,g4⟩=>⟨L,cap,re,g1,g2,T2.rest L _ (fun e=>hb (e ▸ g2)) g3,g4⟩,h2.keep T2.keep⟩
theorem jo.len{w:World}{D:Nat→Prop}{v:Value}{n:Nat}{qs:List Rat}(h:jo w D v n qs):qs.length=n*2:=by
 obtain ⟨rs,h1,h2⟩:=h;rw [←h2.1,h1.len]
theorem dX.app{P:World→RH→Rat→Prop}{w:World}{rs ns:List RH}{qs ps:List Rat}(h:dX P w rs qs)(k:dX P w ns ps):dX P w (rs++ns) (qs++ps):=by
 refine ⟨by simp [h.1,k.1],fun i hi=>?_⟩;have h1:=h.1;by_cases hlt:i<qs.length
 ·rw [show (rs++ns).getD i default=rs.getD i default by rw [nXd,List.getElem?_append_left zo,←nXd],show (qs++ps).getD i 0=qs.getD i 0 by rw [nXd,List.getElem?_append_left hlt,←nXd]];exact h.2 i hlt
 ·rw [show (rs++ns).getD i default=ns.getD (i-qs.length) default by rw [nXd,List.getElem?_append_right zo,←nXd,h1],show (qs++ps).getD i 0=ps.getD (i-qs.length) 0 by rw [nXd,List.getElem?_append_right zo,←nXd]];exact k.2 _ (by rw [nXi] at hi;omega)
theorem kk{w:World}{ops:Array Oper}{rest:List Oper}{o:Oper}{a:Act}{Q:Exit→Act→World→Prop}(hgd:o.guard=none)(s x:Operand)(T:TypeId)(hT:Tryz.prog.underlying T=some (.slice 38))
 (ho:o.op=.call { callee:=.builtin .append,args:=#[s,x],argTypes:=#[T,T] })(D:Nat→Prop)(v:Value)(n:Nat)(qs:List Rat)(b off m c:Nat)(ns:List RH)(ps:List Rat)(hs:a.eval s=v)(hown:jo w D v n qs)
 (hx:a.eval x=.slice (some ⟨b,off,none⟩) m c)(hm:ns.length=m*2)(h0:0<m)(hN:∀ k,k<m*2→RAt w b (off+k*3) (ns.getD k default))(hr:dX aB w ns ps)(hl:n≤536870912)(hlm:m≤536870912)(hD:∀ k,w.heap.size≤k→D k)
 (h:∀ (s':SH) w',jo w' D s'.v (n+m) (qs++ps)→aV D w w'→gP w w'→wpList Tryz.prog ops Q rest (a.put o.dst s'.v) w'):wpList Tryz.prog ops Q (o :: rest) a w:=by
 obtain ⟨rs,h1,h2⟩:=hown;refine wpList_plain hgd fun K hK=>?_
 obtain ⟨L,cap,w',hrun,g1,g2,g3⟩:=mH T o.type hT w D v n rs b off m c ns h1 hm h0 hN hl hlm hD;unfold Oper.wp;simp [execOp,ho,resolve,invoke,builtin,hs,hx,hrun,Result.andThen];exact hK _ _ (h ⟨some ⟨L,0,none⟩,n+m,cap⟩ w' ⟨_,g1,(h2.app hr).keep g3⟩ g2 g3)
open Stab
attribute [local go_sem] XW.cell XW.frozen
structure IvS (w:World) (s:SH) (rs:List RH):Prop where
 len:rs.length=s.n*2
 le:s.n≤s.c
 max:s.c≤9223372036854775807
 at':s.n=0∨∃ b off,s.a=some ⟨b,off,none⟩∧∀ k,k<s.n*2→RAt w b (off+k*3) (rs.getD k default)
theorem IvS.ext{w w':World}{s:SH}{rs:List RH}(h:IvS w s rs)(he:Ext w w'):IvS w' s rs :=
 ⟨h.len,h.le,h.max,h.at'.imp id fun ⟨b,off,h1,h2⟩=>⟨b,off,h1,fun k hk=>(h2 k hk).ext he⟩⟩
instance {w w':World} {s:SH} {rs:List RH}:Go.Front.Mv w w' (IvS w s rs) (IvS w' s rs):=⟨fun e h=>IvS.ext h e⟩

theorem IvS.nil(w:World):IvS w ⟨none,0,0⟩ []:=⟨rfl,nXe _,dZ,Or.inl rfl⟩
def yf(w:World)(s:SH)(qs:List Rat):Prop:=∃ rs,IvS w s rs∧dX aS w rs qs
def gV(w:World)(s:SH)(qs:List Rat):Prop:=∃ rs,IvS w s rs∧dX aB w rs qs
theorem gV.ext{w w':World}{s:SH}{qs:List Rat}(h:gV w s qs)(he:Ext w w'):gV w' s qs:=let ⟨rs,h1,h2⟩:=h;⟨rs,h1.ext he,h2.can_ext he⟩
instance {w w':World} {s:SH} {qs:List Rat}:Go.Front.Mv w w' (gV w s qs) (gV w' s qs):=⟨fun e h=>gV.ext h e⟩

theorem yf.len{w:World}{s:SH}{qs:List Rat}(h:yf w s qs):qs.length=s.n*2:=let ⟨_,h1,h2⟩:=h;h2.1.symm.trans h1.len
theorem gV.len{w:World}{s:SH}{qs:List Rat}(h:gV w s qs):qs.length=s.n*2:=let ⟨_,h1,h2⟩:=h;h2.1.symm.trans h1.len
theorem gV.nil(w:World):gV w ⟨none,0,0⟩ []:=⟨[],IvS.nil _,dX.nil _ _⟩
theorem jo.can{w:World}{D:Nat→Prop}{s:SH}{n:Nat}{qs:List Rat}(h:jo w D s.v n qs):s.n=n∧gV w s qs:=by
 obtain ⟨rs,h1,h2⟩:=h;rcases h1 with ⟨e,rfl,rfl⟩|⟨L,cap,re,e,h3,h4,h5,h6,h7,h8⟩
 ·obtain ⟨a,m,c⟩:=s;simp only [SH.v,Value.slice.injEq] at e;obtain ⟨rfl,rfl,rfl⟩:=e;exact ⟨rfl,[],IvS.nil _,h2⟩
 ·obtain ⟨a,m,c⟩:=s;simp only [SH.v,Value.slice.injEq] at e;obtain ⟨rfl,rfl,rfl⟩:=e;exact ⟨rfl,rs,⟨h5,h6,h7,Or.inr ⟨L,0,rfl,fun k hk=>by rw [Nat.zero_add];exact h4.at (by rw [h5];exact hk)⟩⟩,h2⟩
def IAt(w:World)(b o:Nat)(r t:RH):Prop:=w.cell? ⟨b,o,none⟩=some (.bool r.neg)∧w.cell? ⟨b,o+1,none⟩=some (.slice r.a r.n r.c)∧w.cell? ⟨b,o+2,none⟩=some (.slice r.b r.m r.d) ∧
 w.cell? ⟨b,o+3,none⟩=some (.bool t.neg)∧w.cell? ⟨b,o+4,none⟩=some (.slice t.a t.n t.c)∧w.cell? ⟨b,o+5,none⟩=some (.slice t.b t.m t.d)
theorem yf.at{w:World}{ao:Option Addr}{n c:Nat}{qs:List Rat}(h:yf w ⟨ao,n,c⟩ qs){k:Nat}(hk:k<n) :
  ∃ b off r t,ao=some ⟨b,off,none⟩∧b<w.heap.size∧IAt w b (off+k*6) r t∧aS w r (qs.getD (2*k) 0)∧aS w t (qs.getD (2*k+1) 0):=by
 have hl:=h.len;obtain ⟨rs,h1,h2⟩:=h;rcases h1.at' with h0|⟨b,off,h3,h4⟩
 ·simp only at h0;omega
 ·simp only at h3 h4 hl;have g1:=h4 (2*k) zo;have g2:=h4 (2*k+1) zo;rw [show off+2*k*3=off+k*6 by omega] at g1;rw [show off+(2*k+1)*3=off+k*6+3 by omega] at g2;exact ⟨b,off,_,_,h3,nXq _ _ g1.1,⟨g1.1,g1.2.1,g1.2.2,g2.1,g2.2.1,g2.2.2⟩,h2.2 (2*k) zo,h2.2 (2*k+1) zo⟩
theorem gV.at{w:World}{ao:Option Addr}{n c:Nat}{qs:List Rat}(h:gV w ⟨ao,n,c⟩ qs){k:Nat}(hk:k<n) :
  ∃ b off r t,ao=some ⟨b,off,none⟩∧b<w.heap.size∧IAt w b (off+k*6) r t∧aB w r (qs.getD (2*k) 0)∧aB w t (qs.getD (2*k+1) 0):=by
 have hl:=h.len;obtain ⟨rs,h1,h2⟩:=h;rcases h1.at' with h0|⟨b,off,h3,h4⟩
 ·simp only at h0;omega
 ·simp only at h3 h4 hl;have g1:=h4 (2*k) zo;have g2:=h4 (2*k+1) zo;rw [show off+2*k*3=off+k*6 by omega] at g1;rw [show off+(2*k+1)*3=off+k*6+3 by omega] at g2;exact ⟨b,off,_,_,h3,nXq _ _ g1.1,⟨g1.1,g1.2.1,g1.2.2,g2.1,g2.2.1,g2.2.2⟩,h2.2 (2*k) zo,h2.2 (2*k+1) zo⟩
open Sg
theorem AP{a b:Rat}:dJ a b≤0↔a≤b:=by
 unfold dJ;by_cases h:a<b
 ·rw [if_pos h];exact ⟨fun _=>Rat.le_of_lt h,fun _=>by decide⟩
 ·rw [if_neg h];by_cases h2:a=b
  ·rw [if_pos h2];exact ⟨fun _=>by rw [h2];exact Rat.le_refl,fun _=>by decide⟩
  ·rw [if_neg h2];exact ⟨fun k=>absurd k dZ,fun k=>by exfalso;grind⟩
theorem xA:Sz 1 (((1:Int):Rat) / ((2:Int):Rat)):=⟨by decide +kernel,by decide +kernel⟩
end Go.Proofs.YtafgmcimcbhhjaaGreat
/- Unit of package dspcompilerref03. -/
namespace Go.Proofs.YtafgmcimcbhhjaaGreat
open Go.RowKit Go.Front Go.Num Stab
attribute [local go_sem] XW.cell XW.frozen
theorem tf(a:SH)(ds:List Nat)(n:Nat)(w:World)(ha:a.U w ds)(hm:a.n≤1073741824)(hn:n≤65536):au 93 [a.v,.int .i64 (n:Nat)] w SH.v (fun x w'=>U32 w' x.a x.n x.c (digs (val ds*2 ^ n))):=by
 have key:Calls Tryz.prog 93 #[.slice a.a a.n a.c,.int .i64 (n:Nat)] w (pP (digs (val ds*2 ^ n)) w):=iV a.a a.n a.c ds n w ha hm hn;refine key.mono ?_;intro e w' hp;obtain ⟨ao,m,c,rfl,h1,h2⟩:=hp.dpost (ce _);exact ⟨⟨ao,m,c⟩,rfl,h2,h1⟩
set_option maxRecDepth 8000 in
set_option maxHeartbeats 4000000 in
theorem lQ(n:Nat)(w:World)(hn:n≤65536):au 37 [.int .i64 (n:Nat)] w RH.v (fun r w'=>aB w' r ((2 ^ n:Nat):Rat)):=by
 have HX:=Hi (Ext.refl w);obtain ⟨Q,hQ⟩:∃ Q:Rat,Q=((2 ^ n:Nat):Rat):=⟨_,rfl⟩;have HQN:Hid (Q.num=((2 ^ n:Nat):Int)):=Hi (by rw [hQ];exact Rat.num_natCast _);have HQD:Hid (Q.den=1):=Hi (by rw [hQ];exact Rat.den_natCast _);rw [←hQ];clear hQ;unfold au;go_enter Tryz.func37,Tryz.ntmps37
 go_upto_region 1 with fail
 refine nmA ?_;intro w1 hE B2 hz_w1 hr_w1;replace HX:=hE.tr HX;have hs_w1:=hE.size;replace b_B2:=bX3 B2
 go_wp2_with fail
 refine nmA (F:=fun W=>Calls _ _ _ W _) ?_;intro w2 hE B3 hz_w2 hr_w2;refine mV2 hE ?_ B2 HX;clear B2 HX;intro B2 HX;have hs_w2:=hE.size;replace b_B2:=bX3 B2;replace b_B3:=bX3 B3
 change Calls _ _ _ _ _
 refine cM (tf ⟨some ⟨w1.heap.size,0,none⟩,1,1⟩ [1] n _ (oR B3.out) (show (1:Nat)≤1073741824 by decide) hn) fun x5 w5 hE G5=>?_
 refine mV3 hE ?_ B3 B2 HX;clear B3 B2 HX;intro B3 B2 HX;have hs_w5:=hE.size;replace b_B2:=bX3 B2;replace b_B3:=bX3 B3;have hv:val [1]*2 ^ n=2 ^ n:=by show (1+W32*0)*2 ^ n=_;rw [Nat.mul_zero,Nat.add_zero,Nat.one_mul]
 have GU:Hid (U32 w5 x5.a x5.n x5.c (digs (2 ^ n))):=Hi (by have h:=G5.out;rw [hv] at h;exact h);clear G5 hv;obtain ⟨ua,un,uc⟩:=x5;simp only [SH.v];go_wp2;obtain ⟨w9,hw9,T9⟩:=jF HX.out B2.out (nXe _) rfl ⟨false,ua,un,uc,some ⟨w5.heap.size,0,none⟩,1,1⟩;have hU1:=dG w9 1 dZ;rw [T9.size] at hU1
 change bodyPost _ _ _ _ _ ((stR w5 w.heap.size ⟨false,ua,un,uc,some ⟨w5.heap.size,0,none⟩,1,1⟩).alloc (.cells #[.int .u32 1] 116))
 rw [←hw9];exact nXa (v:=RH.v ⟨false,ua,un,uc,some ⟨w5.heap.size,0,none⟩,1,1⟩) (by simp [results,Tryz.results37,go_sem,ae (Ext.nw1.block T9.bx)]) rfl ⟨⟨false,ua,un,uc,some ⟨w5.heap.size,0,none⟩,1,1⟩,rfl,T9.ext.trans Ext.nw1,by rw [HQN.out];exact (decide_eq_false (Int.not_lt.2 (Int.natCast_nonneg _))).symm,by rw [HQN.out,nYh];exact (T9.keep _ _ _ _ GU.out).ext Ext.nw1,by rw [HQD.out,ji];exact hU1⟩
open Sg
def wd6(k:Nat):Rat:=((1:Int):Rat) / ((2 ^ k:Nat):Rat)
theorem sL{k:Nat}(h:k≤256):Sz 9 ((2 ^ k:Nat):Rat):=by
 have h1:(2:Nat) ^ k≤2 ^ 256:=nXp dZ h;have h2:(2:Nat) ^ 256<W32 ^ 9:=by decide
 exact ⟨by rw [Rat.num_natCast,nYh];omega,by rw [Rat.den_natCast];decide⟩
theorem sF{k:Nat}(h:k≤256):Sz 10 (wd6 k):=((Sz.int (z:=1) dZ:Sz 1 ((1:Int):Rat)).div (sL h)).mono dZ
end Go.Proofs.YtafgmcimcbhhjaaGreat
/- The divisors of a polynomial with whole coefficients are small: Gauss's lemma, and a polynomial from its values. Plain facts. -/
namespace Go.Proofs.YtafgmcimcbhhjaaGreat.Sg
open Go.RowKit Go.Front Go.Num Go.Stab Go.Proofs.YtafgmcimcbhhjaaGreat Sie
theorem BW{g a b:Rat}(ha:Mu g a)(hb:Mu g b)(h0:a≠0∨b≠0):Mu g (fH a b):=by
 have habs:∀ {x:Rat},Mu g x→Mu g x.abs:=fun {x} ⟨z,hz,e⟩=>by
  rcases vF x with k|k
  ·exact ⟨z,hz,by rw [k,e]⟩
  ·exact ⟨-z,hz.neg,by rw [k,e];grind⟩
 unfold fH;by_cases ha0:a=0
 ·rw [if_pos ha0];exact habs hb
 ·rw [if_neg ha0];by_cases hb0:b=0
  ·rw [if_pos hb0];exact ha
  ·rw [if_neg hb0];refine habs ?_;obtain ⟨z,hz,rfl⟩:=ha;obtain ⟨y,hy,rfl⟩:=hb;have hg:g≠0:=fun h=>ha0 (by rw [h];grind)
   have hz0:z≠0:=fun h=>ha0 (by rw [h];grind)
   have hy0:y≠0:=fun h=>hb0 (by rw [h];grind)
   have e:z*g / (y*g)=z / y:=ke hg z hy0;rw [e];have h1:=low (z / y);have h2:=aw (a:=z) hy0;have hq0:z / y≠0:=fun h=>hz0 (by rw [←h2,h];grind)
   have hN:=lX hq0;rw [hz.eq,hy.eq] at h1 h2;rw [hz.eq,hy.eq] at hN ⊢;generalize hq:(z.num:Rat) / (y.num:Rat)=q at *
   -- z den=y num
   have h3:z.num*q.den=y.num*q.num:=by
    have:(z.num:Rat)*(q.den:Rat)=(y.num:Rat)*(q.num:Rat):=by rw [←h1,←h2];grind
    have h4:((z.num*q.den:Int):Rat)=((y.num*q.num:Int):Rat):=by
     rw [Rat.intCast_mul,Rat.intCast_mul,Rat.intCast_natCast];exact this
    exact Rat.intCast_inj.1 h4
   have hd:q.num ∣ z.num:=by
    have h4:q.num ∣ z.num*q.den:=⟨y.num,by rw [h3,Int.mul_comm]⟩;have h5:q.num.natAbs ∣ z.num.natAbs*q.den:=by
     have:=Int.natAbs_dvd_natAbs.2 h4
     rwa [Int.natAbs_mul,nYh] at this
    exact Int.natAbs_dvd_natAbs.1 (Nat.Coprime.dvd_of_dvd_mul_right q.reduced h5)
   obtain ⟨k,hk⟩:=hd;refine ⟨(k:Rat),Wh.int k,?_⟩;have h6:=aw (a:=(z.num:Rat)*g) hN;have h7:(z.num:Rat)=(q.num:Rat)*(k:Rat):=by rw [hk,Rat.intCast_mul]
   have h8:((z.num:Rat)*g / (q.num:Rat)-(k:Rat)*g)*(q.num:Rat)=0:=by rw [Rat.sub_eq_add_neg,Rat.add_mul,h6,h7];grind
   rcases nXr.1 h8 with h|h
   ·grind
   ·exact absurd h hN
theorem Ai{g:Rat}(l:List Rat)(h:∀ x ∈ l,Mu g x):Mu g (bj l):=by
 induction l using snoc_ind with
 | h0=>exact Mu.zero g
 | h1 l r ih =>
  rw [ep];have h1:=ih (fun x hx=>h x (List.mem_append_left _ hx));have h2:=h r (by simp);by_cases h3:bj l≠0∨r≠0
  ·exact BW h1 h2 h3
  ·have e1:bj l=0:=Decidable.byContradiction fun h4=>h3 (Or.inl h4)
   have e2:r=0:=Decidable.byContradiction fun h4=>h3 (Or.inr h4)
   rw [e1,e2,rk];exact Mu.zero g
theorem oV(p:List Rat)(i:Nat):seq (ar p) i=(((seq (ar p) i).num:Int):Rat):=by
 rcases Nat.lt_or_ge i (ar p).length with h4|h4
 ·exact (yq p _ (bK h4)).eq
 ·rw [show seq (ar p) i=0 from bh h4];rfl
theorem wg{p:List Rat}(hp:tz p≠[]){t:Int}(h:∀ i,t ∣ (seq (ar p) i).num):t.natAbs=1:=by
 have hm:=aZ hp;have h1:Mu ((t:Rat)*aK p) (aK p):=Ai (tz p) fun x hx=>by
  obtain ⟨i,hi,rfl⟩:=cT hx;rw [bp];have h2:=cS p i;obtain ⟨k,hk⟩:=h i;have h3:=oV p i;refine ⟨(k:Rat),Wh.int k,?_⟩;show seq p i=_;rw [h2,h3,hk,Rat.intCast_mul];grind
 obtain ⟨z,hz,e⟩:=h1;have h2:z*(t:Rat)=1:=by
  have h3:(z*(t:Rat)-1)*aK p=0:=by grind
  rcases nXr.1 h3 with h|h
  ·grind
  ·rw [h] at hm;exact absurd hm Rat.lt_irrefl
 rw [hz.eq,←Rat.intCast_mul] at h2;have h4:z.num*t=1:=Rat.intCast_inj.1 h2;exact Int.natAbs_dvd_natAbs.2 (⟨z.num,by rw [←h4,Int.mul_comm]⟩:t ∣ 1) |> fun h=>Nat.dvd_one.1 h
theorem uj:∀ N:Nat,2≤N→∃ r,2≤r∧r ∣ N∧∀ x y:Int,(r:Int) ∣ x*y→(r:Int) ∣ x∨(r:Int) ∣ y:=by
 intro N hN;have key:∀ n:Nat,∀ r,2≤r→r≤n→r ∣ N→∃ r,2≤r∧r ∣ N∧∀ d,d ∣ N→2≤d→r≤d:=by
  intro n;induction n with
  | zero=>intro r h1 h2;omega
  | succ n ih =>
   intro r h1 h2 h3;by_cases h4:∃ d,d ∣ N∧2≤d∧d<r
   ·obtain ⟨d,d1,d2,d3⟩:=h4;exact ih d d2 zo d1
   ·exact ⟨r,h1,h3,fun d d1 d2=>Classical.byContradiction fun h5=>h4 ⟨d,d1,d2,zo⟩⟩
 obtain ⟨r,h1,h2,h3⟩:=key N N hN (nXe N) (Nat.dvd_refl N);refine ⟨r,h1,h2,fun x y h=>?_⟩;have hg:Nat.gcd r x.natAbs=1∨Nat.gcd r x.natAbs=r:=by
  have a1:=Nat.gcd_dvd_left r x.natAbs;have a2:Nat.gcd r x.natAbs ∣ N:=Nat.dvd_trans a1 h2;have a3:=Nat.le_of_dvd zo a1;have a4:0<Nat.gcd r x.natAbs:=Nat.gcd_pos_of_pos_left _ zo;rcases Nat.lt_or_ge (Nat.gcd r x.natAbs) 2 with h4|h4
  ·left;omega
  ·right
   have:=h3 _ a2 h4;omega
 have hn:r ∣ x.natAbs*y.natAbs:=by
  have:=Int.natAbs_dvd_natAbs.2 h
  rwa [nYh,Int.natAbs_mul] at this
 rcases hg with h4|h4
 ·right
  exact Int.natAbs_dvd_natAbs.1 (by rw [nYh];exact Nat.Coprime.dvd_of_dvd_mul_left h4 hn)
 ·left
  exact Int.natAbs_dvd_natAbs.1 (by rw [nYh,←h4];exact Nat.gcd_dvd_right _ _)
theorem ow{r:Int}{f:Nat→Int}(h:∃ i,¬ r ∣ f i):∃ i,¬ r ∣ f i∧∀ j,j<i→r ∣ f j:=by
 obtain ⟨i,hi⟩:=h;induction i using Nat.strongRecOn with
 | _ i ih =>
  by_cases h2:∃ j,j<i∧¬ r ∣ f j
  ·obtain ⟨j,h3,h4⟩:=h2;exact ih j h3 h4
  ·exact ⟨i,hi,fun j hj=>Decidable.byContradiction fun h=>h2 ⟨j,hj,h⟩⟩
theorem xk{r:Int}{n:Nat}{f:Nat→Int}(h:∀ i,i<n→r ∣ f i):r ∣ iH n f:=by
 induction n with
 | zero=>exact ⟨0,by simp [iH]⟩
 | succ n ih=>exact Int.dvd_add (ih fun i hi=>h i zo) (h n (Nat.lt_succ_self n))
theorem xt{r:Int}:∀ {n:Nat} {f:Nat→Int} {k:Nat},k<n→(∀ i,i<n→i≠k→r ∣ f i)→r ∣ iH n f→r ∣ f k:=by
 intro n;induction n with
 | zero=>intro f k h;omega
 | succ n ih =>
  intro f k hk h hs;have hs':r ∣ iH n f+f n:=hs;by_cases h1:k=n
  ·subst h1;exact (Int.dvd_add_right (xk fun i hi=>h i zo zo)).1 hs'
  ·exact ih zo (fun i hi hne=>h i zo hne) ((Int.dvd_add_left (h n (Nat.lt_succ_self n) zo)).1 hs')
theorem Dp{r:Nat}(hr:∀ x y:Int,(r:Int) ∣ x*y→(r:Int) ∣ x∨(r:Int) ∣ y){f g:Nat→Int}(hf:∃ i,¬ (r:Int) ∣ f i)(hg:∃ i,¬ (r:Int) ∣ g i):∃ n,¬ (r:Int) ∣ iH (n+1) (fun i=>f i*g (n-i)):=by
 obtain ⟨a,ha,ha2⟩:=ow hf;obtain ⟨b,hb,hb2⟩:=ow hg;refine ⟨a+b,fun h=>?_⟩;have h1:=xt (k:=a) zo (fun i hi hne=>?_) h
 ·rw [show a+b-a=b by omega] at h1;rcases hr _ _ h1 with h2|h2
  ·exact ha h2
  ·exact hb h2
 ·rcases Nat.lt_or_ge i a with h2|h2
  ·exact Int.dvd_mul_of_dvd_left (ha2 i h2)
  ·exact Int.dvd_mul_of_dvd_right (hb2 (a+b-i) zo)
theorem xR{q g h:List Rat}(hq:∀ i,Wh (seq q i))(hq0:tz q≠[])(hg:ar g=g)(he:∀ x,evV q x=evV g x*evV h x):∀ i,Wh (seq h i):=by
 have hg0:tz g≠[]:=fun h0=>by
  obtain ⟨y,hy⟩:=mS hq0;exact hy (by rw [he,ax.1 h0 y];grind)
 have hh0:tz h≠[]:=fun h0=>by
  obtain ⟨y,hy⟩:=mS hq0;exact hy (by rw [he,ax.1 h0 y];grind)
 have whs:=oV;have hc:∀ n,(seq q n)*((aK h).den:Rat)=((aK h).num:Rat)*((iH (n+1) (fun i=>(seq g i).num*(seq (ar h) (n-i)).num):Int):Rat):=fun n=>by
  have h1:=f9 (p:=q) (q:=aI g h) (fun x=>by rw [aU,he]) n;rw [h1,dH,iC,oe];have h2:cv (seq g) (seq h) n=aK h*sm (n+1) (fun i=>(((seq g i).num*(seq (ar h) (n-i)).num:Int):Rat)):=by
   rw [←lO];refine sm_congr fun i hi=>?_
   rw [Rat.intCast_mul,←whs h,cS h (n-i)];have h3:=whs g i;rw [hg] at h3;rw [←h3];grind
  rw [h2];have h4:=low (aK h);rw [←h4];grind
 have hd:(aK h).den=1:=by
  apply Classical.byContradiction;intro hd;have hd2:2≤(aK h).den:=by have:=(aK h).den_pos;omega
  obtain ⟨r,r1,r2,r3⟩:=uj _ hd2;have hpf:∀ {p:List Rat},tz p≠[]→∃ i,¬ (r:Int) ∣ (seq (ar p) i).num:=fun {p} hp=>Classical.byContradiction fun hn=>by
   have:=wg hp (t:=(r:Int)) (fun i=>Classical.byContradiction fun h=>hn ⟨i,h⟩);rw [nYh] at this;omega
  have hgf:=hpf hg0;rw [hg] at hgf;obtain ⟨n,hn⟩:=Dp r3 hgf (hpf hh0);apply hn;have h1:=hc n;rw [(hq n).eq] at h1;have h2:(seq q n).num*(aK h).den=(aK h).num*iH (n+1) (fun i=>(seq g i).num*(seq (ar h) (n-i)).num):=by
   apply Rat.intCast_inj.1;rw [Rat.intCast_mul,Rat.intCast_mul,Rat.intCast_natCast];exact h1
  have h3:(r:Int) ∣ (aK h).num*iH (n+1) (fun i=>(seq g i).num*(seq (ar h) (n-i)).num):=by
   rw [←h2];obtain ⟨k,hk⟩:=r2;exact ⟨(seq q n).num*k,by rw [hk,Int.natCast_mul];grind⟩
  rcases r3 _ _ h3 with h4|h4
  ·exfalso;have h5:r ∣ (aK h).num.natAbs:=by
    have:=Int.natAbs_dvd_natAbs.2 h4
    rwa [nYh] at this
   have h6:=Nat.dvd_gcd h5 r2;rw [(aK h).reduced] at h6;have:=Nat.dvd_one.1 h6;omega
  ·exact h4
 intro i;rw [cS h i];exact Wh.mul hd (by rw [whs h i];exact Wh.int _)
theorem AL:∀ (m:Nat) (g:List Rat) (a B R:Rat),ln g≤m+1→0≤B→0≤R→(∀ t:Nat,t≤m→Sg.Bd B (evV g (a+(t:Rat))))→(∀ t:Nat,t≤m→Sg.Bd R (a+(t:Rat)))→∀ i,Sg.Bd (B*(2*R+3) ^ m) (seq g i):=by
 intro m;induction m with
 | zero =>
  intro g a B R hl hB hR hv hp i;rw [Rat.pow_zero,Rat.mul_one];cases i with
  | zero=>rw [←fo hl (a+((0:Nat):Rat))];exact hv 0 (nXe 0)
  | succ i=>rw [Ba zo];exact ⟨by grind,hB⟩
 | succ m ih =>
  intro g a B R hl hB hR hv hp i;obtain ⟨c,hc⟩:∃ c,c=a+((m+1:Nat):Rat):=⟨_,rfl⟩;have hcv:=hv (m+1) (nXe _);have hcR:=hp (m+1) (nXe _);rw [←hc] at hcv hcR;have one:∀ t:Rat,∀ x,evV [t] x=t:=fun t x=>by show 0*x+t=t;grind
  obtain ⟨f,hf⟩:∃ f,f=gY g [evV g c]:=⟨_,rfl⟩;have hfx:∀ x,evV f x=evV g x-evV g c:=fun x=>by rw [hf,et,one]
  obtain ⟨g1',⟨g1,rfl⟩,h1⟩:=qS (Pf.ev f) (a:=c) (by rw [hfx];grind);have hlf:ln f≤m+2:=by
   have h2:=je g [evV g c];have h3:ln [evV g c]≤1:=ah [evV g c];rw [hf];omega
  have hl1:ln g1≤m+1:=by
   by_cases h2:tz g1=[]
   ·show (tz g1).length≤_;rw [h2];exact Nat.zero_le _
   ·have h3:=po h1 h2;have h4:ln g1<ln f:=h3;omega
  have hmul:∀ d y:Rat,1≤d→Sg.Bd (2*B) (d*y)→Sg.Bd (2*B) y:=fun d y hd hb=>by
   rcases tot 0 y with h|h
   ·have h2:=cz hd h;exact ⟨by grind,by have:=hb.2;grind⟩
   ·have h2:=cz hd (show 0≤-y by grind);exact ⟨by have:=hb.1;grind,by grind⟩
  have hv1:∀ t:Nat,t≤m→Sg.Bd (2*B) (evV g1 (a+(t:Rat))):=fun t ht=>by
   have h2:=h1 (a+(t:Rat));rw [hfx] at h2;have h3:((m+1:Nat):Rat)-(t:Rat)=((m+1-t:Nat):Rat):=by
    have:((m+1:Nat):Rat)=((m+1-t:Nat):Rat)+(t:Rat):=by rw [←Rat.natCast_add];congr 1;omega
    grind
   have h4:(1:Rat)≤((m+1-t:Nat):Rat):=by exact_mod_cast (show 1≤m+1-t by omega)
   refine hmul _ _ h4 ?_;have h5:((m+1-t:Nat):Rat)*evV g1 (a+(t:Rat))=-(evV g (a+(t:Rat))-evV g c):=by rw [h2,←h3,hc];grind
   rw [h5,show (2:Rat)*B=B+B by grind];exact ((hv t zo).sub hcv).neg
  have hI:=ih g1 a (2*B) R hl1 (by grind) hR hv1 (fun t ht=>hp t zo);have hs:=pk h1 i;have hsg:seq g i=seq f i+seq [evV g c] i:=by rw [hf,th];grind
  have hcon:Sg.Bd B (seq [evV g c] i):=by
   cases i with
   | zero=>exact hcv
   | succ i=>exact ⟨by show -B≤(0:Rat);grind,by show (0:Rat)≤B;exact hB⟩
  have hP:0≤(2*R+3) ^ m:=Rat.pow_nonneg (by grind);have hsh:Sg.Bd (2*B*(2*R+3) ^ m) (sh (seq g1) i):=by
   cases i with
   | zero =>
    have:=mX (show 0≤2*B by grind) hP;exact ⟨by show -_≤(0:Rat);grind,by show (0:Rat)≤_;exact this⟩
   | succ i=>exact hI i
  have hP1:1≤(2*R+3) ^ m:=by
   have:∀ k:Nat,(1:Rat)≤(2*R+3) ^ k:=fun k=>by
    induction k with
    | zero=>rw [Rat.pow_zero];exact Rat.le_refl
    | succ k ihk =>
     rw [Rat.pow_succ];have h6:=cz ihk (show 0≤2*R+3 by grind);grind
   exact this m
  rw [hsg,hs,Rat.pow_succ];refine ((hsh.sub (hcR.mul (hI i))).add hcon).mono ?_;have h7:=aY hP1 hB;generalize (2*R+3) ^ m=P at *
  grind
theorem Av{A x:Rat}(hA:1≤A)(hx:A≤x):∀ p:List Rat,(∀ y ∈ p,Wh y∧Sg.Bd (A-1) y)→tz p≠[]→Big 1 (evV p x):=by
 intro p;induction p with
 | nil=>intro _ h;exact absurd rfl h
 | cons c p ih =>
  intro h h0;obtain ⟨hc1,hc2⟩:=h c (List.mem_cons_self ..);have e:evV (c :: p) x=evV p x*x+c:=rfl;rw [e];by_cases h1:tz p=[]
  ·rw [ax.1 h1 x];have hc0:c≠0:=fun hc=>h0 (ax.2 fun y=>by show evV p y*y+c=0;rw [ax.1 h1 y,hc];grind)
   obtain ⟨z,hz⟩:=Wh.iff.1 hc1;rw [hz] at hc0 ⊢;have hz0:z≠0:=fun h=>hc0 (by rw [h];rfl)
   rcases (show 1≤z∨z≤-1 by omega) with h2|h2
   ·left
    have:((1:Int):Rat)≤(z:Rat):=Rat.intCast_le_intCast.2 h2;have e1:((1:Int):Rat)=1:=rfl;grind
   ·right
    have:(z:Rat)≤((-1:Int):Rat):=Rat.intCast_le_intCast.2 h2;have e1:((-1:Int):Rat)=-1:=rfl;grind
  ·have h2:=ih (fun y hy=>h y (List.mem_cons_of_mem _ hy)) h1;obtain ⟨b1,b2⟩:=hc2;rcases h2 with h3|h3
   ·left
    have h4:=cz h3 (show 0≤x by grind);grind
   ·right
    have h4:=cz h3 (show 0≤x by grind);grind
theorem Cm{A X x:Rat}(hA:0≤A)(hx:0≤x)(hX:x≤X):∀ p:List Rat,(∀ y ∈ p,Sg.Bd A y)→Sg.Bd (A*(X+1) ^ p.length) (evV p x):=by
 intro p;induction p with
 | nil =>
  intro _;rw [List.length_nil,Rat.pow_zero,Rat.mul_one];exact ⟨by show -A≤(0:Rat);grind,hA⟩
 | cons c p ih =>
  intro h;have h1:=ih (fun y hy=>h y (List.mem_cons_of_mem _ hy));have h2:=h c (List.mem_cons_self ..);have hP:∀ k:Nat,(1:Rat)≤(X+1) ^ k:=fun k=>by
   induction k with
   | zero=>rw [Rat.pow_zero];exact Rat.le_refl
   | succ k ihk =>
    rw [Rat.pow_succ];have h6:=cz ihk (show 0≤X+1 by grind);grind
  have e:evV (c :: p) x=evV p x*x+c:=rfl;rw [e,List.length_cons,Rat.pow_succ];refine ((h1.mul (show Sg.Bd X x from ⟨by grind,hX⟩)).add h2).mono ?_;have h3:=aY (hP p.length) hA;generalize (X+1) ^ p.length=P at *
  grind
theorem Bh{p:List Rat}(h:∀ i,Wh (seq p i)){x:Rat}(hx:Wh x):Wh (evV p x):=by
 have key:∀ p:List Rat,(∀ i,Wh (seq p i))→Wh (evV p x):=by
  intro p;induction p with
  | nil=>intro _;exact Wh.zero
  | cons c p ih=>intro h;exact ((ih fun i=>h (i+1)).mul hx).add (h 0)
 exact key p h
theorem qV{q d:List Rat}{S:Nat}(hq:∀ x ∈ q,Wz S x)(hq0:tz q≠[])(hd:Dv (evV d) (evV q))(hn:q.length≤1000):∀ x ∈ ar d,Wz ((S+1)*(2*q.length+1)) x:=by
 have hd0:tz d≠[]:=fun h0=>by
  obtain ⟨y,hy⟩:=mS hq0;obtain ⟨c,-,h1⟩:=hd;exact hy (by rw [h1,ax.1 h0 y];grind)
 have hdl:=gg hd hq0;have hql:=ah q;obtain ⟨g,hg⟩:∃ g,g=ar d:=⟨_,rfl⟩;have hgg:ar g=g:=by
  rw [hg];exact (cg (p:=d) (q:=ar d) (aZ hd0) (fun n=>by rw [cS d n];grind)).symm
 obtain ⟨h,hh⟩:∃ h:List Rat,∀ x,evV q x=evV g x*evV h x:=by
  obtain ⟨c,hc,h1⟩:=hd;obtain ⟨h,hh⟩:=hc.smul (aK d);exact ⟨h,fun x=>by rw [h1,←hh,cj d x,hg];grind⟩
 have hqw:∀ i,Wh (seq q i):=fun i=>by rw [(iI hq i).1];exact Wh.int _
 have hhw:=xR hqw hq0 hgg hh;have hgw:∀ i,Wh (seq g i):=fun i=>by
  have:=oV d i;rw [←hg] at this;rw [this];exact Wh.int _
 obtain ⟨A,hA⟩:∃ A:Nat,A=W32 ^ S:=⟨_,rfl⟩;have hA1:1≤A:=by rw [hA];exact nYm ay
 have hA1':(1:Rat)≤(A:Rat):=by exact_mod_cast hA1
 obtain ⟨m,hm⟩:∃ m,ln g=m+1:=⟨ln g-1,by
  have:1≤ln g:=dM (by rw [hg,aX];exact fun k=>hd0 (bH.1 k));omega⟩
 have hmq:m+1≤q.length:=by
  have:ln g=(tz d).length:=by show (tz g).length=_;rw [hg,aX,aC]
  omega
 obtain ⟨X,hX⟩:∃ X:Nat,X=A+m:=⟨_,rfl⟩;have hcoef:∀ y ∈ q,Wh y∧Sg.Bd ((A:Rat)-1) y:=fun y hy=>by
  obtain ⟨w1,w2⟩:=hq y hy;refine ⟨w1,?_⟩;rw [w1.eq];have h1:-((A:Int)-1)≤y.num∧y.num≤(A:Int)-1:=by rw [hA];omega
  have h2:=Rat.intCast_le_intCast.2 h1.1;have h3:=Rat.intCast_le_intCast.2 h1.2;rw [Rat.intCast_neg,Rat.intCast_sub,Rat.intCast_natCast] at h2;rw [Rat.intCast_sub,Rat.intCast_natCast] at h3;exact ⟨h2,h3⟩
 have hB:=fun (t:Nat) (ht:t≤m)=>Cm (A:=(A:Rat)) (X:=(X:Rat)) (x:=(A:Rat)+(t:Rat)) (by grind) (by
  have:(0:Rat)≤(t:Rat):=by exact_mod_cast Nat.zero_le t
  grind) (by rw [hX,←Rat.natCast_add];exact_mod_cast (show A+t≤A+m by omega)) q (fun y hy=>(hcoef y hy).2.mono (by grind))
 have hval:∀ t:Nat,t≤m→Sg.Bd ((A:Rat)*((X:Rat)+1) ^ q.length) (evV g ((A:Rat)+(t:Rat))):=fun t ht=>by
  have h1:=Av (A:=(A:Rat)) (x:=(A:Rat)+(t:Rat)) hA1' (by
   have:(0:Rat)≤(t:Rat):=by exact_mod_cast Nat.zero_le t
   grind) q hcoef hq0
  have h2:=hB t ht;have hxw:Wh ((A:Rat)+(t:Rat)):=by
   have h3:∀ k:Nat,Wh (k:Rat):=fun k=>Rat.den_natCast k
   exact (h3 A).add (h3 t)
  have hv1:=Bh hgw hxw;have hv2:=Bh hhw hxw;rw [hh] at h1 h2;generalize evV g ((A:Rat)+(t:Rat))=u at *
  generalize evV h ((A:Rat)+(t:Rat))=v at *
  generalize (A:Rat)*((X:Rat)+1) ^ q.length=C at *
  have hvz:v≠0:=fun h0=>by
   rw [h0,nYb] at h1;rcases h1 with h1|h1 <;> grind
  obtain ⟨z,hz⟩:=Wh.iff.1 hv2;have hz0:z≠0:=fun h=>hvz (by rw [hz,h];rfl)
  obtain ⟨c1,c2⟩:=h2;rcases (show 1≤z∨z≤-1 by omega) with h3|h3
  ·have h4:(1:Rat)≤v:=by
    have:((1:Int):Rat)≤(z:Rat):=Rat.intCast_le_intCast.2 h3;rw [hz];exact this
   rcases tot 0 u with h5|h5
   ·have h6:=aY h4 h5;exact ⟨by grind,by grind⟩
   ·have h6:=aY h4 (show 0≤-u by grind);exact ⟨by grind,by grind⟩
  ·have h4:v≤-1:=by
    have:(z:Rat)≤((-1:Int):Rat):=Rat.intCast_le_intCast.2 h3;rw [hz];exact this
   rcases tot 0 u with h5|h5
   ·have h6:=aY (show 1≤-v by grind) h5;exact ⟨by grind,by grind⟩
   ·have h6:=aY (show 1≤-v by grind) (show 0≤-u by grind);exact ⟨by grind,by grind⟩
 have hXr:∀ t:Nat,t≤m→Sg.Bd (X:Rat) ((A:Rat)+(t:Rat)):=fun t ht=>by
  have h1:(A:Rat)+(t:Rat)≤(X:Rat):=by rw [hX,←Rat.natCast_add];exact_mod_cast (show A+t≤A+m by omega)
  have h2:(0:Rat)≤(A:Rat)+(t:Rat):=by rw [←Rat.natCast_add];exact_mod_cast Nat.zero_le (A+t)
  exact ⟨by grind,h1⟩
 have hX0:(0:Rat)≤(X:Rat):=by exact_mod_cast Nat.zero_le X
 have hC0:(0:Rat)≤(A:Rat)*((X:Rat)+1) ^ q.length:=mX (by grind) (Rat.pow_nonneg (by grind));have hfin:=AL m g (A:Rat) _ (X:Rat) zo hC0 hX0 hval hXr;have hW:2*X+3≤W32 ^ (S+1):=by
  have e1:W32 ^ (S+1)=A*4294967296:=by rw [nXt,←hA];rfl
  omega
 have hbound:A*(X+1) ^ q.length*(2*X+3) ^ m<W32 ^ ((S+1)*(2*q.length+1)):=by
  have b1:(X+1) ^ q.length≤W32 ^ ((S+1)*q.length):=by rw [Nat.pow_mul];exact Nat.pow_le_pow_left zo _
  have b2:(2*X+3) ^ m≤W32 ^ ((S+1)*m):=by rw [Nat.pow_mul];exact Nat.pow_le_pow_left hW _
  have b3:A*(X+1) ^ q.length*(2*X+3) ^ m≤W32 ^ S*W32 ^ ((S+1)*q.length)*W32 ^ ((S+1)*m):=by
   rw [hA] at *
   exact nXx (nXg _ b1) b2
  refine nYk b3 ?_;rw [←Nat.pow_add,←Nat.pow_add];refine Nat.pow_lt_pow_right dZ ?_;have e2:(S+1)*(2*q.length+1)=(S+1)*q.length+(S+1)*q.length+(S+1):=by rw [Nat.mul_add,Nat.mul_one,show 2*q.length=q.length+q.length by omega,Nat.mul_add]
  have e3:(S+1)*m≤(S+1)*q.length:=nXg _ zo;omega
 intro x hx;rw [←hg] at hx;obtain ⟨i,hi,rfl⟩:=cT hx;have h1:=hfin i;have hw:=hgw i;refine ⟨hw,?_⟩;have h2:Sg.Bd (((A*(X+1) ^ q.length*(2*X+3) ^ m:Nat):Int):Rat) (((seq g i).num:Int):Rat):=by
  rw [←hw.eq,Rat.intCast_natCast,Rat.natCast_mul,Rat.natCast_mul,Rat.natCast_pow,Rat.natCast_pow,Rat.natCast_add,Rat.natCast_add,Rat.natCast_mul];exact h1
 obtain ⟨c1,c2⟩:=h2;rw [←Rat.intCast_neg] at c1;have c3:=Rat.intCast_le_intCast.1 c1;have c4:=Rat.intCast_le_intCast.1 c2;show (seq g i).num.natAbs<_;omega
end Go.Proofs.YtafgmcimcbhhjaaGreat.Sg
/- Sizes for chains of a polynomial and of its divisors. Plain facts. -/
namespace Go.Proofs.YtafgmcimcbhhjaaGreat
open Go.RowKit Go.Front Go.Num Stab Sg
theorem Ak{q:List Rat}{L:Nat}(hq:bq q=q)(hw:∀ x ∈ ar q,Wz L x)(hL:1≤L):∃ D,0<D∧D<W32 ^ L∧FrL L D q:=by
 obtain ⟨D,h1,h2,h3⟩:=mY hw (aX q) hL;rw [(iT q).mon,hq] at h3;exact ⟨D,h1,h2,h3⟩
def KN(K S n:Nat):Prop:=3*((((S+1)*(2*n+1)+2)*(2*n)+(S+1)*(2*n+1)+2)*(2*n+3))≤K
theorem Ca{K S S' n n':Nat}(h:3*(((S+2)*(2*n)+S+2)*(2*n+3))≤K)(hS:S'≤S)(hn:n'≤n):KZ K S' n':=by
 right
 refine nXf (nXg 3 (nXx ?_ zo)) h;have:(S'+2)*(2*n')≤(S+2)*(2*n):=nXx zo zo;omega
theorem KN.kz{K S S' n n':Nat}(h:KN K S n)(hS:S'≤(S+1)*(2*n+1))(hn:n'≤n):KZ K S' n':=Ca (S:=(S+1)*(2*n+1)) h hS hn
theorem KN.self{K S n n':Nat}(h:KN K S n)(hn:n'≤n):KZ K S n':=h.kz (by
 have:(S+1)*1≤(S+1)*(2*n+1):=nXg _ zo;omega) hn
theorem Cu{K S n:Nat}{p q:List Rat}(hp:∀ x ∈ p,Wz S x)(hp0:tz p≠[])(hl:p.length≤n)(hn:n≤1000)(hK:KN K S n)(hd:Dv (evV q) (evV p))(hm:bq q=q):FrK K q:=by
 have h1:=qV hp hp0 hd zo;have h2:=gg hd hp0;have h3:=ah p;have h4:tz q=q:=by rw [←hm,dI]
 rw [h4] at h2;have hL:1≤(S+1)*(2*p.length+1):=Nat.mul_pos zo zo;have hL2:(S+1)*(2*p.length+1)≤(S+1)*(2*n+1):=nXg _ zo;obtain ⟨D,d1,d2,d3⟩:=Ak hm h1 hL;exact ⟨_,D,hL,d1,d2,d3,hK.kz hL2 zo⟩
theorem yW{p q:List Rat}(h0:tz p≠[])(h:Dv (evV q) (evV p)):Dv (evV q) (evV (ar p)):=by
 obtain ⟨c,hc,h1⟩:=h;have hm:=aZ h0;refine ⟨_,hc.smul (aK p)⁻¹,fun x=>?_⟩;have h2:=cj p x;have h3:=nYj (aK p) (fun k=>by rw [k] at hm;exact absurd hm Rat.lt_irrefl);rw [h1 x] at h2;have h4:(aK p)⁻¹*(evV q x*c x)=evV (ar p) x:=by rw [h2,←nYd,nYc _ (aK p),h3,Rat.one_mul]
 rw [←h4];grind
theorem yk{p:List Rat}(h0:tz p≠[]):Dv (evV (sqfV p)) (evV p):=by
 obtain ⟨g,q1,hg,-,-,h1,-⟩:=(kx h0).dv;exact ⟨g,hg,fun x=>by rw [h1 x];grind⟩
theorem zE(p:List Rat):bq (sqfV p)=sqfV p:=j7 _
theorem qO{K S D n:Nat}{p:List Rat}(hS:1≤S)(hD:0<D)(hD2:D<W32 ^ S)(hf:FrL S D p)(hl:p.length≤n)(hK:KN K S n):FrK K p:=⟨S,D,hS,hD,hD2,hf,hK.self hl⟩
theorem uG{K S D n:Nat}{p:List Rat}(hD:0<D)(hf:FrL S D p)(h0:tz p≠[])(hl:p.length≤n)(hn:n≤1000)(hK:KN K S n):FrK K (sqfV p):=by
 refine Cu (p:=ar p) (cY (fun x hx=>hf x (eB hx)) hD) (by rw [aX];exact fun k=>h0 (bH.1 k)) ?_ hn hK (yW h0 (yk h0)) (zE p);rw [aC];exact nXf (ah p) hl
def isS(S n:Nat):Nat:=(S+1)*(2*n+1)
def isY(S n T:Nat):Nat:=yu (isS S n) n T+8
def isM(S n T:Nat):Nat:=isY S n T+T+1
def isT(S n T:Nat):Nat:=3*T+isM S n T+1
theorem Bm{T:Nat}{x:Rat}(h:Sz T x):-((W32 ^ T:Nat):Rat)≤x∧x≤((W32 ^ T:Nat):Rat):=(nc h (Nat.dvd_refl _)).bd x.den_pos
theorem Dc{K S n:Nat}{l:List Rat}(hf:FrB S l)(hl:l.length≤n)(hn:n≤1000)(h0:tz l≠[])(hK:KN K S n):FrK K (tz l)∧FrK K (sqfV (tz l)):=by
 obtain ⟨h1,D,h2,h3,h4⟩:=hf.tz;have h5:=ah l;exact ⟨qO h1 h2 h3 h4 zo hK,uG h2 h4 (by rw [aM];exact h0) zo hn hK⟩
theorem Br{S n:Nat}{l:List Rat}(hf:FrB S l)(hl:l.length≤n)(hn:n≤1000)(h0:tz l≠[]):∀ y ∈ ar (sqfV (tz l)),Wz (isS S n) y:=by
 obtain ⟨h1,D,h2,h3,h4⟩:=hf.tz;have h5:=ah l;have h00:tz (tz l)≠[]:=by rw [aM];exact h0
 have hsl:(ar (tz l)).length≤n:=by rw [aC,aM];omega
 have:=qV (q:=ar (tz l)) (d:=sqfV (tz l)) (S:=S) (cY (fun x hx=>h4 x (eB hx)) h2) (by rw [aX];exact fun k=>h00 (bH.1 k)) (yW h00 (yk h00)) zo;exact fun y hy=>(this y hy).mono (nXg _ zo)
end Go.Proofs.YtafgmcimcbhhjaaGreat
